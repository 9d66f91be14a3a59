/- The logic that the walks are in, piece P3. No condition. -/
import Derived.Test.YtdcgbodbejgliaaGreatDoorXTopThereAndBackCatP2
import Derived.Deep.Upon
import Derived.OrdersIn
import Derived.RangeFuncIn
import Derived.RangeFuncLeaves
import Derived.RangeFuncRecord
open Option renaming some->V
open Array renaming getD_eq_getD_getElem?->lA,length_toList->lZ,getElem?_setIfInBounds_ne->wW,getElem?_push->nv,eq_empty_of_size_eq_zero->s4,replicate->oj,getElem?_append->pZ,range->nw,size_append->s5,toList_map->ZM
open Bool renaming and_eq_true->bR,or_eq_false_iff->Rq,not_eq_false'->Ro
open Go.Addr renaming add_lit->gr
open Go.Builtin renaming zeroCells->dJ,append_->iD,copy_->qE,firstCells->wX,clear_->uD,nextslicecap->Rr
open Go.Call renaming operands->qF
open Go.Deferred renaming ofValue->mw
open Go.Fence renaming wide->gu
open Go.Instr renaming sliceAt->l5,makeSlice->uH,sureAddr->Gq,mapUpdate->Gn,next->Gp,alloc->Rw,storeAt->RC,makeMap->RB,box->Rx
open Go.IntWalk renaming i64_in->wZ
open Go.MapKept renaming run_findKey->Gl,run_setObj_map->ZT
open Go.Question renaming forced->R9
open Go.Region renaming wanted->d_
open Go.Result renaming andThen_ok->mL
open Go.Sem renaming run_bind->kP,run->Gy
open Go.Utf8 renaming decode->K1
open Int renaming natCast_mul->RD
open List renaming length_map->au,getElem?_eq_getElem->bD,mem_cons->bp,mem_cons_of_mem->cw,getD->bc,mem_singleton->cV,length_append->cZ,getElem?_eq_some_iff->eZ,getD_eq_getElem?_getD->gk,length_take->dq,mem_map->cL,all_eq_true->eo,getElem_mem->eA,getElem?_take->fS,not_mem_nil->fu,getElem?_append->gV,replicate->ia,getElem?_drop->iN,map_cons->fT,nodup_cons->iO,drop_eq_nil_of_le->kN,range->gM,size_toArray->lF,eq_nil_of_length_eq_zero->qI,append_assoc->l7,length_drop->nB,getElem?_map->o_,append_nil->qH,nodup_nil->qK,take_of_length_le->R3,length_replicate->Z',mapM_cons->alh
open List.cons renaming injEq->Gs
open Nat renaming mul_le_mul_right->cC,eq_of_beq_eq_true->cT,le_refl->bm,beq->aM,add_mul->bM,le_trans->dZ,eq_zero_or_pos->pf,blt->eS,blt_eq->gW,zero_add->j3,beq_refl->jv,le_succ->ku,add_zero->l8,mul_comm->ow,mod_eq_of_lt->CC,div_lt_iff_lt_mul->zS,le_mul_of_pos_right->R5,mul_add_mod->CD,mod_lt->rP,div_add_mod->R4,le_of_not_lt->ale,pos_of_ne_zero->R8,div_eq_of_lt->alf,mul_add_div->alg
open Option renaming map_eq_some_iff->CE
open Prod.mk renaming injEq->iF
open True renaming intro->KZ
namespace Go.Cat
set_option linter.all false
section
open Go.RowKit
variable[M:cD][G:ed]
def fQ(id:Nat)(c:Chunk):Hp->Hp
 |[]=>[]
 |(i,c')::r=>bif aM i id then(i,c)::fQ id c r else(i,c')::fQ id c r
def ij(st:ak)(d:Nat)(c:Chunk):ak:=⟨λt=>er 2 d (st.f t),(d,c)::iq d st.H⟩
def Ty(id:Nat)(rows:List (List AV)):Chunk->Chunk
 |.box cells=>.box (cells.map (sb (.s rows) 1 id))
 |.own E K r=>.own E K r
 |.mp ag r=>.mp ag r
 |.lp l e R L=>.lp l e R (L.map λp=>(p.1,sb (.s rows) 2 id p.2))
 |.si s pos=>.si s pos
def oG(id:Nat)(rows:List (List AV)):Hp->Hp
 |[]=>[]
 |(i,c)::r=>bif aM i id then oG id rows r else(i,Ty id rows c)::oG id rows r
def Ma(id:Nat)(rows:List (List AV))(st:ak):ak:=⟨λt=>sb (.s rows) 2 id (st.f t),oG id rows st.H⟩
def LR(T:TT)(s t id:Nat)(st:ak)(k:AV->ak->Prop):Prop:=
 match T s with
 |some i=>match i.kind with
  |.slice e=>match T e with
   |some j=>match j.kind with
    |.int .u8=>bif aM s t then
      match dP id st.H with
      |some (.own _ _ rows)=>rows≠[]/\k (.s rows) (Ma id rows st)
      |_=>False
     else False
    |_=>False
   |none=>False
  |_=>False
 |none=>False
def LN(T:TT)(t d:Nat)(st:ak)(k:AV->ak->Prop):Prop:=
 match T t with
 |some i=>bif jH (bZ i.zero)then k (.b d 0) (ij st d (.box (bx (bZ i.zero))))else False
 |none=>False
def LP(x:AV)(d:Nat)(st:ak)(k:AV->ak->Prop):Prop:=
 bif jH x then k (.b d 0) (ij st d (.box ((bx x).map (er 1 d))))else False
def B1(n:Nat)(cells:List AV)(off:Nat)(y:AV)(k:List AV->Prop):Prop:=
 bif jH y&&(aM (bx y).length n&&Nat.ble (off+n) cells.length)then∃C,cells.take off++(bx y++cells.drop (off+n))=C/\k C else False
def vn(T:TT)(t:Nat)(x y:AV)(st:ak)(k:AV->ak->Prop):Prop:=
 match T t with
 |some i=>match x with
  |.b id off=>match dP id st.H with
   |some (.box cells)=>B1 i.cells cells off y λxB=>k (.v undef) ⟨st.f,fQ id (.box xB) st.H⟩
   |_=>False
  |.e id K m j=>match dP id st.H with
   |some (.own E K' rows)=>bif (bx y).all fx then∃row,rows[m]?=V row/\K=K'/\B1 i.cells row j y λagm=>∃R,rows.set m agm=R/\k (.v undef) ⟨st.f,fQ id (.own E K' R) st.H⟩else False
   |_=>False
  |_=>False
 |none=>False
def pj(rows:List (List AV))(n:Nat):Prop:=∀r,r∈rows->r.length=n
def Qn(x:AV)(not:Nat)(H:Hp)(k:List (List AV)->Prop):Prop:=
 match x with
 |.s rows=>k rows
 |.v (.slice none 0 0)=>k []
 |.o id=>bif aM id not then False else match dP id H with
  |some (.own _ _ rows)=>k rows
  |_=>False
 |_=>False
def CN(T:TT)(t t' e:Nat)(x:AV)(not:Nat)(H:Hp)(k:List (List AV)->Prop):Prop:=
 bif aM t t' then Qn x not H k else
 match T t',T e,x with
 |some i',V je,.v (.string s)=>match i'.kind,je.kind with
  |.str,.int .u8=>bif aM je.cells 1 then k (s.data.toList.map lM)else False
  |_,_=>False
 |_,_,_=>False
def Ak(T:TT)(t t':Nat)(s x:AV)(d:Nat)(st:ak)(k:AV->ak->Prop):Prop:=
 match T t with
 |some i=>match i.kind with
  |.slice e=>match T e with
   |some j =>
    bif aM j.bytes 0||(aM j.cells 0||!(aM j.zero.cells.size j.cells))then False else
    match s with
    |.v (.slice none 0 0)=>CN T t t' e x d st.H λbQ=>pj bQ j.cells/\bQ.length*j.bytes<=140737488355328/\∃R,bQ=R/\k (.o d) (ij st d (.own e j.cells R))
    |.o id=>match dP id st.H with
     |some (.own E K rows)=>bif (aM E e&&aM K j.cells)&&eS id 1000 then
       CN T t t' e x id st.H λbQ=>pj bQ j.cells/\(rows.length+bQ.length)*j.bytes<=140737488355328/\∃R,rows++bQ=R/\k (.o id) (ij st id (.own e j.cells R))
      else False
     |_=>False
    |_=>False
   |none=>False
  |_=>False
 |none=>False
def LO(T:TT)(t t' id:Nat)(x:AV)(st:ak)(k:AV->ak->Prop):Prop:=
 match T t,T t',x with
 |some i,V i',.v (.int _ nx)=>match i.kind,i'.kind with
  |.slice e,.int _=>match T e,dP id st.H with
   |some j,V (.own E K rows)=>bif aM j.bytes 0||(aM j.cells 0||!(jH (bZ j.zero)&&(aM (bx (bZ j.zero)).length j.cells&&(bx (bZ j.zero)).all fx)))then False else
     bif (aM E e&&aM K j.cells)&&eS id 1000 then
      ∃n:Nat,nx=(n:Int)/\(rows.length+n)*j.bytes<=140737488355328/\∃R,rows++ia n ((bx (bZ j.zero)).map nz)=R/\k (.o id) (ij st id (.own e j.cells R))
     else False
   |_,_=>False
  |_,_=>False
 |_,_,_=>False
def Hb(T:TT)(t:Nat)(x y:AV)(st:ak)(k:AV->ak->Prop):Prop:=
 match T t with
 |some i=>match i.kind with
  |.slice e=>match T e with
   |some j=>match x,y with
    |.w id Kw d,.s news=>match dP id st.H with
     |some (.own E K rows)=>bif aM K j.cells&&aM Kw K then
       pj news j.cells/\∃R,rows.take d++news.take (rows.length-d)++rows.drop (d+news.length)=R/\k (.v (.int .i64 ((Nat.min news.length (rows.length-d):Nat):Int))) ⟨st.f,fQ id (.own E K R) st.H⟩
      else False
     |_=>False
    |_,_=>False
   |none=>False
  |_=>False
 |none=>False
def G_(T:TT)(t t':Nat)(s x:AV)(d:Nat)(st:ak)(k:AV->ak->Prop):Prop:=
 match s with
 |.o id=>LO T t t' id x st k
 |s=>match T t,T t',s,x with
 |some i,V i',.v (.slice none 0 0),.v (.int _ nx)=>match i.kind,i'.kind with
  |.slice e,.int _=>match T e with
   |some j=>bif aM j.bytes 0||(aM j.cells 0||!(jH (bZ j.zero)&&(aM (bx (bZ j.zero)).length j.cells&&(bx (bZ j.zero)).all fx)))then False else
     ∃n:Nat,nx=(n:Int)/\n*j.bytes<=140737488355328/\∃R,ia n ((bx (bZ j.zero)).map nz)=R/\k (.o d) (ij st d (.own e j.cells R))
   |none=>False
  |_,_=>False
 |_,_,_,_=>False
def LY(T:TT)(t:Nat)(x:AV)(hi:Option AV)(st:ak)(k:AV->ak->Prop):Prop:=
 match T t,x,hi with
 |some i,.o id,V (.v (.int _ nh))=>match i.kind with
  |.slice e=>match T e with
   |some j=>match dP id st.H with
    |some (.own E K rows)=>bif aM K j.cells&&eS id 1000 then∃h:Nat,nh=(h:Int)/\h<=rows.length/\∃R,rows.take h=R/\k (.o id) (ij st id (.own E K R))else False
    |_=>False
   |none=>False
  |_=>False
 |_,_,_=>False
def Hd(T:TT)(t:Nat)(x:AV)(lo hi mx:Option AV)(d:Nat)(st:ak)(k:AV->ak->Prop):Prop:=
 match T t with
 |some i=>match i.kind,lo,hi,mx with
  |.slice e,none,V (.v (.int _ 0)),V (.v (.int _ 0))=>match T e with
   |some j=>match x with
    |.s _=>k (.o d) (ij st d (.own e j.cells []))
    |.o _=>k (.o d) (ij st d (.own e j.cells []))
    |.v (.slice none 0 0)=>k (.o d) (ij st d (.own e j.cells []))
    |_=>False
   |none=>False
  |_,_,_,_=>False
 |none=>False
def S'(T:TT)(t n:Nat)(parts:List (Nat×AV))(d:Nat)(st:ak)(k:AV->ak->Prop):Prop:=
 zn T t n parts λrows e size=>bif rows.all (λr=>r.all fx)then k (.o d) (ij st d (.own e size (rows.map λr=>r.map nz)))else False
def LU(T:TT)(t:Nat)(l c:AV)(d:Nat)(st:ak)(k:AV->ak->Prop):Prop:=
 match T t,l,c with
 |some i,.v (.int _ nl),.v (.int _ nc)=>match i.kind with
  |.slice e=>match T e with
   |some j=>bif jH (bZ j.zero)&&(aM (bx (bZ j.zero)).length j.cells&&(bx (bZ j.zero)).all fx)then
     ∃n m:Nat,nl=(n:Int)/\nc=(m:Int)/\n<=m/\m<=140737488355328/\m*j.bytes<=140737488355328/\∃R,ia n ((bx (bZ j.zero)).map nz)=R/\k (.o d) (ij st d (.own e j.cells R))
    else False
   |none=>False
  |_=>False
 |_,_,_=>False
inductive Tg where
 |f (g:FuncId)
 |y (l:Nat)
instance:Coe FuncId Tg:=⟨.f⟩
instance{n:Nat}:OfNat Tg n:=⟨.f n⟩
abbrev fW(ro:Option Nat):Fence:={ gu with round:=ro }
def Tg.tH(P:Program):Tg->Prop
 |.f g=>qb P g
 |.y _=>True
def Tg.goes(P:Program):Tg->Array Value->World->(Ending->World->Prop)->Prop
 |.f g,vs,w,R=>Calls P g vs w R
 |.y l,vs,w,R=>∃fn tmps assign body,(Instr.yield l vs).run P w=.ok (.round l fn tmps assign body) w/\RoundIn gu 0 P l fn tmps assign body w R
def Tg.goes.mono{P:Program}{g:Tg}{vs:Array Value}{w:World}{R R':Ending->World->Prop}(h:g.goes P vs w R)(hr:∀e w',R e w'->R' e w'):g.goes P vs w R':=by
 cases g with
 |f g=>exact Calls.mono h hr
 |y l =>
  obtain⟨fn,tmps,assign,body,h1,h2⟩:=h;exact⟨fn,tmps,assign,body,h1,h2.mono hr⟩
def Ω(P:Program)(g:Tg)(args:List AV)(st:ak)(k:AV->ak->Prop):Prop:=
 g.tH P/\∀(w:World)(F:Nat->Prop)(β:Nat->Value)(vs:Array Value),Inv w F β st.H->vs.size=args.length ->
  (∀i,i<args.length->Rd w F β (args.getD i .Δ) (vs.getD i undef)) ->
  g.goes P vs w λe w'=>∃v,e=.returned v/\∃r ax F' ay,k r ax/\Rd w' F' ay r v/\Ext w F β st w' F' ay ax
def G'(P:Program)(f:AV)(xs:List AV)(st:ak)(k:AV->ak->Prop):Prop:=
 match f with
 |.c (.func g) fs cs=>Ω P (.f g) (fs++(xs++cs)) st k
 |.c (.yield l) [] []=>Ω P (.y l) xs st k
 |_=>False
def LV(T:TT)(t d:Nat)(st:ak)(k:AV->ak->Prop):Prop:=
 match T t with
 |some ti=>match ti.kind with
  |.map kt e=>match T kt,T e with
   |some ik,V ie=>match ik.kind with
    |.int .i64=>k (.m d) (ij st d (.mp (qd ie.kind) []))
    |_=>False
   |_,_=>False
  |_=>False
 |none=>False
def Hc(T:TT)(t:Nat)(m i y:AV)(st:ak)(k:AV->ak->Prop):Prop:=
 match T t with
 |some ti=>match ti.kind with
  |.map kt e=>match T kt with
   |some ik=>match ik.kind,m,i with
    |.int .i64,.m id,.v (.int .i64 n)=>match dP id st.H with
     |some (.mp ag rows)=>match yK ag y with
      |some yc=>ae n/\rows.length<140737488355328/\∃R,fh n yc rows=R/\k (.v undef) ⟨st.f,fQ id (.mp ag R) st.H⟩
      |none=>False
     |_=>False
    |_,_,_=>False
   |none=>False
  |_=>False
 |none=>False
def Ha(T:TT)(t:Nat)(x:AV)(st:ak)(k:AV->ak->Prop):Prop:=
 match T t with
 |some i=>match i.kind with
  |.slice e=>match T e with
   |some j=>match x with
    |.w id Kw d=>match dP id st.H with
     |some (.own E K rows)=>bif (aM K j.cells&&aM Kw K)&&(jH (bZ j.zero)&&(aM (bx (bZ j.zero)).length j.cells&&(bx (bZ j.zero)).all fx))then
       ∃R,rows.take d++ia (rows.length-d) ((bx (bZ j.zero)).map nz)=R/\k (.t []) ⟨st.f,fQ id (.own E K R) st.H⟩
      else False
     |_=>False
    |_=>False
   |none=>False
  |_=>False
 |none=>False
def LX(T:TT)(t:Nat)(x:AV)(d:Nat)(st:ak)(k:AV->ak->Prop):Prop:=
 match T t,x with
 |some i,.v (.string s)=>match i.kind with
  |.str=>k (.b d 0) (ij st d (.si s 0))
  |_=>False
 |_,_=>False
def LW(x:AV)(Il:Bool)(st:ak)(k:AV->ak->Prop):Prop:=
 match x,Il with
 |.b id 0,true=>match dP id st.H with
  |some (.si s pos)=>(pos<s.size->k (.t [.v (.bool true),.v (.int .i64 (pos:Int)),.v (.int .i32 ((K1 s pos).1:Int))]) ⟨st.f,fQ id (.si s (pos+(K1 s pos).2)) st.H⟩) /\
    (¬pos<s.size->k (.t [.v (.bool false)]) st)
  |_=>False
 |_,_=>False
def B2(P:Program)(T:TT)(o:Oper)(st:ak)(k:AV->ak->Prop):Prop:=
 let ρ:=ev st.f;let d:=o.dst.getD 0
 match o.op with
 |.alloc t=>LN T t d st k
 |.box _ x=>LP (ρ x) d st k
 |.store t x y=>vn T t (ρ x) (ρ y) st k
 |.makeMap t none=>LV T t d st k
 |.range t x=>LX T t (ρ x) d st k
 |.next x s=>LW (ρ x) s st k
 |.mapUpdate t m i y=>Hc T t (ρ m) (ρ i) (ρ y) st k
 |.insert t m i y=>Hc T t (ρ m) (ρ i) (ρ y) st k
 |.buildSlice t n parts=>nr P T o ρ st.H (λr=>k r st)\/S' T t n (parts.toList.map λq=>(q.1,ρ q.2)) d st k
 |.slice t x none hi none=>match ρ x with
  |.o _=>LY T t (ρ x) (hi.map ρ) st k
  |_=>nr P T o ρ st.H λr=>k r st
 |.slice t x lo hi (V mx)=>Hd T t (ρ x) (lo.map ρ) (hi.map ρ) (V (ρ mx)) d st k
 |.makeSlice t l c=>nr P T o ρ st.H (λr=>k r st)\/LU T t (ρ l) (ρ c) d st k
 |.convert s t x=>match ρ x with
  |.o id=>LR T s t id st k
  |_=>nr P T o ρ st.H λr=>k r st
 |.call c=>match c.callee with
  |.builtin .append=>match c.argTypes.toList,c.args.toList.map ρ with
   |[t,t'],[s,x]=>bif aM t t' then Ak T t t' s x d st k else match x with
    |.v (.string _)=>Ak T t t' s x d st k
    |_=>G_ T t t' s x d st k
   |_,_=>False
  |.builtin .copy=>match c.argTypes.toList,c.args.toList.map ρ with
   |[t,_],[x,y]=>Hb T t x y st k
   |_,_=>False
  |.builtin .clear=>match c.argTypes.toList,c.args.toList.map ρ with
   |[t],[x]=>Ha T t x st k
   |_,_=>False
  |.value f=>G' P (ρ f) (c.args.toList.map ρ) st k
  |_=>nr P T o ρ st.H λr=>k r st
 |_=>nr P T o ρ st.H λr=>k r st
def step(P:Program)(T:TT)(o:Oper)(st:ak)(k:AV->ak->Prop):Prop:=bif eS (o.dst.getD 0) 1000 then B2 P T o st k else False
section
variable{P:Program}{T:TT}{w:World}{F:Nat->Prop}{β:Nat->Value}{st:ak}{k:AV->ak->Prop}
def EPost(w:World)(F:Nat->Prop)(β:Nat->Value)(st:ak)(k:AV->ak->Prop)(v:Value)(w':World):Prop:=
 ∃r ax F' ay,k r ax/\Rd w' F' ay r v/\Ext w F β st w' F' ay ax
def cX(P:Program)(s:Sem Next)(w:World)(F:Nat->Prop)(β:Nat->Value)(st:ak)(k:AV->ak->Prop):Prop:=
 (∃v w',s.run P w=.ok (.value v) w'/\EPost w F β st k v w')\/(∃w',s.run P w=.ok .skip w'/\EPost w F β st k undef w') \/
 (∃g vs,s.run P w=.ok (.enter g vs) w/\Calls P g vs w λe w'=>∃v,e=.returned v/\EPost w F β st k v w') \/
 (∃l fn tmps assign body,s.run P w=.ok (.round l fn tmps assign body) w/\RoundIn gu 0 P l fn tmps assign body w λe w'=>∃v,e=.returned v/\EPost w F β st k v w')
def afT{s:Sem Next}(hI:Inv w F β st.H)(h:tn P s w λv w'=>∃r,k r st/\Rd w' (fK F w w') β r v):cX P s w F β st k:=by
 rcases h with⟨v,w',hr,hb,r,hk,hv⟩|⟨g,vs,hr,hc⟩
 .exact .inl ⟨v,w',hr,r,st,_,_,hk,hv,vq hI hb⟩
 .refine .inr (.inr (.inl ⟨g,vs,hr,hc.mono ?_⟩));rintro e w' ⟨v,rfl,hb,r,hk,hv⟩;exact⟨v,rfl,r,st,_,_,hk,hv,vq hI hb⟩
def cX.value{s:Sem Value}{v:Value}{w':World}(hr:s.run P w=.ok v w')(h:EPost w F β st k v w'):cX P (do pure (.value (<-s))) w F β st k:=
 .inl ⟨v,w',by simp[hr],h⟩
def cX.skip{s:Sem Unit}{w':World}(hr:s.run P w=.ok () w')(h:EPost w F β st k undef w'):cX P (do s;pure .skip) w F β st k:=
 .inr (.inl ⟨w',by simp[hr],h⟩)
def Sx{d:Nat}{cells:List AV}{us:Array Value}{e:TypeId}(hd:d<1000)(hI:Inv w F β st.H)(hs:us.size=cells.length)(h1:∀i,i<cells.length->(us.getD i undef).oneCell'=true)
  (hr:∀i,i<cells.length->Rd (w.alloc (.cells us e)) F (λi=>if i=d then .pointer (V ⟨w.heap.size,0,none⟩)else β i) (cells.getD i .Δ) (us.getD i undef)) (hk:k (.b d 0) (ij st d (.box cells))) :
  EPost w F β st k (.pointer (V ⟨w.heap.size,0,none⟩)) (w.alloc (.cells us e)):=by
 refine⟨_,_,F,_,hk,.b (by simp),qg (v:=.pointer (V ⟨w.heap.size,0,none⟩)) hd hI rfl ⟨rfl,λ_=>(by first|exact bm _|exact ku _)⟩ rfl (by simp) (λb hb _=>heap_alloc_old w _ hb) (λi c b _ hm hb=>heap_alloc_old w _ (hI.gg ⟨i,c,hm,hb⟩)) (λb hb=>?_) ?_⟩
 .simp[bP]at hb;left;omega
 .exact⟨w.heap.size,us,e,by simp,heap_alloc_new w _,hs,h1,hr⟩
def abo{t d:Nat}(hd:d<1000)(hT:bL P T)(hI:Inv w F β st.H)(h:LN T t d st k):cX P (do pure (.value (<-Rw t true (.tuple #[])))) w F β st k:=by
 unfold LN at h;split at h
 .rename_i i hi;obtain⟨bU,hk⟩:=cond_prop h;have hz:=(hT _ _ hi).sS w
  have bf:(Rw t true (.tuple #[])).run P w=.ok (.pointer (V ⟨w.heap.size,0,none⟩)) (w.alloc (.cells i.zero.cells t)):=by
   unfold Rw;simp[hz,newVar,newRow]
  refine cX.value bf ?_;have hr:=λay:Nat->Value=>py (oa (w.alloc (.cells i.zero.cells t)) F i.zero ay) bU;exact Sx hd hI (hr β).1 (λj hj=>((hr β).2 j hj).1) (λj hj=>((hr _).2 j hj).2) hk
 .cases h
def abt{x:AV}{vx:Value}{d t:Nat}(hd:d<1000)(hI:Inv w F β st.H)(hx:Rd w F β x vx)(h:LP x d st k):cX P (do pure (.value (<-Rx t vx))) w F β st k:=by
 unfold LP at h;obtain⟨bU,hk⟩:=cond_prop h
 have bf:(Rx t vx).run P w=.ok (.pointer (V ⟨w.heap.size,0,none⟩)) (w.alloc (.cells vx.cells t)):=by simp[Rx,newVar,newRow]
 obtain⟨hs,hr⟩:=py hx bU;refine cX.value bf (Sx hd hI (by simpa using hs) (λj hj=>(hr j (by simpa using hj)).1) (λj hj=>?_) hk)
 have hj:j<(bx x).length:=by simpa using hj
 have e:((bx x).map (er 1 d)).getD j .Δ=er 1 d ((bx x).getD j .Δ):=by simp[bc,hj]
 rw[e];exact rZ (λi hi=>by simp[hi]) 1 ((hr j hj).2.frame (Below.agree (uV w _) hI.cH) λ_ h=>h)
def nn{id:Nat}{c:Chunk}:∀{H:Hp}{i:Nat}{c':Chunk},(i,c')∈fQ id c H->(i=id/\c'=c/\∃c'',(i,c'')∈H)\/(i≠id/\(i,c')∈H)
 |[],_,_,h=>by cases h
 |(j,c0)::r,i,c',h=>by
  simp only[fQ]at h;cases hb:aM j id with
  |true =>
   have hj:=cT hb;rw[hb]at h;simp only[cond_true,bp,iF]at h
   rcases h with⟨rfl,rfl⟩|h
   .exact .inl ⟨hj,rfl,c0,by simp⟩
   .rcases nn (H:=r) h with⟨h1,h2,c2,h3⟩|⟨h1,h2⟩
    .exact .inl ⟨h1,h2,c2,cw _ h3⟩
    .exact .inr ⟨h1,cw _ h2⟩
  |false =>
   have hj:j≠id:=λe=>by rw[e,jv]at hb;cases hb
   rw[hb]at h;simp only[cond_false,bp,iF]at h
   rcases h with⟨rfl,rfl⟩|h
   .exact .inr ⟨hj,by simp⟩
   .rcases nn (H:=r) h with⟨h1,h2,c2,h3⟩|⟨h1,h2⟩
    .exact .inl ⟨h1,h2,c2,cw _ h3⟩
    .exact .inr ⟨h1,cw _ h2⟩
def zp{id:Nat}{c:Chunk}:∀(H:Hp),(fQ id c H).map (·.1)=H.map (·.1)
 |[]=>rfl
 |(j,c0)::r=>by
  simp only[fQ];cases hb:aM j id<;>simp[zp r]
def vr{id:Nat}{c c0:Chunk}{w':World}(hI:Inv w F β st.H)(hm:(id,c0)∈st.H)(ug:w'.os=w.os)(NC:jL w w')(sF:w'.output=w.output)(eO:w'.heap.size=w.heap.size)
  (AF:∀b,bP (β id)≠V b->w'.heap[b]?=w.heap[b]?) (hc:c.holds w' F β id):Ext w F β st w' F β ⟨st.f,fQ id c st.H⟩:=by
 have dB:∀b,bH β (fQ id c st.H) b->bH β st.H b:=by
  rintro b ⟨i,c',h,hb⟩
  rcases nn h with⟨rfl,_,c2,h2⟩|⟨_,h2⟩
  .exact⟨i,c2,h2,hb⟩
  .exact⟨i,c',h2,hb⟩
 have ha:gn F w w':=λb hb=>AF b λkX=>hI.apart b ⟨id,c0,hm,kX⟩ hb;refine⟨ug,NC,sF,by omega,λb _ ho=>AF b λkX=>ho ⟨id,c0,hm,kX⟩,λ_ h=>h,λ_ h=>.inl h,λb h=>.inr (dB b h),λt u h=>h.frame ha λ_ h=>h,?_,λ_ _=>rfl⟩;refine⟨λb hb=>by have:=hI.cH b hb;omega,λi c' h=>?_,by rw[zp];exact hI.keys,λb ho=>hI.apart b (dB b ho),λi c1 i' pn b h h' hb aN=>?_,hI.fC.at ha⟩
 .rcases nn h with⟨rfl,rfl,_⟩|⟨hi,h2⟩
  .exact hc
  .exact pM ha (λ_ h=>h) (λb hb=>AF b λkX=>hi (hI.eD i c' id c0 b h2 hm hb kX)) (hI.holds i c' h2)
 .have hx:∃c,(i,c)∈st.H:=by rcases nn h with⟨_,_,c2,h2⟩|⟨_,h2⟩<;>exact⟨_,h2⟩
  have hy:∃c,(i',c)∈st.H:=by rcases nn h' with⟨_,_,c2,h2⟩|⟨_,h2⟩<;>exact⟨_,h2⟩
  obtain⟨c2,h2⟩:=hx;obtain⟨c3,h3⟩:=hy;exact hI.eD i c2 i' c3 b h2 h3 hb aN
def Yv{n off:Nat}{cells:List AV}{y:AV}{K:List AV->Prop}(h:B1 n cells off y K):
  jH y=true/\(bx y).length=n/\off+n<=cells.length/\K (cells.take off++(bx y++cells.drop (off+n))):=by
 unfold B1 at h;obtain⟨hb,hk⟩:=cond_prop h;simp only[bR]at hb;obtain⟨C,rfl,hk⟩:=hk;exact⟨hb.1,cT hb.2.1,by simpa using hb.2.2,hk⟩
def Qt{α:Type}(l m:List α)(off n:Nat)(hm:m.length=n)(hl:off+n<=l.length)(d:α)(j:Nat):
  (l.take off++(m++l.drop (off+n))).getD j d=if j<off then l.getD j d else if j<off+n then m.getD (j-off) d else l.getD j d:=by
 simp only[bc,gV,dq,hm,fS,iN];by_cases h1:j<off
 .simp[h1,show j<min off l.length by omega]
 .by_cases h2:j<off+n
  .simp[h1,h2,show min off l.length=off by omega,show j-off<n by omega]
  .simp[h1,h2,show min off l.length=off by omega,show ¬j-off<n by omega,show off+n+(j-off-n)=j by omega]
def X9{t b off:Nat}{i:TI}{v:Value}{cur:Array Value}{e:TypeId}(hi:gO P t i)(hh:w.heap[b]?=V (.cells cur e (0,0)))(hv:v.cells.size=i.cells)(jE:off+i.cells<=cur.size)
  (h1:∀j,j<v.cells.size->(v.cells.getD j undef).oneCell'=true) :
  (RC t (.pointer (V ⟨b,off,none⟩)) v).run P w=.ok () (w.setRow b (cur.toList.take off++v.cells.toList++cur.toList.drop (off+v.cells.toList.length)).toArray):=by
 have bd:=hi.lv w
 have cO:=run_storeCells_at P b off e v.cells.toList 0 cur w hh (by simp;omega) (λx hx=>by
  obtain⟨j,hj,rfl⟩:=List.mem_iff_getElem.1 hx
  have hj:j<v.cells.size:=by simpa using hj
  have:=h1 j hj
  simpa [hj]using this)
 simp only[l8]at cO;simp[RC,Gq,storeVar,bd,hv,cO]
def O5{b:Nat}{cs:Array Value}(hI:Inv w F β st.H)(ho:bH β st.H b){x:AV}{u:Value}(h:Rd w F β x u):Rd (w.setRow b cs) F β x u:=
 h.frame (λb' aN=>setRow_other w b b' cs λe=>hI.apart b ho (e▸aN)) λ_ h=>h
def St(l m:List Value)(off n:Nat)(hm:m.length=n)(hl:off+n<=l.length)(d:Value)(j:Nat):
  (l.take off++m++l.drop (off+m.length)).toArray.getD j d=if j<off then l.getD j d else if j<off+n then m.getD (j-off) d else l.getD j d:=by
 have:=Qt l m off n hm hl d j;rw[hm,l7];simpa [lA,bc]using this
def abJ{t:Nat}{x y:AV}{vx vy:Value}(hT:bL P T)(hI:Inv w F β st.H)(hx:Rd w F β x vx)(hy:Rd w F β y vy)(h:vn T t x y st k):
  cX P (do RC t vx vy;pure .skip) w F β st k:=by
 unfold vn at h;split at h
 .rename_i i hi;split at h
  .rename_i id off;split at h
   .rename_i cells hc;obtain⟨bU,hlen,hle,hk⟩:=Yv h;have hm:=fk hc;obtain⟨b,cur,e,an,hh,hs,h1,hr⟩:=hI.holds _ _ hm;obtain⟨fV,hb,rfl⟩:=hx.mP;rw[an]at hb;cases hb;obtain⟨aB,eP⟩:=py hy bU
    have uk:vy.cells.size=i.cells:=by rw[aB,hlen]
    have fD:off+i.cells<=cur.size:=by rw[hs];exact hle
    have bf:=X9 (off:=off) (hT _ _ hi) hh uk fD (λj hj=>(eP j (by omega)).1)
    have D9:vy.cells.toList.length=i.cells:=by simpa using uk
    refine cX.skip bf ⟨_,_,F,β,hk,.i (.v (.inr rfl)),?_⟩;have ho:bH β st.H b:=⟨id,_,hm,by rw[an];rfl⟩;refine vr hI hm rfl ⟨rfl,λ_=>(by first|exact bm _|exact ku _)⟩ rfl (by simp) (λb' aN=>setRow_other w b b' _ (λe=>aN (by rw[an,e];rfl))) ?_;have key:=λj d=>St cur.toList vy.cells.toList off i.cells D9 (by simpa using fD) d j;have yF:=λj=>Qt cells (bx y) off i.cells hlen hle AV.Δ j;refine⟨b,_,e,an,setRow_heap w b cur _ e _ hh,?_,λj hj=>?_,λj hj=>?_⟩
    .simp only[lF,cZ,dq,nB,lZ,uk,hs,hlen];omega
    all_goals
     have jF:j<cells.length:=by
      simp only[cZ,dq,nB,hlen]at hj;omega
    .rw[key];by_cases q1:j<off
     .rw[if_pos q1];simpa [bc]using h1 j jF
     .rw[if_neg q1];by_cases q2:j<off+i.cells
      .rw[if_pos q2];simpa [bc]using(eP (j-off) (by omega)).1
      .rw[if_neg q2];simpa [bc]using h1 j jF
    .rw[key,yF];by_cases q1:j<off
     .rw[if_pos q1,if_pos q1];exact O5 hI ho (by simpa [bc]using hr j jF)
     .rw[if_neg q1,if_neg q1];by_cases q2:j<off+i.cells
      .rw[if_pos q2,if_pos q2];exact O5 hI ho (by simpa [bc]using(eP (j-off) (by omega)).2)
      .rw[if_neg q2,if_neg q2];exact O5 hI ho (by simpa [bc]using hr j jF)
   .cases h
  .rename_i id K m j;split at h
   .rename_i E K' rows hc;obtain⟨iv,row,kF,rfl,h⟩:=cond_prop h;obtain⟨bU,hlen,hle,R,rfl,hk⟩:=Yv h;have hm:=fk hc;have Nb:=Em kF;obtain⟨g,n,c,an,rfl⟩:=hx.Al
    rcases hI.holds _ _ hm with⟨rfl,_⟩|⟨g',cap,cur,hv,jk,hg,hn,gA,hs,hK,hr⟩
    .simp at Nb
    .rw[hv]at an;cases an
     have nT:row.length=K:=by have:=hK m Nb;rwa [vz kF]at this
     obtain⟨aB,eP⟩:=py hy bU
     have uk:vy.cells.size=i.cells:=by rw[aB,hlen]
     have hmK:m*K+K<=rows.length*K:=by
      calc m*K+K=(m+1)*K:=by rw[bM];omega
       _<=rows.length*K:=cC _ Nb
     have hrc:rows.length*K<=c*K:=cC _ hn
     have fD:m*K+j+i.cells<=cur.size:=by omega
     have bf:=X9 (off:=m*K+j) (hT _ _ hi) hg uk fD (λj hj=>(eP j (by omega)).1)
     have D9:vy.cells.toList.length=i.cells:=by simpa using uk
     have h0:aM c 0=false:=by cases c<;>first|rfl|omega
     have ho:bH β st.H g:=⟨id,_,hm,by rw[hv];simp[bP,h0]⟩;refine cX.skip bf ⟨_,_,F,β,hk,.i (.v (.inr rfl)),?_⟩;refine vr hI hm rfl ⟨rfl,λ_=>(by first|exact bm _|exact ku _)⟩ rfl (by simp) (λb' aN=>setRow_other w g b' _ (λe=>aN (by rw[hv,e];simp[bP,h0]))) (.inr ?_);have key:=λj' d=>St cur.toList vy.cells.toList (m*K+j) i.cells D9 (by simpa using fD) d j'
     have A5:∀q,q<rows.length->(rows.set m (row.take j++(bx y++row.drop (j+i.cells)))).getD q []=if q=m then row.take j++(bx y++row.drop (j+i.cells))else rows.getD q []:=by
      intro q hq;by_cases m_:q=m
      .subst m_;simp[bc,hq]
      .simp[bc,m_,Ne.symm m_]
     refine⟨g,c,_,by rw[hv];simp,jk,setRow_heap w g cur _ E _ hg,by simpa using hn,gA,?_,λq hq=>?_,λq z hq hz=>?_⟩
     .simp only[lF,cZ,dq,nB,lZ,uk];omega
     .have hq:q<rows.length:=by simpa using hq
      rw[A5 q hq];split
      .simp only[cZ,dq,nB,hlen,nT];omega
      .exact hK q hq
     .have hq:q<rows.length:=by simpa using hq
      rw[key,A5 q hq];have hold:=hr q z hq hz;by_cases m_:q=m
      .subst m_;rw[if_pos rfl];have yF:=Qt row (bx y) j i.cells hlen (by omega) AV.Δ z;by_cases q1:z<j
       .rw[if_pos (by omega),yF,if_pos q1];rw[vz kF]at hold;refine⟨by simpa [bc]using hold.1,?_⟩;have h2:=hold.2.frame (w':=w.setRow g (cur.toList.take (q*K+j)++vy.cells.toList++cur.toList.drop (q*K+j+vy.cells.toList.length)).toArray) (λb' aN=>setRow_other w g b' _ λe=>hI.apart g ho (e▸aN)) λ_ h=>h;simpa [bc]using h2
       .by_cases q2:z<j+i.cells
        .rw[if_neg (by omega),if_pos (by omega),yF,if_neg q1,if_pos q2];have Vu:=eP (z-j) (by omega)
         have MX:fx ((bx y).getD (z-j) .Δ)=true:=eo.1 iv _ (by
          rw[gk,bD (show z-j<(bx y).length by omega)];exact eA _)
         have h2:=(nY MX Vu.2).frame (w':=w.setRow g (cur.toList.take (q*K+j)++vy.cells.toList++cur.toList.drop (q*K+j+vy.cells.toList.length)).toArray) (λb' aN=>setRow_other w g b' _ λe=>hI.apart g ho (e▸aN)) λ_ h=>h;rw[show q*K+z-(q*K+j)=z-j by omega];exact⟨by simpa [bc]using Vu.1,by simpa [bc]using h2⟩
        .rw[if_neg (by omega),if_neg (by omega),yF,if_neg q1,if_neg q2];rw[vz kF]at hold;have h2:=hold.2.frame (w':=w.setRow g (cur.toList.take (q*K+j)++vy.cells.toList++cur.toList.drop (q*K+j+vy.cells.toList.length)).toArray) (λb' aN=>setRow_other w g b' _ λe=>hI.apart g ho (e▸aN)) λ_ h=>h;exact⟨by simpa [bc]using hold.1,by simpa [bc]using h2⟩
      .rw[if_neg m_]
       have sF:q*K+z<m*K+j\/m*K+j+i.cells<=q*K+z:=by
        rcases Nat.lt_or_gt_of_ne m_ with h|h
        .left
         calc q*K+z<q*K+K:=by omega
          _=(q+1)*K:=by rw[bM];omega
          _<=m*K:=cC _ h
          _<=m*K+j:=by omega
        .right
         calc m*K+j+i.cells<=m*K+K:=by omega
          _=(m+1)*K:=by rw[bM];omega
          _<=q*K:=cC _ h
          _<=q*K+z:=by omega
       have h2:=hold.2.frame (w':=w.setRow g (cur.toList.take (m*K+j)++vy.cells.toList++cur.toList.drop (m*K+j+vy.cells.toList.length)).toArray) (λb' aN=>setRow_other w g b' _ λe=>hI.apart g ho (e▸aN)) λ_ h=>h
       rcases sF with h|h
       .rw[if_pos h];exact⟨by simpa [bc]using hold.1,by simpa [bc]using h2⟩
       .rw[if_neg (by omega),if_neg (by omega)];exact⟨by simpa [bc]using hold.1,by simpa [bc]using h2⟩
   .cases h
  .cases h
 .cases h
end
section
variable{P:Program}{T:TT}{w:World}{F:Nat->Prop}{β:Nat->Value}{st:ak}{k:AV->ak->Prop}
def Ae:Chunk->Bool
 |.box cells=>cells.all fx
 |.own ..=>true
 |.mp ..=>true
 |.lp ..=>false
 |.si ..=>true
def pN{F':Nat->Prop}{ay:Nat->Value}{i j:Nat}{c:Chunk}(hc:Ae c=true)(hF:∀b,F b->F' b)(an:ay j=β i)(h:c.holds w F β i):c.holds w F' ay j:=by
 cases c with
 |box cells =>
  obtain⟨b,cs,e,hb,hh,hs,h1,hr⟩:=h;refine⟨b,cs,e,an.trans hb,hh,hs,h1,λk hk=>?_⟩;have:fx (cells.getD k .Δ)=true:=eo.1 hc _ (by rw[gk,bD hk];exact eA _);exact .i ((nY this (hr k hk)).frame (λ_ _=>rfl) hF)
 |si s pos =>
  unfold Chunk.holds at *;rw[an];exact h
 |mp ag rows =>
  unfold Chunk.holds at *;rw[an];obtain⟨b,es,ck,h0,hh,cO,hs,hm,hr⟩:=h;refine⟨b,es,ck,h0,hh,cO,hs,hm,λi r hi=>?_⟩;obtain⟨e,h1,h2,h3,h4⟩:=hr i r hi;exact⟨e,h1,h2,h3,h4.frame (λ_ _=>rfl) hF⟩
 |lp l e R L=>cases hc
 |own E K rows =>
  unfold Chunk.holds at *;rw[an]
  rcases h with h|⟨g,cap,cur,hv,hc,hg,hn,hm,hs,hk,hr⟩
  .exact .inl h
  .exact .inr ⟨g,cap,cur,hv,hc,hg,hn,hm,hs,hk,λi j hi hj=>⟨(hr i j hi hj).1,(hr i j hi hj).2.frame (λ_ _=>rfl) hF⟩⟩
def lN{id:Nat}{rows:List (List AV)}:∀{H:Hp}{i:Nat}{c:Chunk},(i,c)∈oG id rows H->i≠id/\∃c',(i,c')∈H/\c=Ty id rows c'
 |[],_,_,h=>by cases h
 |(j,c')::r,i,c,h=>by
  simp only[oG]at h;cases hb:aM j id with
  |true =>
   rw[hb]at h;obtain⟨h1,c2,h2,h3⟩:=lN (H:=r) h;exact⟨h1,c2,cw _ h2,h3⟩
  |false =>
   rw[hb]at h;simp only[cond_false,bp,iF]at h
   rcases h with⟨rfl,rfl⟩|h
   .exact⟨λe=>(by rw[e,jv]at hb;cases hb),c',by simp,rfl⟩
   .obtain⟨h1,c2,h2,h3⟩:=lN (H:=r) h;exact⟨h1,c2,cw _ h2,h3⟩
def Da{id:Nat}{rows:List (List AV)}:∀{H:Hp},(H.map (·.1)).Nodup->((oG id rows H).map (·.1)).Nodup
 |[],_=>by simp[oG]
 |(j,c)::r,h=>by
  simp only[fT,iO]at h;simp only[oG];cases hb:aM j id with
  |true=>exact Da h.2
  |false =>
   simp only[cond_false,fT,iO];refine⟨λhm=>?_,Da h.2⟩;obtain⟨x,hx,jU⟩:=cL.1 hm;obtain⟨i,c'⟩:=x;obtain⟨_,c2,h2,_⟩:=lN hx;exact h.1 (cL.2 ⟨(i,c2),h2,jU⟩)
def Wr{id E K:Nat}{rows:List (List AV)}{u:Value}{H:Hp}(hI:Inv w F β H)(hm:(id,Chunk.own E K rows)∈H)(hu:Rd w F β (.o id) u):bq w (λb=>F b\/bH β H b) (.s rows) u:=by
 obtain⟨a,n,c,an,rfl⟩:=hu.ko
 rcases hI.holds _ _ hm with⟨rfl,a',hv⟩|⟨g,cap,cur,hv,hc,hg,hn,gA,hs,hK,hr⟩
 .rw[an]at hv;cases hv;exact .s0
 .rw[an]at hv;cases hv
  have h0:aM c 0=false:=by cases c<;>first|rfl|omega
  have eT:=(IQ (hI.holds _ _ hm) an).2.2.2;obtain⟨u,hu⟩:=eT;exact .s (off:=0) (u:=u) (.inr ⟨id,_,hm,by rw[an];simp[bP,h0]⟩) hn gA hK (λi j hi hj=>by rw[j3];exact(hu i j hi hj).1) (λi j hi hj=>(hu i j hi hj).2.1) λi j hi hj=>(hu i j hi hj).2.2.frame (λ_ _=>rfl) λ_ h=>.inl h
def oE(id:Nat)(H:Hp):Hp:=H.filter λp=>!Nat.beq p.1 id
def vk{id:Nat}{H:Hp}{x:Nat×Chunk}:x∈oE id H↔x∈H/\x.1≠id:=by
 have hb:(!Nat.beq x.1 id)=true↔x.1≠id:=by
  cases h:aM x.1 id with
  |true=>simp[cT h]
  |false=>simp only[Bool.not_false,true_iff];exactλe=>by rw[e,jv]at h;cases h
 unfold oE;rw[List.mem_filter,hb]
def Inv.oE{H:Hp}(h:Inv w F β H)(id:Nat):Inv w F β (oE id H):=
 ⟨h.cH,λi c hm=>h.holds i c (vk.1 hm).1,(List.Sublist.map _ (List.filter_sublist)).nodup h.keys,λb ⟨i,c,hm,hb⟩=>h.apart b ⟨i,c,(vk.1 hm).1,hb⟩,
  λi c i' c' b h1 h2=>h.eD i c i' c' b (vk.1 h1).1 (vk.1 h2).1,h.fC⟩
def Mb{id E K:Nat}{rows:List (List AV)}{H:Hp}(hI:Inv w F β H)(hm:(id,Chunk.own E K rows)∈H){u:Value}(hu:Rd w F β (.o id) u):bq w (λb=>F b\/bP (β id)=V b) (.s rows) u:=by
 have h1:=hI.oE id
 have tQ:Inv w F β [(id,.own E K rows)]:=⟨hI.cH,λi c h=>by
   simp only[cV,iF]at h;obtain⟨rfl,rfl⟩:=h;exact hI.holds _ _ hm,by simp,
  λb ⟨i,c,h,hb⟩=>by simp only[cV,iF]at h;obtain⟨rfl,rfl⟩:=h;exact hI.apart b ⟨_,_,hm,hb⟩,
  λi c i' c' b h h' _ _=>by simp only[cV,iF]at h h';rw[h.1,h'.1],hI.fC⟩
 refine(Wr tQ (cV.2 rfl) hu).frame (λ_ _=>rfl) λb hb=>hb.elim .inl λ⟨i,c,h,hb⟩=>.inr ?_;simp only[cV,iF]at h;rw[<-h.1];exact hb
structure Src(w:World)(F:Nat->Prop)(K:Nat)(rows:List (List AV))(ad:Addr)(news:List Value):Prop where
 len:news.length=rows.length*K
 cell:∀j v,news[j]?=V v->w.cell? (ad.add j)=V v
 one:∀u,u∈news->u.oneCell'=true
 rd:∀i j,i<rows.length->j<K->bq w F ((rows.getD i []).getD j .Δ) (news.getD (i*K+j) undef)
def Qo{K K' b off:Nat}{rows:List (List AV)}{u:Nat->Nat->Value}(hlen:pj rows K)(hK:∀i,i<rows.length->(rows.getD i []).length=K')
  (hv:∀i j,i<rows.length->j<K'->w.cell? ⟨b,off+(i*K'+j),none⟩=V (u i j)/\(u i j).oneCell'=true/\bq w F ((rows.getD i []).getD j .Δ) (u i j)) :
  ∃news,Src w F K rows ⟨b,off,none⟩ news:=by
 have AB:rows=[]\/K'=K:=by
  cases rows with
  |nil=>exact .inl rfl
  |cons r rs=>exact .inr ((hK 0 (by simp)).symm.trans (hlen r (by simp)))
 refine⟨(gM (rows.length*K)).map λq=>u (q/K) (q % K),by simp,λq v hq=>?_,λv j_=>?_,λi j hi hj=>?_⟩
 .simp only[o_,CE]at hq;obtain⟨q',DS,rfl⟩:=hq;obtain⟨Ξ,rfl⟩:=eZ.1 DS
  have Ξ:q<rows.length*K:=by simpa using Ξ
  simp only[List.getElem_range]
  rcases AB with rfl|rfl
  .simp at Ξ
  .have kW:0<K':=by
    rcases pf K' with h|h
    .rw[h]at Ξ;simp at Ξ
    .exact h
   have h1:q/K'<rows.length:=(zS kW).2 Ξ;have:=(hv (q/K') (q % K') h1 (rP _ kW)).1;rw[gr]
   have e:q/K'*K'+q % K'=q:=by rw[ow];exact R4 q K'
   rwa [e]at this
 .obtain⟨q,hq,rfl⟩:=cL.1 j_
  have Ξ:q<rows.length*K:=by simpa using hq
  rcases AB with rfl|rfl
  .simp at Ξ
  .have kW:0<K':=by
    rcases pf K' with h|h
    .rw[h]at Ξ;simp at Ξ
    .exact h
   exact(hv (q/K') (q % K') ((zS kW).2 Ξ) (rP _ kW)).2.1
 .rcases AB with rfl|rfl
  .simp at hi
  .have Ξ:i*K'+j<rows.length*K':=by
    calc i*K'+j<i*K'+K':=by omega
     _=(i+1)*K':=by rw[bM];omega
     _<=rows.length*K':=cC _ hi
   have e1:(i*K'+j)/K'=i:=by rw[ow,alg (by omega)];simp[alf hj]
   have e2:(i*K'+j) % K'=j:=by rw[ow,CD];exact CC hj
   have:=(hv i j hi hj).2.2;simpa [bc,Ξ,e1,e2]using this
def ahi{x:AV}{vx:Value}{no K:Nat}{kk:List (List AV)->Prop}(hI:Inv w F β st.H)(hx:Rd w F β x vx)(h:Qn x no st.H kk)(hk:∀rows,kk rows->pj rows K):
  ∃rows,kk rows/\((vx=.slice none 0 0/\rows=[])\/∃ad c news,vx=.slice (V ad) rows.length c/\Src w F K rows ad news):=by
 unfold Qn at h;split at h
 .rename_i rows;refine⟨rows,h,?_⟩
  rcases hx.oX.sV with⟨rfl,a,rfl⟩|⟨b,off,c,K',v,hb,hc,hm,rfl,hK,hv⟩
  .cases a with
   |none=>exact .inl ⟨rfl,rfl⟩
   |some ad=>exact .inr ⟨ad,0,[],rfl,by simp,λj v hj=>by simp at hj,λu hu=>by simp at hu,λi j hi=>by simp at hi⟩
  .obtain⟨news,hn⟩:=Qo (hk _ h) hK hv;exact .inr ⟨_,_,news,rfl,hn⟩
 .cases hx.bK;exact⟨[],h,.inl ⟨rfl,rfl⟩⟩
 .rename_i id;cases hb:aM id no with
  |true=>rw[hb]at h;cases h
  |false =>
   rw[hb]at h;simp only[cond_false]at h;split at h
   .rename_i E K' rows hc;refine⟨rows,h,?_⟩;obtain⟨a,n,c,an,rfl⟩:=hx.ko;have hh:=hI.holds _ _ (fk hc)
    rcases sM hh with⟨rfl,a',hv⟩|⟨g,cap,hv,hm,hn⟩
    .rw[an]at hv;cases hv;cases a with
     |none=>exact .inl ⟨rfl,rfl⟩
     |some ad =>
      refine .inr ⟨ad,0,[],rfl,by simp,λj v hj=>by simp at hj,λu hu=>by simp at hu,λi j hi=>by simp at hi⟩
    .rw[an]at hv;cases hv;obtain⟨_,_,_,u,hu⟩:=IQ hh an;obtain⟨news,hn⟩:=Qo (b:=g) (off:=0) (u:=u) (hk _ h) (Wq hh) (λi j hi hj=>by have:=hu i j hi hj;rwa [j3]);exact .inr ⟨_,_,news,rfl,hn⟩
   .cases h
 .cases h
def Ev{d E K cap:Nat}{rows:List (List AV)}{us:Array Value}{w1:World}(hd:d<1000)(hI:Inv w F β st.H)(hh:w1.heap=w.heap)(ho:w1.os=w.os)(ht:jL w w1)(hp:w1.output=w.output)
  (hs:us.size=cap*K) (hn:rows.length<=cap) (hm:cap<=maxLen) (hK:∀i,i<rows.length->(rows.getD i []).length=K)
  (hr:∀i j,i<rows.length->j<K->(us.getD (i*K+j) undef).oneCell'=true/\bq w F ((rows.getD i []).getD j .Δ) (us.getD (i*K+j) undef))
  (hk:k (.o d) (ij st d (.own E K rows))):EPost w F β st k (.slice (V ⟨w.heap.size,0,none⟩) rows.length cap) (w1.alloc (.cells us E)):=by
 have aY:∀b,b<w.heap.size->(w1.alloc (.cells us E)).heap[b]?=w.heap[b]?:=λb hb=>by
  rw[_root_.Go.heap_alloc_old w1 _ (by rw[hh];exact hb),hh]
 have eY:(w1.alloc (.cells us E)).heap[w.heap.size]?=V (.cells us E (0,0)):=by rw[<-hh];exact heap_alloc_new w1 _
 have ha:gn F w (w1.alloc (.cells us E)):=λb hb=>aY b (hI.cH b hb);refine⟨_,_,F,_,hk,.o (by simp),qg (v:=.slice (V ⟨w.heap.size,0,none⟩) rows.length cap) hd hI ho ht hp (by simp[hh]) (λb hb _=>aY b hb) (λi c b _ hm hb=>aY b (hI.gg ⟨i,c,hm,hb⟩)) (λb hb=>?_) ?_⟩
 .cases h0:aM cap 0<;>simp[bP,h0]at hb
  left;omega
 .by_cases h0:cap=0
  .subst h0;have:rows=[]:=qI (by omega);subst this;exact .inl ⟨rfl,_,by simp;rfl⟩
  .exact .inr ⟨w.heap.size,cap,us,by simp,by omega,eY,hn,hm,hs,hK,λi j hi hj=>⟨(hr i j hi hj).1,(hr i j hi hj).2.frame ha λ_ h=>h⟩⟩
def uU(A:Array Value)(l:List Value)(h:A.toList=l)(i:Nat):A.getD i undef=l.getD i undef:=by
 subst h;simp[lA,bc]
def KD(z:Array Value)(n:Nat):(dJ z n).size=n*z.size:=by simp[dJ]
def JQ{rows bQ:List (List AV)}{K:Nat}{xs news zs:List Value}(hx:xs.length=rows.length*K)(hn:news.length=bQ.length*K)
  {Q:AV->Value->Prop} (h1:∀i j,i<rows.length->j<K->Q ((rows.getD i []).getD j .Δ) (xs.getD (i*K+j) undef))
  (h2:∀i j,i<bQ.length->j<K->Q ((bQ.getD i []).getD j .Δ) (news.getD (i*K+j) undef)) :
  ∀i j,i<(rows++bQ).length->j<K->Q (((rows++bQ).getD i []).getD j .Δ) ((xs++news++zs).getD (i*K+j) undef):=by
 intro i j hi hj
 have below:∀m n,m<n->m*K+j<n*K:=λm n h=>by
  calc m*K+j<m*K+K:=by omega
   _=(m+1)*K:=by rw[bM];omega
   _<=n*K:=cC _ h
 simp only[cZ]at hi;by_cases Ξ:i<rows.length
 .have:=below i rows.length Ξ
  have e1:(rows++bQ).getD i []=rows.getD i []:=by simp[bc,gV,Ξ]
  have e2:(xs++news++zs).getD (i*K+j) undef=xs.getD (i*K+j) undef:=by
   simp[bc,gV,hx,this]
  rw[e1,e2];exact h1 i j Ξ hj
 .have hb:=below (i-rows.length) bQ.length (by omega);have eW:rows.length*K<=i*K+j:=dZ (cC K (ale Ξ)) (Nat.le_add_right _ _)
  have e1:(rows++bQ).getD i []=bQ.getD (i-rows.length) []:=by simp[bc,gV,Ξ]
  have e0:i*K+j-rows.length*K=(i-rows.length)*K+j:=by rw[Nat.sub_mul];have:=cC K (ale Ξ);omega
  have e2:(xs++news++zs).getD (i*K+j) undef=news.getD ((i-rows.length)*K+j) undef:=by
   have h3:¬i*K+j<rows.length*K:=by omega
   simp[bc,gV,hx,hn,h3,e0,hb]
  rw[e1,e2];exact h2 _ j (by omega) hj
def Py{rows bQ:List (List AV)}{K:Nat}(h1:∀i,i<rows.length->(rows.getD i []).length=K)(h2:pj bQ K):∀i,i<(rows++bQ).length->((rows++bQ).getD i []).length=K:=by
 intro i hi;simp only[cZ]at hi;by_cases Ξ:i<rows.length
 .have e1:(rows++bQ).getD i []=rows.getD i []:=by simp[bc,gV,Ξ]
  rw[e1];exact h1 i Ξ
 .have sA:i-rows.length<bQ.length:=by omega
  have e1:(rows++bQ).getD i []=bQ[i-rows.length]:=by simp[bc,gV,Ξ,sA]
  rw[e1];exact h2 _ (eA _)
def agp(w:World)(t tx ty e:TypeId)(i:TypeInfo)(ht:P.underlying t=V (.slice e))(hi:P.info? e=V i)(g lX zo:Nat)(cur:Array Value)(hg:w.heap[g]?=V (.cells cur e (0,0)))
  (x:Value) (n:Nat) (news:List Value) (hs:Go.Src P i.size tx x n news w) (fF:lX+n<=zo) (jE:lX*i.size+news.length<=cur.size) :
  (iD #[t,tx] ty #[.slice (V ⟨g,0,none⟩) lX zo,x]).run P w =
   .ok (.slice (V ⟨g,0,none⟩) (lX+n) zo) (w.setRow g (cur.toList.take (lX*i.size)++news++cur.toList.drop (lX*i.size+news.length)).toArray):=by
 have cO:=run_storeCells_at P g (lX*i.size) e news 0 cur w hg (by simpa using jE) hs.one;simp only[l8]at cO
 rcases hs.kind with⟨e',hk⟩|hk<;>simp[iD,run_underlying ht,run_underlying hk,sizeOf,typeInfo,hi,hs.len,fF,hs.cells,gr,cO]
structure GM(w:World)(F:Nat->Prop)(K:Nat)(rows:List (List AV))(news:List Value):Prop where
 len:news.length=rows.length*K
 one:∀u,u∈news->u.oneCell'=true
 rd:∀i j,i<rows.length->j<K->bq w F ((rows.getD i []).getD j .Δ) (news.getD (i*K+j) undef)
structure xf(P:Program)(t tx ty e:TypeId)(i:TypeInfo)(z:Value)(vx:Value)(n:Nat)(news:List Value)(w:World):Prop where
 none:n=0->news=[]->∀(base:Option Addr)(len cap:Nat),len<=cap->(iD #[t,tx] ty #[.slice base len cap,vx]).run P w=.ok (.slice base len cap) w
 grow:∀(base:Option Addr)(len cap:Nat)(olds:List Value),(wX i.size len (.slice base len cap)).run P w.drew=.ok olds.toArray w.drew->cap<len+n->((len+n:Nat):Int)<=9223372036854775807 ->
  Rr (len+n) cap*i.bytes<=281474976710656->(iD #[t,tx] ty #[.slice base len cap,vx]).run P w =
   .ok (.slice (V ⟨w.heap.size,0,.none⟩) (len+n) (grownCap w (len+n) cap e)) (w.drew.alloc (.cells ((olds++news).toArray++dJ z.cells (grownCap w (len+n) cap e-(len+n))) e))
 room:∀(g len cap:Nat)(cur:Array Value),w.heap[g]?=V (.cells cur e (0,0))->len+n<=cap->len*i.size+news.length<=cur.size ->
  (iD #[t,tx] ty #[.slice (V ⟨g,0,.none⟩) len cap,vx]).run P w =
   .ok (.slice (V ⟨g,0,.none⟩) (len+n) cap) (w.setRow g (cur.toList.take (len*i.size)++news++cur.toList.drop (len*i.size+news.length)).toArray)
def xf.ae2{t tx ty e:TypeId}{i:TypeInfo}{z vx:Value}{n:Nat}{news:List Value}(hu:P.underlying t=V (.slice e))(hi:P.info? e=V i)(hz:i.zero=V z)(h:Go.Src P i.size tx vx n news w):xf P t tx ty e i z vx n news w where
 none h0 h1 base len cap hle:=by subst h0;subst h1;exact run_append_nothing w t tx ty e i hu hi base len cap hle vx h
 grow base len cap olds hold hg Mn jE:=run_append_grow_src (P:=P) w t tx ty e i z hu hi hz base len cap olds hold vx n news h hg Mn jE
 room g len cap cur hg fF jE:=agp (P:=P) w t tx ty e i hu hi g len cap cur hg vx n news h fF jE
def xf.ake{t tx ty e:TypeId}{i:TypeInfo}{z:Value}{kx kn:IntKind}{n:Nat}(hu:P.underlying t=V (.slice e))(jq:P.underlying tx=V (.int kn))(hi:P.info? e=V i)(hz:i.zero=V z)(iZ:z.cells.size=i.size)(h1:∀v,v∈(dJ z.cells n).toList->v.oneCell'=true)
  (hn:n<=140737488355328) (kY:n*i.bytes<=140737488355328):xf P t tx ty e i z (.int kx (n:Int)) n (dJ z.cells n).toList w:=by
 have qs:IntKind.i64.wrap (n:Int)=(n:Int):=wZ _ (by omega)
 have acB:(n:Int)*(i.bytes:Int)<=140737488355328:=by
  have h5:((n*i.bytes:Nat):Int)=(n:Int)*(i.bytes:Int):=RD _ _;rw[<-h5];omega
 have g1:¬((n:Int)<0):=by omega
 have g2:¬(281474976710656<(n:Int)*(i.bytes:Int)):=by omega
 have D_:n*i.size=0->dJ z.cells n=#[]:=λh=>by simp[dJ,iZ,h]
 refine⟨λh0 _ base len cap hle=>?_,λbase len cap olds hold hg Mn jE=>?_,λg len cap cur hg fF jE=>?_⟩
 .subst h0;have D3:IntKind.i64.wrap 0=0:=rfl;cases base<;>simp[iD,run_underlying hu,run_underlying jq,sizeOf,typeInfo,hi,asInt,asIntOf,D3,hle,storeCells]
 .have uf:¬(len+n<=cap):=by omega
  have TQ:¬(9223372036854775807<((len:Int)+(n:Int))):=by omega
  have TP:¬(281474976710656<Rr (len+n) cap*i.bytes):=by omega
  by_cases h5:n*i.size=0
  .simp[iD,run_underlying hu,run_underlying jq,sizeOf,typeInfo,zeroValue,hi,hz,asInt,asIntOf,qs,g1,g2,uf,TQ,TP,h5,D_ h5,R9,hold,newRow,grownCap]
  .simp[iD,run_underlying hu,run_underlying jq,sizeOf,typeInfo,zeroValue,hi,hz,asInt,asIntOf,qs,g1,g2,uf,TQ,TP,h5,R9,hold,newRow,grownCap];congr 2;apply Array.ext';simp[l7]
 .have cO:=run_storeCells_at P g (len*i.size) e (dJ z.cells n).toList 0 cur w hg (by simpa using jE) h1;simp only[l8]at cO;by_cases h5:n*i.size=0
  .rw[D_ h5]at cO ⊢;simp[iD,run_underlying hu,run_underlying jq,sizeOf,typeInfo,hi,asInt,asIntOf,qs,g1,g2,fF,h5,gr,cO]
  .simp[iD,run_underlying hu,run_underlying jq,sizeOf,typeInfo,zeroValue,hi,hz,asInt,asIntOf,qs,g1,g2,fF,h5,gr,cO]
def Sq{t tx e L:Nat}{i j:TI}{ty:TypeId}{rows bQ:List (List AV)}{v vx:Value}(hd:L<1000)(hT:bL P T)(hI:Inv w F β st.H)(hi:T t=V i)(he:i.kind=.slice e)(hj:T e=V j)
  (eu:j.bytes≠0) (hz:j.zero.cells.size=j.cells)
  (hv:(rows=[]/\v=.slice none 0 0)\/((L,Chunk.own e j.cells rows)∈st.H/\β L=v))
  (hx:∃news,(∀i z,P.info? e=V i->i.zero=V z->i.size=j.cells->i.bytes=j.bytes->xf P t tx ty e i z vx bQ.length news w)/\GM w F j.cells bQ news)
  (hlen:pj bQ j.cells) (nL:(rows.length+bQ.length)*j.bytes<=140737488355328)
  (hk:k (.o L) (ij st L (.own e j.cells (rows++bQ)))) :
  ∃v' w',(iD #[t,tx] ty #[v,vx]).run P w=.ok v' w'/\EPost w F β st k v' w':=by
 have hu:=(hT _ _ hi).slice he;obtain⟨inf,pI,hzero,eO,kY⟩:=(hT _ _ hj).info;have dM:rows.length+bQ.length<=140737488355328:=dZ (R5 _ (R8 eu)) nL
 have j8:rows.length+bQ.length<=maxLen:=by unfold maxLen;omega
 have same:∀a,(rows=[]/\v=.slice none 0 0)\/((L,Chunk.own e j.cells rows)∈st.H/\β L=v)->bQ=[]->v=.slice a rows.length rows.length\/True->EPost w F β st k v w:=by
  intro a j_ hr _;subst hr;refine⟨_,_,F,λq=>if q=L then v else β q,hk,?_,qg (v:=v) hd hI rfl ⟨rfl,λ_=>(by first|exact bm _|exact ku _)⟩ rfl (bm _) (λ_ _ _=>rfl) (λ_ _ _ _ _ _=>rfl) (λb hb=>?_) ?_⟩
  .rcases j_ with⟨_,rfl⟩|⟨hm,an⟩
   .exact .o (by simp)
   .rcases sM (hI.holds _ _ hm)with⟨_,a,ha⟩|⟨g,cap,ha,_⟩
    .rw[an]at ha;subst ha;exact .o (by simp)
    .rw[an]at ha;subst ha;exact .o (by simp)
  .rcases j_ with⟨_,rfl⟩|⟨hm,an⟩
   .simp[bP]at hb
   .exact .inr ⟨_,hm,by rw[an];exact hb⟩
  .rw[qH]
   rcases j_ with⟨rfl,rfl⟩|⟨hm,an⟩
   .exact .inl ⟨rfl,none,by simp⟩
   .have:=hI.holds _ _ hm;unfold Chunk.holds at this ⊢;simpa [an]using this
 have form:(rows=[]/\∃a,v=.slice a 0 0)\/∃g cap cur,(L,Chunk.own e j.cells rows)∈st.H/\β L=v/\v=.slice (V ⟨g,0,none⟩) rows.length cap/\0<cap/\w.heap[g]?=V (.cells cur e (0,0))/\rows.length<=cap/\cap<=maxLen /\
   cur.size=cap*j.cells/\(∀i,i<rows.length->(rows.getD i []).length=j.cells) /\
   ∀q z,q<rows.length->z<j.cells->(cur.getD (q*j.cells+z) undef).oneCell'=true/\bq w F ((rows.getD q []).getD z .Δ) (cur.getD (q*j.cells+z) undef):=by
  rcases hv with⟨hr,rfl⟩|⟨hm,an⟩
  .exact .inl ⟨hr,none,rfl⟩
  .rcases hI.holds _ _ hm with⟨hr,a,ha⟩|⟨g,cap,cur,ha,h1,h2,h3,h4,h5,h6,h7⟩
   .exact .inl ⟨hr,a,by rw[<-an,ha]⟩
   .exact .inr ⟨g,cap,cur,hm,an,by rw[<-an,ha],h1,h2,h3,h4,h5,h6,h7⟩
 obtain⟨news,vI,iY⟩:=hx;have HH:=vI inf _ pI hzero eO kY
 have DK:news.length=bQ.length*inf.size:=by rw[eO];exact iY.len
 ·
  rcases form with⟨rfl,a,rfl⟩|⟨g,cap,cur,hm,an,rfl,jk,hg,hn,gA,fD,hK,fE⟩
  .by_cases h0:bQ=[]
   .subst h0;refine⟨_,w,?_,same none hv rfl (.inr KZ)⟩;have AT:news=[]:=qI (by simpa using iY.len);subst AT;exact HH.none rfl rfl a 0 0 (bm _)
   .have pO:0<bQ.length:=List.length_pos_iff.2 h0;simp only[List.length_nil,j3]at nL dM j8;have DF:=grownCap_ge w bQ.length 0 e;have DG:=grownCap_le_maxLen w bQ.length 0 e j8
    have post:EPost w F β st k (.slice (V ⟨w.heap.size,0,none⟩) bQ.length (grownCap w bQ.length 0 e)) (w.drew.alloc (.cells (news.toArray++dJ j.zero.cells (grownCap w bQ.length 0 e-bQ.length)) e)):=by
     refine Ev (d:=L) (K:=j.cells) (rows:=bQ) hd hI rfl rfl ⟨rfl,λ_=>ku _⟩ rfl ?_ DF DG (λq hq=>?_) (λq z hq hz=>?_) (by simpa using hk)
     .simp only[s5,lF,KD,iY.len,hz,<-bM];congr 1;omega
     .have:=hlen (bQ.getD q []) (by rw[gk,bD hq];exact eA _);exact this
     .have:=JQ (rows:=[]) (xs:=[]) (zs:=(dJ j.zero.cells (grownCap w bQ.length 0 e-bQ.length)).toList) (Q:=λx u=>u.oneCell'=true/\bq w F x u) (by simp) iY.len (λ_ _ h=>by simp at h) (λi j' hi jF=>⟨iY.one _ ?_,iY.rd i j' hi jF⟩) q z (by simpa using hq) hz
      .rw[uU _ ([]++news++(dJ j.zero.cells (grownCap w bQ.length 0 e-bQ.length)).toList) (by simp)];exact this
      .have Ξ:i*j.cells+j'<news.length:=by
        rw[iY.len]
        calc i*j.cells+j'<i*j.cells+j.cells:=by omega
         _=(i+1)*j.cells:=by rw[bM];omega
         _<=bQ.length*j.cells:=cC _ hi
       rw[gk,bD Ξ];exact eA _
    have hold:(wX inf.size 0 (.slice a 0 0)).run P w.drew=.ok ([]:List Value).toArray w.drew:=by cases a<;>simp[wX,loadCells,loadCellsFrom]
    have hr:=HH.grow a 0 0 [] hold (by omega) (by omega) (by rw[kY];exact growslice_fits (by omega) (by rw[j3];exact nL));simp only[j3,List.nil_append]at hr;exact⟨_,_,hr,post⟩
  ·-- a block of its own
   have hrc:rows.length*j.cells<=cap*j.cells:=cC _ hn
   have h0:aM cap 0=false:=by cases cap<;>first|rfl|omega
   have dB:bH β st.H g:=⟨L,_,hm,by rw[an];simp[bP,h0]⟩;let xs:List Value:=cur.toList.take (rows.length*j.cells)
   have nX:xs.length=rows.length*j.cells:=by simp only[xs,dq,lZ];omega
   have below:∀(m n z:Nat),m<n->z<j.cells->m*j.cells+z<n*j.cells:=λm n z h hz=>by
    calc m*j.cells+z<m*j.cells+j.cells:=by omega
     _=(m+1)*j.cells:=by rw[bM];omega
     _<=n*j.cells:=cC _ h
   have ru:∀q z,q<rows.length->z<j.cells->xs.getD (q*j.cells+z) undef=cur.getD (q*j.cells+z) undef:=λq z hq hz=>by
    have h1:=below q rows.length z hq hz
    have h2:q*j.cells+z<cur.size:=by omega
    simp[xs,bc,h1,h2]
   have h2:∀q z,q<bQ.length->z<j.cells->(news.getD (q*j.cells+z) undef).oneCell'=true/\bq w F ((bQ.getD q []).getD z .Δ) (news.getD (q*j.cells+z) undef):=λq z hq hz=>by
    refine⟨iY.one _ ?_,iY.rd q z hq hz⟩
    have Ξ:q*j.cells+z<news.length:=by rw[iY.len];exact below q _ z hq hz
    rw[gk,bD Ξ];exact eA _
   have h1:∀q z,q<rows.length->z<j.cells->(xs.getD (q*j.cells+z) undef).oneCell'=true/\bq w F ((rows.getD q []).getD z .Δ) (xs.getD (q*j.cells+z) undef):=λq z hq hz=>by
    rw[ru q z hq hz];exact fE q z hq hz
   by_cases fF:rows.length+bQ.length<=cap
   .have jE:rows.length*inf.size+news.length<=cur.size:=by
     rw[DK,eO,fD,<-bM];exact cC _ fF
    have hr:=HH.room g rows.length cap cur hg fF jE;rw[eO]at hr;refine⟨_,_,hr,_,_,F,λq=>if q=L then .slice (V ⟨g,0,none⟩) (rows.length+bQ.length) cap else β q,hk,.o (by simp),?_⟩;have iw:∀b cs,b≠g->(w.setRow g cs).heap[b]?=w.heap[b]?:=λb cs hb=>setRow_other w g b cs hb;refine qg (v:=.slice (V ⟨g,0,none⟩) (rows.length+bQ.length) cap) hd hI rfl ⟨rfl,λ_=>(by first|exact bm _|exact ku _)⟩ rfl (by simp) (λb _ ho=>iw b _ λe=>ho (e▸dB)) (λi' c' b aI bN hb=>iw b _ λe=>aI (hI.eD i' c' L _ b bN hm hb (by rw[an,e];simp[bP,h0]))) (λb hb=>?_) (.inr ?_)
    .refine .inr ⟨_,hm,?_⟩;rw[an];simpa [bP,h0]using hb
    .have ha:∀cs,gn F w (w.setRow g cs):=λcs b hb=>iw b cs λe=>hI.apart g dB (e▸hb);refine⟨g,cap,(xs++news++cur.toList.drop (rows.length*j.cells+news.length)).toArray,by simp,jk,setRow_heap w g cur _ e _ hg,by simpa using fF,gA,?_,Py hK hlen,λq z hq hz=>?_⟩
     .simp only[lF,cZ,nB,lZ];rw[eO]at jE;omega
     .have:=JQ (zs:=cur.toList.drop (rows.length*j.cells+news.length)) (Q:=λx u=>u.oneCell'=true/\bq w F x u) nX iY.len h1 h2 q z hq hz;rw[uU _ (xs++news++cur.toList.drop (rows.length*j.cells+news.length)) rfl];exact⟨this.1,this.2.frame (ha _) λ_ h=>h⟩
   .have eT:∀q u,xs[q]?=V u->w.cell? ((⟨g,0,none⟩:Addr).add q)=V u:=λq u hq=>by
     rw[gr,j3,cell_of_row w g q cur e (0,0) hg];simp only[xs,fS]at hq;split at hq
     .simpa using hq
     .cases hq
    have hold:=run_firstCells_some (P:=P) w.drew inf.size rows.length ⟨g,0,none⟩ rows.length cap xs (by rw[eO];exact nX) (by simpa using eT);have hr:=HH.grow (V ⟨g,0,none⟩) rows.length cap xs hold (by omega) (by omega) (by rw[kY];exact growslice_fits (by omega) nL);refine⟨_,_,hr,?_⟩;have DF:=grownCap_ge w (rows.length+bQ.length) cap e;have DG:=grownCap_le_maxLen w (rows.length+bQ.length) cap e j8;have:=Ev (d:=L) (E:=e) (K:=j.cells) (cap:=grownCap w (rows.length+bQ.length) cap e) (rows:=rows++bQ) (us:=(xs++news).toArray++dJ j.zero.cells (grownCap w (rows.length+bQ.length) cap e-(rows.length+bQ.length)))
     (w1:=w.drew) (k:=k) hd hI rfl rfl ⟨rfl,λ_=>ku _⟩ rfl ?_ (by simpa using DF) DG (Py hK hlen) (λq z hq hz=>?_) hk
    .simpa using this
    .simp only[s5,lF,cZ,KD,iY.len,nX,hz,<-bM];congr 1;omega
    .have:=JQ (zs:=(dJ j.zero.cells (grownCap w (rows.length+bQ.length) cap e-(rows.length+bQ.length))).toList) (Q:=λx u=>u.oneCell'=true/\bq w F x u) nX iY.len h1 h2 q z hq hz;rw[uU _ (xs++news++(dJ j.zero.cells (grownCap w (rows.length+bQ.length) cap e-(rows.length+bQ.length))).toList) (by simp)];exact this
def Lh{t tx e L:Nat}{i j:TI}{ty:TypeId}{rows bQ:List (List AV)}{v vx:Value}(hd:L<1000)(hT:bL P T)(hI:Inv w F β st.H)(hi:T t=V i)(he:i.kind=.slice e)(hj:T e=V j)
  (eu:j.bytes≠0) (hz:j.zero.cells.size=j.cells)
  (hv:(rows=[]/\v=.slice none 0 0)\/((L,Chunk.own e j.cells rows)∈st.H/\β L=v))
  (hx:∃news,Go.Src P j.cells tx vx bQ.length news w/\GM w F j.cells bQ news)
  (hlen:pj bQ j.cells) (nL:(rows.length+bQ.length)*j.bytes<=140737488355328)
  (hk:k (.o L) (ij st L (.own e j.cells (rows++bQ)))) :
  ∃v' w',(iD #[t,tx] ty #[v,vx]).run P w=.ok v' w'/\EPost w F β st k v' w':=by
 have hu:=(hT _ _ hi).slice he;obtain⟨news,vI,iY⟩:=hx;exact Sq hd hT hI hi he hj eu hz hv ⟨news,λi z h1 h2 h3 _=>xf.ae2 hu h1 h2 (by rw[h3];exact vI),iY⟩ hlen nL hk
end
section
variable{P:Program}{T:TT}{w:World}{F:Nat->Prop}{β:Nat->Value}{st:ak}{k:AV->ak->Prop}
def abC{t d:Nat}(hd:d<1000)(hT:bL P T)(hI:Inv w F β st.H)(h:LV T t d st k):cX P (do pure (.value (<-RB t none))) w F β st k:=by
 unfold LV at h;split at h
 .rename_i ti kG;split at h
  .rename_i kt e hk;split at h
   .rename_i ik ie nP tZ;split at h
    .have bf:(RB t none).run P w=.ok (.map (V w.heap.size)) (w.alloc (.map #[] 0)):=by simp[RB,newObj,Gy]
     have hb:=uV w (.map #[] 0);have eY:(w.alloc (.map #[] 0)).heap[w.heap.size]?=V (.map #[] 0):=(Go.MapKept.heap_alloc w _).1;refine cX.value bf ⟨_,_,F,λq=>if q=d then .map (V w.heap.size)else β q,h,.m (by simp),qg (v:=.map (V w.heap.size)) hd hI hb.os hb.tape hb.output hb.size (λb aN _=>hb.block b aN) (λi c' b _ hm aN=>hb.block b (hI.gg ⟨i,c',hm,aN⟩)) (λb aN=>.inl ?_) ?_⟩
     .simp[bP]at aN;omega
     .exact⟨w.heap.size,#[],0,by simp,eY,Go.MapKept.stamped_empty 0,rfl,by simp,λi r hi=>by simp at hi⟩
    .cases h
   .cases h
  .cases h
 .cases h
def Yd{w:World}{b b':Nat}(o:Obj)(h:b'≠b):({ w with heap:=w.heap.setIfInBounds b o }:World).heap[b']?=w.heap[b']?:=by
 simp[Array.getElem?_setIfInBounds,Ne.symm h]
def Ta{t:Nat}{m i y:AV}{vm vi vy:Value}(hT:bL P T)(hI:Inv w F β st.H)(hm:Rd w F β m vm)(hi:Rd w F β i vi)(hy:Rd w F β y vy)(h:Hc T t m i y st k):
  cX P (do Gn t vm vi vy;pure .skip) w F β st k:=by
 unfold Hc at h;split at h
 .rename_i ti kG;split at h
  .rename_i kt e hk;have hu:=(hT _ _ kG).map hk;split at h
   .rename_i ik nP;split at h
    .rename_i id n re;have hd:=(hT _ _ nP).int re;cases hi.bK;split at h
     .rename_i ag rows hc;split at h
      .rename_i yc hyc;obtain⟨hn,hlen,R,rfl,bG⟩:=h;have bn:=fk hc;obtain⟨b,an,rfl⟩:=hm.yJ;obtain⟨b',es,ck,jr,hh,cO,hs,gA,vP⟩:=hI.holds _ _ bn;rw[an]at jr;cases jr;have qX:b<w.heap.size:=kS hh;have hg:=Go.MapKept.run_getObj_map (P:=P) hh;have eU:=Go.MapKept.run_checkKey (P:=P) (w:=w) (k:=.int .i64 n) hd rfl false 9999;obtain⟨dQ,hf⟩:=Tu cO hs vP n;have Vs:=Wa hyc hy
       have hblk:bP (β id)=V b:=by rw[an];rfl
       have fin:∀(nI:Array MapEntry)(CT:Nat),(Gn t (.map (V b)) (.int .i64 n) vy).run P w=.ok () { w with heap:=w.heap.setIfInBounds b (.map nI CT) } ->
         Go.MapKept.Stamped nI CT->nI.size=(fh n yc rows).length->nI.size<=140737488355328 ->
         (∀(i:Nat)(r:Int×List AV),(fh n yc rows)[i]?=V r->∃e:MapEntry,nI[i]?=V e/\e.key=.int .i64 r.1/\ae r.1/\bq w F (rG ag r.2) e.val) ->
         cX P (do Gn t (.map (V b)) (.int .i64 n) vy;pure .skip) w F β st k:=λnI CT bf h1 h2 h3 h4=>by
        have sf:gn F w { w with heap:=w.heap.setIfInBounds b (.map nI CT) }:=λq hq=>Yd _ λe=>hI.apart b ⟨id,_,bn,hblk⟩ (e▸hq);refine cX.skip bf ⟨_,_,F,β,bG,.i (.v (.inr rfl)),vr hI bn rfl ⟨rfl,λ_=>bm _⟩ rfl (by simp) (λb' aN=>Yd _ λe=>aN (by rw[hblk,e])) ?_⟩;refine⟨b,nI,CT,an,(Go.MapKept.heap_set hh).1,h1,h2,h3,λi r nQ=>?_⟩;obtain⟨e,g1,g2,g3,g4⟩:=h4 i r nQ;exact⟨e,g1,g2,g3,g4.frame sf λ_ h=>h⟩
       rcases hf with⟨h1,h2,h3⟩|⟨j,e0,c',h1,h2,UG,h3,h4,_,h6⟩
       .have x_:=Gl (P:=P) (w:=w) hd h1
        have j9:fh n yc rows=rows++[(n,yc)]:=by
         rcases Eo n yc rows with⟨_,h,_⟩|⟨j,c,_,h,_⟩
         .exact h
         .rw[h2]at h;cases h
        refine fin (es.push { key:=.int .i64 n,val:=vy,born:=ck }) (ck+1) ?_ (Go.MapKept.stamped_push cO h3) (by rw[j9];simp[hs]) (by simp;omega) (λi r nQ=>?_)
        .have NA:=ZT (P:=P) (.map (es.push { key:=.int .i64 n,val:=vy,born:=ck }) (ck+1)) hh;simp[Gn,run_underlying hu,hg,eU,x_,NA]
        .rw[j9]at nQ
         rcases Nat.lt_or_ge i rows.length with Ξ|eW
         .rw[List.getElem?_append_left Ξ]at nQ;obtain⟨e,g1,g2⟩:=vP i r nQ;exact⟨e,by rw[nv,if_neg (by omega)];exact g1,g2⟩
         .rw[List.getElem?_append_right eW]at nQ
          have q_:i-rows.length=0:=by
           have:=(eZ.1 nQ).1;simpa using this
          rw[q_]at nQ;cases nQ;exact⟨_,by rw[nv,if_pos (by omega)],rfl,hn,Vs⟩
       .have x_:=Gl (P:=P) (w:=w) hd h1;have mZ:j<es.size:=(Array.getElem?_eq_some_iff.1 h2).1;have iI:=Go.MapKept.run_keyThatStays (P:=P) (w:=w) (d:=.int .i64) (k:=.int .i64 n) rfl;let nI:=es.modify j λe=>{ e with key:=.int .i64 n,val:=vy };have nO:∀i,nI[i]?=if j=i then(es[i]?).map (λe=>{ e with key:=.int .i64 n,val:=vy })else es[i]?:=λi=>Array.getElem?_modify;refine fin nI ck ?_ (Go.MapKept.stamped_modify cO j _ (λ_ _=>rfl) λe _ he=>by rw[h2]at he;cases he;exact UG.symm) (by rw[h6];simp[nI,hs]) (by simpa [nI]using gA) (λi r nQ=>?_)
        .have NA:=ZT (P:=P) (.map nI ck) hh;simp[Gn,run_underlying hu,hg,eU,x_,h2,UG,iI,NA,nI]
        .rw[h6,List.getElem?_set]at nQ;rw[nO];by_cases sx:j=i
         .subst sx;rw[if_pos rfl,if_pos (by omega)]at nQ;cases nQ;rw[if_pos rfl,h2];exact⟨_,rfl,rfl,hn,Vs⟩
         .rw[if_neg sx]at nQ;rw[if_neg sx];exact vP i r nQ
      .cases h
     .cases h
    .cases h
   .cases h
  .cases h
 .cases h
end
section
variable{P:Program}{T:TT}{w:World}{F:Nat->Prop}{β:Nat->Value}{st:ak}{k:AV->ak->Prop}
def Lg{t t' e no:Nat}{i j:TI}{x:AV}{vx:Value}{kk:List (List AV)->Prop}(hT:bL P T)(hI:Inv w F β st.H)(hi:T t=V i)(he:i.kind=.slice e)(_hj:T e=V j)(hx:Rd w F β x vx)(h:CN T t t' e x no st.H kk)(hk:∀rows,kk rows->pj rows j.cells):
  ∃rows,kk rows/\∃news,Go.Src P j.cells t' vx rows.length news w/\GM w F j.cells rows news:=by
 unfold CN at h;cases hb:aM t t' with
 |true =>
  rw[hb]at h;obtain rfl:=cT hb;have hu:=(hT _ _ hi).slice he;obtain⟨rows,re,fN⟩:=ahi hI hx h hk;refine⟨rows,re,?_⟩
  rcases fN with⟨rfl,rfl⟩|⟨ad,c,news,rfl,hs⟩
  .exact⟨[],Go.Src.ofNil w hu 0,⟨by simp,λu hu=>by simp at hu,λi j hi=>by simp at hi⟩⟩
  .exact⟨news,Go.Src.ofSlice w hu ad rows.length c news hs.len hs.cell hs.one,⟨hs.len,hs.one,hs.rd⟩⟩
 |false =>
  rw[hb]at h;simp only[cond_false]at h;split at h
  .rename_i i' je s br AO;split at h
   .rename_i adH Vj;obtain⟨aj,h⟩:=cond_prop h
    have hj:j=je:=by rw[_hj]at AO;exact Option.some.inj AO
    have aj:j.cells=1:=by rw[hj];exact cT aj
    have hu:=(hT _ _ br).str adH;cases hx.bK;refine⟨_,h,byteCells s,?_,?_⟩
    .rw[aj];have:=Go.Src.ofString w hu s
     have e:(s.data.toList.map lM).length=s.size:=by rw[au,lZ];rfl
     rw[e];exact this
    .rw[aj];refine⟨by simp[byteCells],λu hu=>by obtain⟨_,_,rfl⟩:=cL.1 hu;rfl,λa b ha hb=>?_⟩
     have eu:b=0:=by omega
     subst eu
     have pE:a<s.data.toList.length:=by simpa using ha
     have e1:((s.data.toList.map lM).getD a []).getD 0 .Δ=.v (.int .u8 ((s.data.toList[a]).toNat:Int)):=by
      have e0:(s.data.toList.map lM).getD a []=lM (s.data.toList[a]):=by rw[gk,o_,bD pE];rfl
      rw[e0];rfl
     have e2:(byteCells s).getD (a*1+0) undef=.int .u8 ((s.data.toList[a]).toNat:Int):=by
      rw[Nat.mul_one,l8,gk];unfold byteCells;rw[o_,bD pE];rfl
     rw[e1,e2];exact .v (.inl rfl)
   .cases h
  .cases h
def S_{t t' d:Nat}{s x:AV}{vs vx:Value}(hd:d<1000)(hT:bL P T)(hI:Inv w F β st.H)(hs:Rd w F β s vs)(hx:Rd w F β x vx)(h:Ak T t t' s x d st k)(ty:TypeId):
  cX P (do pure (.value (<-iD #[t,t'] ty #[vs,vx]))) w F β st k:=by
 unfold Ak at h;split at h
 .rename_i i hi;split at h
  .rename_i e he;split at h
   .rename_i j hj;cases hb:(aM j.bytes 0||(aM j.cells 0||!(aM j.zero.cells.size j.cells)))with
    |true=>rw[hb]at h;cases h
    |false =>
     rw[hb]at h;simp only[cond_false]at h;simp only[Rq,Ro]at hb;obtain⟨eu,_,hz⟩:=hb;have hz:j.zero.cells.size=j.cells:=cT hz
     have eu:j.bytes≠0:=λe=>by rw[e]at eu;cases eu
     split at h
     .cases hs.bK;obtain⟨bQ,⟨hlen,kY,R,rfl,hk⟩,fN⟩:=Lg hT hI hi he hj hx h λrows h=>h.1;obtain⟨v',w',hr,hp⟩:=Lh (P:=P) (L:=d) (ty:=ty) (rows:=[]) hd hT hI hi he hj eu hz (.inl ⟨rfl,rfl⟩) fN hlen (by simpa using kY) (by simpa using hk);exact cX.value hr hp
     .rename_i id;split at h
      .rename_i E K rows hc;obtain⟨HE,h'⟩:=cond_prop h;clear h;simp only[bR]at HE
       have hid:id<1000:=by simpa using HE.2
       obtain rfl:=cT HE.1.1;obtain rfl:=cT HE.1.2;obtain⟨bQ,⟨hlen,kY,R,rfl,hk⟩,fN⟩:=Lg hT hI hi he hj hx h' λrows h=>h.1;obtain⟨a,n,c,an,rfl⟩:=hs.ko;obtain⟨v',w',hr,hp⟩:=Lh (P:=P) (L:=id) (ty:=ty) hid hT hI hi he hj eu hz (.inr ⟨fk hc,an⟩) fN hlen kY hk;exact cX.value hr hp
      .cases h
     .cases h
   .cases h
  .cases h
 .cases h
def Hf{d e K:Nat}{a:Option Addr}(hd:d<1000)(hI:Inv w F β st.H)(hk:k (.o d) (ij st d (.own e K []))):EPost w F β st k (.slice a 0 0) w:=by
 refine⟨_,_,F,λq=>if q=d then .slice a 0 0 else β q,hk,.o (by simp),qg (v:=.slice a 0 0) hd hI rfl ⟨rfl,λ_=>(by first|exact bm _|exact ku _)⟩ rfl (bm _) (λ_ _ _=>rfl) (λ_ _ _ _ _ _=>rfl) (λb hb=>?_) (.inl ⟨rfl,a,by simp⟩)⟩;cases a<;>simp[bP]at hb
def abG{t d:Nat}{x:AV}{vx:Value}{lo hi mx:Option AV}{vlo vhi vmx:Option Value}(hd:d<1000)(hT:bL P T)(hI:Inv w F β st.H)(hx:Rd w F β x vx)(lh:xh lo vlo w F β)(lR:xh hi vhi w F β)(gA:xh mx vmx w F β)
  (h:Hd T t x lo hi mx d st k):cX P (do pure (.value (<-l5 t vx vlo vhi vmx))) w F β st k:=by
 unfold Hd at h;split at h
 .rename_i i br;split at h
  .rename_i e k1 k2 he;have hu:=(hT _ _ br).slice he;cases vlo with
   |some v=>exact lh.elim
   |none =>
    cases vhi with
    |none=>exact lR.elim
    |some v1 =>
     cases vmx with
     |none=>exact gA.elim
     |some v2 =>
      cases (show Rd w F β _ v1 from lR).bK;cases (show Rd w F β _ v2 from gA).bK;split at h
      .rename_i j hj;have bd:=(hT _ _ hj).lv w
       have bf:∀a n c,(l5 t (.slice a n c) none (V (.int k1 0)) (V (.int k2 0))).run P w=.ok (.slice a 0 0) w:=λa n c=>by
        simp[l5,Instr.slice,Instr.sliceBounds,Instr.sliceBound,asIntOf,run_underlying hu,bd]
       split at h
       .rcases hx.oX.sV with⟨_,a,rfl⟩|⟨b,off,c,K',v,_,_,_,rfl,_⟩
        iterate 2 exact cX.value (bf _ _ _) (Hf hd hI h)
       .obtain⟨a,n,c,_,rfl⟩:=hx.ko;exact cX.value (bf _ _ _) (Hf hd hI h)
       .cases hx.bK;exact cX.value (bf _ _ _) (Hf hd hI h)
       .cases h
      .cases h
  .cases h
 .cases h
def abu{t n d:Nat}{parts:List (Nat×AV)}{vs:Array (Nat×Value)}(hd:d<1000)(hT:bL P T)(hI:Inv w F β st.H)(hl:parts.length=vs.size)
  (hv:∀i,i<parts.length->(parts.getD i (0,.Δ)).1=(vs.toList.getD i (0,undef)).1/\Rd w F β (parts.getD i (0,.Δ)).2 (vs.toList.getD i (0,undef)).2)
  (h:S' T t n parts d st k):cX P (do pure (.value (<-Instr.buildSlice t n vs))) w F β st k:=by
 obtain⟨rows,e,size,us,hk,_,hs,nT,lV,fG,bd,bf,hlen⟩:=PA hT hl hv h;obtain⟨hi,hk⟩:=cond_prop hk;have iv:=Vw hi fG;refine cX.value bf ?_
 have hg:∀i,i<rows.length->(rows.map (λr=>r.map nz)).getD i []=(rows.getD i []).map nz:=λi hi=>by simp[bc,hi]
 have az:∀i j,i<rows.length->j<size->((rows.map (λr=>r.map nz)).getD i []).getD j .Δ=nz ((rows.getD i []).getD j .Δ):=λi j hi hj=>by
  rw[hg i hi]
  have jF:j<(rows.getD i []).length:=by rw[lV i hi];exact hj
  simp only[gk,o_]at jF ⊢;rw[bD jF];rfl
 have:=Ev (d:=d) (E:=e) (K:=size) (cap:=n) (rows:=rows.map λr=>r.map nz) (us:=us) (w1:=w) (k:=k) hd hI rfl rfl ⟨rfl,λ_=>(by first|exact bm _|exact ku _)⟩ rfl bd (by rw[au];omega) (by unfold maxLen;omega)
  (λi hi=>by rw[au]at hi;rw[hg i hi,au];exact lV i hi) (λi j hi hj=>?_) hk
 .rwa [au,nT]at this
 .rw[au]at hi;rw[az i j hi hj]
  have Ξ:i*size+j<rows.flatten.length:=by
   rw[Hi rows lV]
   calc i*size+j<i*size+size:=by omega
    _=(i+1)*size:=by rw[bM];omega
    _<=rows.length*size:=cC _ hi
  have:=iv _ Ξ;rw[L9 rows i j lV hi hj]at this;exact⟨this.1,Bk this.2⟩
def abD{t d:Nat}{l c:AV}{vl vc:Value}(hd:d<1000)(hT:bL P T)(hI:Inv w F β st.H)(hl:Rd w F β l vl)(hc:Rd w F β c vc)(h:LU T t l c d st k):
  cX P (do pure (.value (<-uH t vl vc))) w F β st k:=by
 unfold LU at h;split at h
 .rename_i i kl nl kc nc hi;cases hl.bK;cases hc.bK;split at h
  .rename_i e he;have hu:=(hT _ _ hi).slice he;split at h
   .rename_i j hj;obtain⟨hb,n,m,rfl,rfl,dM,hm,kY,R,rfl,hk⟩:=cond_prop h;simp only[bR]at hb;obtain⟨bU,hlen,iv⟩:=hb;have hlen:(bx (bZ j.zero)).length=j.cells:=cT hlen;have hz:=py (oa w F j.zero β) bU
    have iZ:j.zero.cells.size=j.cells:=by rw[hz.1,hlen]
    obtain⟨inf,pI,hzero,eO,nL⟩:=(hT _ _ hj).info;have qs:IntKind.i64.wrap (n:Int)=(n:Int):=wZ _ (by omega);have yy:IntKind.i64.wrap (m:Int)=(m:Int):=wZ _ (by omega)
    have hbm:(inf.bytes:Int)*(m:Int)<=140737488355328:=by
     have h5:((m*j.bytes:Nat):Int)=(j.bytes:Int)*(m:Int):=by rw[RD,Int.mul_comm]
     rw[nL,<-h5];omega
    have bf:(uH t (.int kl (n:Int)) (.int kc (m:Int))).run P w=.ok (.slice (V ⟨w.heap.size,0,none⟩) n m) (w.alloc (.cells ((nw (m*j.cells)).map (j.zero.cells[· % j.zero.cells.size]!)) e)):=by
     have h1:¬((m:Int)<0):=by omega
     have h2:¬(281474976710656<(inf.bytes:Int)*(m:Int)):=by omega
     have h3:¬((n:Int)<0):=by omega
     have h4:¬((m:Int)<(n:Int)):=by omega
     by_cases h0:m*j.cells=0
     .have db:nw (m*j.cells)=#[]:=by rw[h0];exact s4 (by simp)
      simp[uH,run_underlying hu,asInt,asIntOf,typeInfo,pI,qs,yy,h1,h2,h3,h4,sizeOf,eO,h0,newRow];rw[h0]at db;simp[db]
     .simp[uH,run_underlying hu,asInt,asIntOf,typeInfo,pI,qs,yy,h1,h2,h3,h4,sizeOf,eO,h0,newRow,zeroValue,hzero]
    refine cX.value bf ?_;have:=Ev (d:=d) (E:=e) (K:=j.cells) (cap:=m) (rows:=ia n ((bx (bZ j.zero)).map nz)) (us:=(nw (m*j.cells)).map (j.zero.cells[· % j.zero.cells.size]!)) (w1:=w) (k:=k)
     hd hI rfl rfl ⟨rfl,λ_=>(by first|exact bm _|exact ku _)⟩ rfl (by simp) (by simpa using dM) (by unfold maxLen;omega) (λq hq=>?_) (λq z hq g_=>?_) hk
    .simpa using this
    .simp at hq;simp[bc,hq,hlen]
    .simp at hq
     have Ξ:q*j.cells+z<m*j.cells:=by
      calc q*j.cells+z<q*j.cells+j.cells:=by omega
       _=(q+1)*j.cells:=by rw[bM];omega
       _<=m*j.cells:=cC _ (by omega)
     rw[V3 Ξ,iZ]
     have e1:(q*j.cells+z) % j.cells=z:=by rw[ow,CD];exact CC g_
     rw[e1];have h2:=hz.2 z (by omega)
     have e2:j.zero.cells[z]! = j.zero.cells.getD z undef:=by
      have:z<j.zero.cells.size:=by omega
      simp[this]
     have e3:((ia n ((bx (bZ j.zero)).map nz)).getD q []).getD z .Δ=nz ((bx (bZ j.zero)).getD z .Δ):=by
      have yA:z<(bx (bZ j.zero)).length:=by omega
      simp[bc,hq,yA]
     rw[e2,e3];refine⟨h2.1,Bk (nY (eo.1 iv _ ?_) h2.2)⟩;rw[gk,bD (show z<(bx (bZ j.zero)).length by omega)];exact eA _
   .cases h
  .cases h
 .cases h
def akd{z:Value}{n k:Nat}{w:World}{F:Nat->Prop}{β:Nat->Value}(hz:z.cells.size=k)(bU:jH (bZ z)=true)(hlen:(bx (bZ z)).length=k)(iv:(bx (bZ z)).all fx=true):
  GM w F k (ia n ((bx (bZ z)).map nz)) (dJ z.cells n).toList:=by
 have hc:=py (oa w F z β) bU;refine⟨by simp[dJ,hz],λu hu=>?_,λi j hi hj=>?_⟩
 .simp only[dJ,ZM,cL]at hu;obtain⟨q,hq,rfl⟩:=hu
  have pO:0<z.cells.size:=by
   have:q∈nw (n*z.cells.size):=by simpa using hq
   rcases pf z.cells.size with h|h
   .rw[h]at this;simp at this
   .exact h
  have Ξ:=rP q pO;have h2:=(hc.2 (q % z.cells.size) (by omega)).1;simpa [Ξ]using h2
 .have hi:i<n:=by simpa using hi
  have Ξ:i*k+j<n*k:=by
   calc i*k+j<i*k+k:=by omega
    _=(i+1)*k:=by rw[bM];omega
    _<=n*k:=cC _ (by omega)
  have e0:(dJ z.cells n).toList.getD (i*k+j) undef=z.cells[(i*k+j) % z.cells.size]!:=by
   simp[dJ,hz,bc,Ξ]
  have e1:(i*k+j) % k=j:=by rw[ow,CD];exact CC hj
  rw[e0,hz,e1];have h2:=(hc.2 j (by omega)).2
  have e2:((ia n ((bx (bZ z)).map nz)).getD i []).getD j .Δ=nz ((bx (bZ z)).getD j .Δ):=by
   simp[bc,hi,hlen,hj]
  rw[e2]
  have e3:z.cells[j]! = z.cells.getD j undef:=by
   have:j<z.cells.size:=by omega
   simp[this]
  rw[e3];refine Bk (nY ?_ h2);have:=eo.1 iv ((bx (bZ z)).getD j .Δ) (by simp[bc,hlen,hj]);exact this
def abq{t t' id:Nat}{x:AV}{vs vx:Value}(hT:bL P T)(hI:Inv w F β st.H)(hs:Rd w F β (.o id) vs)(hx:Rd w F β x vx)(h:LO T t t' id x st k)(ty:TypeId):
  cX P (do pure (.value (<-iD #[t,t'] ty #[vs,vx]))) w F β st k:=by
 unfold LO at h;split at h
 .rename_i i i' kx nx hi br;cases hx.bK;split at h
  .rename_i e kn he eN;have hu:=(hT _ _ hi).slice he;have jq:=(hT _ _ br).int eN;split at h
   .rename_i j E K rows hj hc;cases hb:(aM j.bytes 0||(aM j.cells 0||!(jH (bZ j.zero)&&(aM (bx (bZ j.zero)).length j.cells&&(bx (bZ j.zero)).all fx))))with
    |true=>rw[hb]at h;cases h
    |false =>
     rw[hb]at h;simp only[Rq,Ro,bR]at hb;obtain⟨eu,oK,bU,hlen,iv⟩:=hb;have hlen:(bx (bZ j.zero)).length=j.cells:=cT hlen
     have eu:j.bytes≠0:=λe=>by rw[e]at eu;cases eu
     obtain⟨hg,n,rfl,kY,R,rfl,hk⟩:=cond_prop h;simp only[bR]at hg;obtain⟨⟨hE,hK⟩,Ξ⟩:=hg;obtain rfl:=cT hE;obtain rfl:=cT hK
     have hid:id<1000:=by simpa [gW]using Ξ
     have hz:=py (oa w F j.zero β) bU
     have iZ:j.zero.cells.size=j.cells:=by rw[hz.1,hlen]
     have Vd:=akd (n:=n) (w:=w) (F:=F) (β:=β) iZ bU hlen iv;obtain⟨a,m,c,an,rfl⟩:=hs.ko;have sC:n*j.bytes<=140737488355328:=dZ (cC _ (Nat.le_add_left _ _)) kY;have hn:n<=140737488355328:=dZ (R5 _ (R8 eu)) sC;obtain⟨v',w',hr,hp⟩:=Sq (P:=P) (L:=id) (tx:=t') (vx:=.int kx (n:Int)) (ty:=ty) (rows:=rows) (bQ:=ia n ((bx (bZ j.zero)).map nz)) hid hT hI hi he hj eu iZ (.inr ⟨fk hc,an⟩)
      ⟨_,λinf z h1 h2 h3 h4=>by
       obtain⟨akP,pI,hzero,eO,nL⟩:=(hT _ _ hj).info;rw[pI]at h1;cases h1;rw[hzero]at h2;cases h2;have:=xf.ake (P:=P) (w:=w) (t:=t) (tx:=t') (ty:=ty) (kx:=kx) (n:=n) hu jq pI hzero (by rw[iZ,eO]) Vd.one hn (by rw[nL];exact sC)
       simpa using this,Vd⟩ (λr hr=>by
       rw[(List.mem_replicate.1 hr).2,au,hlen]) (by simpa using kY) hk
     exact cX.value hr hp
   .cases h
  .cases h
 .cases h
def abB{t t':Nat}{x y:AV}{vx vy:Value}(hT:bL P T)(hI:Inv w F β st.H)(hx:Rd w F β x vx)(hy:Rd w F β y vy)(h:Hb T t x y st k)(ty:TypeId):
  cX P (do pure (.value (<-qE #[t,t'] ty #[vx,vy]))) w F β st k:=by
 unfold Hb at h;split at h
 .rename_i i hi;split at h
  .rename_i e he;have hu:=(hT _ _ hi).slice he;split at h
   .rename_i j hj;split at h
    .rename_i id Kw d news;split at h
     .rename_i E K rows hc;obtain⟨hb,AW,R,rfl,hk⟩:=cond_prop h;simp only[bR]at hb;have hK:K=j.cells:=cT hb.1;have Dv:Kw=K:=cT hb.2;subst Dv;have hm:=fk hc;have bd:=(hT _ _ hj).lv w;obtain⟨a,a',n,c,an,hd,ha,rfl⟩:=hx.wQ
      have hn:n=rows.length:=by
       rcases sM (hI.holds _ _ hm)with⟨rfl,a2,hv⟩|⟨g,cap,hv,_,jk⟩
       iterate 2 (rw[an]at hv;cases hv;rfl)
      subst hn;obtain⟨m,AS⟩:∃m,m=Nat.min news.length (rows.length-d):=⟨_,rfl⟩;rw[<-AS]at hk
      have jR:m<=news.length:=by rw[AS];exact Nat.min_le_left _ _
      have yl:m<=rows.length-d:=by rw[AS];exact Nat.min_le_right _ _
      have hRe:rows.take d++news.take (rows.length-d)++rows.drop (d+news.length)=rows.take d++news.take m++rows.drop (d+m):=by
       rcases Nat.le_total news.length (rows.length-d)with h1|h1
       .have:m=news.length:=by rw[AS];exact Nat.min_eq_left h1
        rw[this,R3 h1,R3 (bm _)]
       .have:m=rows.length-d:=by rw[AS];exact Nat.min_eq_right h1
        rw[this,kN (by omega),kN (by omega)]
      rw[hRe]at hk;obtain⟨b0,akX,c0,hvy,us,fG,NJ,Vl⟩:∃(aa:Option Addr) (ln cp:Nat),vy=.slice aa ln cp/\∃us:List Value,(us.length=m*j.cells/\ln=news.length)/\((wX j.cells m vy).run P w=.ok us.toArray w) /\
        (∀q z,q<m->z<j.cells->(us.getD (q*j.cells+z) undef).oneCell'=true/\bq w F ((news.getD q []).getD z .Δ) (us.getD (q*j.cells+z) undef)):=by
       rcases hy.oX.sV with⟨rfl,a,rfl⟩|⟨b,off,cc,K',v,aN,fZ,j8,rfl,xP,hv⟩
       .have lS:m=0:=by simpa using jR
        subst lS;exact⟨a,0,0,rfl,[],⟨by simp,rfl⟩,by cases a<;>simp[wX,loadCells,loadCellsFrom],λq z hq=>by omega⟩
       .have AB:∀q,q<news.length->K'=j.cells:=λq hq=>by
         rw[<-xP q hq];exact AW _ (by rw[gk,bD hq];exact eA _)
        have Ξ:∀q,q<m*j.cells->q/j.cells<m/\q % j.cells<j.cells/\q/j.cells*j.cells+q % j.cells=q:=λq hq=>by
         have ye:0<j.cells:=(pf j.cells).elim (λh=>by rw[h]at hq;simp at hq) λh=>h;exact⟨(zS ye).2 hq,rP _ ye,by rw[ow];exact R4 q j.cells⟩
        refine⟨_,_,_,rfl,(gM (m*j.cells)).map λq=>v (q/j.cells) (q % j.cells),⟨by simp,rfl⟩,?_,λq z hq hz=>?_⟩
        .refine run_firstCells_some (P:=P) w j.cells m ⟨b,off,none⟩ news.length cc _ (by simp) λq u hq=>?_;simp only[o_,CE]at hq;obtain⟨q',DS,rfl⟩:=hq
         have m_:q<m*j.cells/\q'=q:=by
          obtain⟨h1,h2⟩:=eZ.1 DS;exact⟨by simpa using h1,by simpa using h2.symm⟩
         obtain⟨m_,rfl⟩:=m_;obtain⟨h1,h2,h3⟩:=Ξ _ m_;have h4:=AB _ (show q'/j.cells<news.length by omega);have:=(hv (q'/j.cells) (q' % j.cells) (by omega) (by rw[h4];exact h2)).1;rw[h4,h3]at this;rw[gr];exact this
        .have pP:q*j.cells+z<m*j.cells:=by
          calc q*j.cells+z<q*j.cells+j.cells:=by omega
           _=(q+1)*j.cells:=by rw[bM];omega
           _<=m*j.cells:=cC _ hq
         have ye:0<j.cells:=by omega
         have e1:(q*j.cells+z)/j.cells=q:=by rw[ow,alg ye,alf hz];rfl
         have e2:(q*j.cells+z) % j.cells=z:=by rw[ow,CD];exact CC hz
         have e3:((gM (m*j.cells)).map λq=>v (q/j.cells) (q % j.cells)).getD (q*j.cells+z) undef=v q z:=by
          simp[bc,pP,e1,e2]
         rw[e3];exact(hv q z (by omega) (by rw[AB q (by omega)];exact hz)).2
      obtain⟨fp,DK⟩:=fG
      have lh:(Builtin.lenOf vy).run P w=.ok news.length w:=by rw[hvy,<-DK];rfl
      have dM:Nat.min news.length (rows.length-d)=m:=AS.symm;by_cases h0:m=0
      .have bf:(qE #[t,t'] ty #[.slice a' (rows.length-d) (c-d),vy]).run P w=.ok (.int .i64 (m:Int)) w:=by
        have NH:us=[]:=qI (by rw[fp,h0];simp);rw[NH]at NJ
        have hw:IntKind.i64.wrap (m:Int)=(m:Int):=by rw[h0];rfl
        cases a'<;>simp[qE,run_underlying hu,lh,dM,bd,NJ,storeCells,goInt]
       refine cX.value bf ⟨_,_,F,β,hk,.i (.v (.inl rfl)),?_⟩
       have e:rows.take d++news.take m++rows.drop (d+m)=rows:=by rw[h0];simp
       rw[e];exact vr hI hm rfl ⟨rfl,λ_=>bm _⟩ rfl rfl (λ_ _=>rfl) (hI.holds _ _ hm)
      .rcases hI.holds _ _ hm with⟨rfl,_⟩|⟨g,cap,cur,hv,jk,hg,hn,gA,hs,AD,hr⟩
       .simp at yl;omega
       .rw[an]at hv;cases hv
        have pE:a'=V ⟨g,d*Kw,none⟩:=by rw[ha (by omega)];simp[gr]
        subst pE
        have qT:aM c 0=false:=by cases c<;>first|rfl|omega
        have ho:bH β st.H g:=⟨id,_,hm,by rw[an];simp[bP,qT]⟩;have hcK:rows.length*Kw<=c*Kw:=cC _ hn
        have hdm:d*Kw+m*Kw<=rows.length*Kw:=by rw[<-bM];exact cC _ (by omega)
        have fp:us.length=m*Kw:=by rw[fp,hK]
        have fo:∀x,x∈us->x.oneCell'=true:=λx hx=>by
         obtain⟨q,hq,rfl⟩:=List.getElem_of_mem hx;have ye:0<Kw:=(pf Kw).elim (λh=>by rw[h]at fp;simp at fp;rw[fp]at hq;simp at hq) λh=>h;rw[fp]at hq;have h1:q/Kw<m:=(zS ye).2 hq;have h2:q % Kw<Kw:=rP _ ye
         have h3:q/Kw*Kw+q % Kw=q:=by rw[ow];exact R4 q Kw
         have:=(Vl (q/Kw) (q % Kw) h1 (by rw[<-hK];exact h2)).1;rw[<-hK,h3]at this
         have e:us.getD q undef=us[q]:=by simp[bc,fp,hq]
         rwa [e]at this
        have cO:=run_storeCells_at P g (d*Kw) E us 0 cur w hg (by rw[fp];omega) fo;simp only[l8]at cO
        have bf:(qE #[t,t'] ty #[.slice (V ⟨g,d*Kw,none⟩) (rows.length-d) (c-d),vy]).run P w=.ok (.int .i64 (m:Int)) (w.setRow g (cur.toList.take (d*Kw)++us++cur.toList.drop (d*Kw+us.length)).toArray):=by
         simp[qE,run_underlying hu,lh,dM,bd,NJ,cO,goInt]
        refine cX.value bf ⟨_,_,F,β,hk,.i (.v (.inl rfl)),?_⟩;have iw:∀b cs,b≠g->(w.setRow g cs).heap[b]?=w.heap[b]?:=λb cs hb=>setRow_other w g b cs hb;have ha:∀cs,gn F w (w.setRow g cs):=λcs b hb=>iw b cs λe=>hI.apart g ho (e▸hb);refine vr hI hm rfl ⟨rfl,λ_=>bm _⟩ rfl (by simp) (λb' aN=>iw b' _ (λe=>aN (by rw[an,e];simp[bP,qT]))) (.inr ?_)
        have yj:(rows.take d++news.take m++rows.drop (d+m)).length=rows.length:=by simp;omega
        have hR:∀q,q<rows.length->(rows.take d++news.take m++rows.drop (d+m)).getD q []=if q<d then rows.getD q []else if q<d+m then news.getD (q-d) []else rows.getD q []:=λq hq=>by
         simp only[bc,gV,cZ,dq,fS,iN];by_cases h1:q<d
         .have h2:q<min d rows.length:=by omega
          have h3:q<min d rows.length+min m news.length:=by omega
          simp[h1,h2,h3]
         .have h2:¬q<min d rows.length:=by omega
          by_cases h4:q<d+m
          .have h3:q<min d rows.length+min m news.length:=by omega
           have h5:q-min d rows.length<m:=by omega
           have h6:q-min d rows.length=q-d:=by omega
           simp[h1,h2,h3,h4,h5,h6];simp[show q-d<m by omega]
          .have h3:¬q<min d rows.length+min m news.length:=by omega
           have h6:d+m+(q-(min d rows.length+min m news.length))=q:=by omega
           simp[h1,h3,h4,h6]
        refine⟨g,c,_,by rw[an,yj],jk,setRow_heap w g cur _ E _ hg,by rw[yj];exact hn,gA,?_,λq hq=>?_,λq z hq g_=>?_⟩
        .simp only[lF,cZ,dq,nB,lZ,fp];omega
        .rw[yj]at hq;rw[hR q hq];split
         .exact AD q hq
         .split
          .rw[hK];exact AW _ (by rw[gk,bD (show q-d<news.length by omega)];exact eA _)
          .exact AD q hq
        .rw[yj]at hq
         have hqz:q*Kw+z<rows.length*Kw:=by
          calc q*Kw+z<q*Kw+Kw:=by omega
           _=(q+1)*Kw:=by rw[bM];omega
           _<=rows.length*Kw:=cC _ hq
         have fD:q*Kw+z<cur.size:=by omega
         have eT:(cur.toList.take (d*Kw)++us++cur.toList.drop (d*Kw+us.length)).toArray.getD (q*Kw+z) undef=if q<d then cur.getD (q*Kw+z) undef else if q<d+m then us.getD ((q-d)*Kw+z) undef else cur.getD (q*Kw+z) undef:=by
          rw[lA,List.getElem?_toArray];simp only[gV,cZ,dq,lZ,fS,iN,fp];by_cases h1:q<d
          .have Ξ:q*Kw+z<d*Kw:=by
            calc q*Kw+z<q*Kw+Kw:=by omega
             _=(q+1)*Kw:=by rw[bM];omega
             _<=d*Kw:=cC _ h1
           have h2:q*Kw+z<min (d*Kw) cur.size:=by omega
           have h3:q*Kw+z<min (d*Kw) cur.size+m*Kw:=by omega
           simp[h1,h2,h3,Ξ]
          .have eW:d*Kw<=q*Kw:=cC _ (by omega)
           have h2:¬q*Kw+z<min (d*Kw) cur.size:=by omega
           have akE:(q-d)*Kw=q*Kw-d*Kw:=Nat.sub_mul _ _ _;by_cases h4:q<d+m
           .have Ξ:q*Kw+z<(d+m)*Kw:=by
             calc q*Kw+z<q*Kw+Kw:=by omega
              _=(q+1)*Kw:=by rw[bM];omega
              _<=(d+m)*Kw:=cC _ h4
            rw[bM]at Ξ
            have h3:q*Kw+z<min (d*Kw) cur.size+m*Kw:=by omega
            have h5:q*Kw+z-min (d*Kw) cur.size=(q-d)*Kw+z:=by omega
            simp[h1,h2,h3,h4,h5,bc]
           .have ac3:(d+m)*Kw<=q*Kw:=cC _ (by omega);rw[bM]at ac3
            have h3:¬q*Kw+z<min (d*Kw) cur.size+m*Kw:=by omega
            have h5:d*Kw+m*Kw+(q*Kw+z-(min (d*Kw) cur.size+m*Kw))=q*Kw+z:=by omega
            simp[h1,h3,h4,h5,fD]
         rw[eT,hR q hq];have old:=hr q z hq g_;by_cases h1:q<d
         .rw[if_pos h1,if_pos h1];exact⟨old.1,old.2.frame (ha _) λ_ h=>h⟩
         .rw[if_neg h1,if_neg h1];by_cases h2:q<d+m
          .rw[if_pos h2,if_pos h2];have:=Vl (q-d) z (by omega) (by rw[<-hK];exact g_);rw[<-hK]at this;exact⟨this.1,this.2.frame (ha _) λ_ h=>h⟩
          .rw[if_neg h2,if_neg h2];exact⟨old.1,old.2.frame (ha _) λ_ h=>h⟩
     .cases h
    .cases h
   .cases h
  .cases h
 .cases h
def abA{args:Array Operand}{argTypes:Array TypeId}{a:Act}{type:TypeId}{f:Nat->AV}(hT:bL P T)(hI:Inv w F β st.H)(bI:∀x,x∈args->Rd w F β (ev f x) (a.eval x))
  (h:match argTypes.toList,args.toList.map (ev f)with
   |[t,_],[x,y]=>Hb T t x y st k
   |_,_=>False) :
  cX P (do let d <-resolve a.eval { callee:=.builtin .copy,args:=args,argTypes:=argTypes } type;invoke d.target d.args) w F β st k:=by
 split at h
 .rename_i t t' x y ht hx;obtain⟨l,rfl⟩:∃l:List Operand,args=l.toArray:=⟨args.toList,by simp⟩;obtain⟨lt,rfl⟩:∃l:List TypeId,argTypes=l.toArray:=⟨argTypes.toList,by simp⟩;simp only at ht hx;subst ht
  match l,hx with
  |[o1,o2],hx =>
   simp only[fT,List.map_nil,Gs,and_true]at hx;obtain⟨rfl,rfl⟩:=hx;have:=abB (t':=t') hT hI (bI o1 (by simp)) (bI o2 (by simp)) h type;unfold cX at this ⊢;simpa [resolve,invoke,builtin]using this
 .cases h
def abp{t t' d:Nat}{s x:AV}{vs vx:Value}(hd:d<1000)(hT:bL P T)(hI:Inv w F β st.H)(hs:Rd w F β s vs)(hx:Rd w F β x vx)(h:G_ T t t' s x d st k)(ty:TypeId):
  cX P (do pure (.value (<-iD #[t,t'] ty #[vs,vx]))) w F β st k:=by
 unfold G_ at h;split at h
 .exact abq hT hI hs hx h ty
 split at h
 .rename_i i i' kx nx hi br _;cases hs.bK;cases hx.bK;split at h
  .rename_i e ki he eN;have hu:=(hT _ _ hi).slice he;have jq:=(hT _ _ br).int eN;split at h
   .rename_i j hj;cases hb:(aM j.bytes 0||(aM j.cells 0||!(jH (bZ j.zero)&&(aM (bx (bZ j.zero)).length j.cells&&(bx (bZ j.zero)).all fx))))with
    |true=>rw[hb]at h;cases h
    |false =>
     rw[hb]at h;simp only[Rq,Ro,bR]at hb;obtain⟨eu,oK,bU,hlen,iv⟩:=hb;have hlen:(bx (bZ j.zero)).length=j.cells:=cT hlen
     have eu:j.bytes≠0:=λe=>by rw[e]at eu;cases eu
     have oK:j.cells≠0:=λe=>by rw[e]at oK;cases oK
     obtain⟨n,rfl,kY,R,rfl,hk⟩:=h;have hz:=py (oa w F j.zero β) bU
     have iZ:j.zero.cells.size=j.cells:=by rw[hz.1,hlen]
     obtain⟨inf,pI,hzero,eO,nL⟩:=(hT _ _ hj).info;have hn:n<=140737488355328:=dZ (R5 _ (R8 eu)) kY;have qs:IntKind.i64.wrap (n:Int)=(n:Int):=wZ _ (by omega)
     have acB:(n:Int)*(j.bytes:Int)<=140737488355328:=by
      have h5:((n*j.bytes:Nat):Int)=(n:Int)*(j.bytes:Int):=RD _ _;rw[<-h5];omega
     by_cases h0:n=0
     .subst h0
      have bf:(iD #[t,t'] ty #[.slice none 0 0,.int kx ((0:Nat):Int)]).run P w=.ok (.slice none 0 0) w:=by
       have D3:IntKind.i64.wrap 0=0:=rfl;simp[iD,run_underlying hu,run_underlying jq,sizeOf,typeInfo,pI,asInt,asIntOf,D3]
      exact cX.value bf (Hf hd hI (by simpa using hk))
     .have j8:n<=maxLen:=by unfold maxLen;omega
      have DF:=grownCap_ge w n 0 e;have DG:=grownCap_le_maxLen w n 0 e j8
      have h1:¬((n:Int)<0):=by omega
      have h2:¬(281474976710656<(n:Int)*(inf.bytes:Int)):=by rw[nL];omega
      have h3:¬(9223372036854775807<(n:Int)):=by omega
      have h4:¬(281474976710656<Rr n 0*inf.bytes):=by rw[nextslicecap_zero (by omega),nL];omega
      have h5:n*inf.size≠0:=by rw[eO];exact Nat.mul_ne_zero h0 oK
      have bf:(iD #[t,t'] ty #[.slice none 0 0,.int kx (n:Int)]).run P w=.ok (.slice (V ⟨w.heap.size,0,none⟩) n (grownCap w n 0 e)) (w.drew.alloc (.cells (dJ j.zero.cells n++dJ j.zero.cells (grownCap w n 0 e-n)) e)):=by
       simp[iD,run_underlying hu,run_underlying jq,sizeOf,typeInfo,pI,asInt,asIntOf,qs,h1,h2,h3,h4,h0,zeroValue,hzero,R9,run_firstCells_none,newRow,grownCap];intro h7;exact absurd h7 h5
      refine cX.value bf ?_;have:=Ev (d:=d) (E:=e) (K:=j.cells) (cap:=grownCap w n 0 e) (rows:=ia n ((bx (bZ j.zero)).map nz)) (us:=dJ j.zero.cells n++dJ j.zero.cells (grownCap w n 0 e-n)) (w1:=w.drew) (k:=k)
       hd hI rfl rfl ⟨rfl,λ_=>(by first|exact bm _|exact ku _)⟩ rfl (by simp only[s5,KD,iZ,<-bM];congr 1;omega) (by simpa using DF) DG (λq hq=>?_) (λq z hq g_=>?_) hk
      .simpa using this
      .simp at hq;simp[bc,hq,hlen]
      .simp at hq
       have Ξ:q*j.cells+z<n*j.cells:=by
        calc q*j.cells+z<q*j.cells+j.cells:=by omega
         _=(q+1)*j.cells:=by rw[bM];omega
         _<=n*j.cells:=cC _ (by omega)
       have e0:(dJ j.zero.cells n++dJ j.zero.cells (grownCap w n 0 e-n)).getD (q*j.cells+z) undef=j.zero.cells[(q*j.cells+z) % j.zero.cells.size]!:=by
        simp[pZ,dJ,iZ,Ξ]
       rw[e0,iZ]
       have e1:(q*j.cells+z) % j.cells=z:=by rw[ow,CD];exact CC g_
       rw[e1];have h2:=hz.2 z (by omega)
       have e2:j.zero.cells[z]! = j.zero.cells.getD z undef:=by
        have:z<j.zero.cells.size:=by omega
        simp[this]
       have e3:((ia n ((bx (bZ j.zero)).map nz)).getD q []).getD z .Δ=nz ((bx (bZ j.zero)).getD z .Δ):=by
        have yA:z<(bx (bZ j.zero)).length:=by omega
        simp[bc,hq,yA]
       rw[e2,e3];refine⟨h2.1,Bk (nY (eo.1 iv _ ?_) h2.2)⟩;rw[gk,bD (show z<(bx (bZ j.zero)).length by omega)];exact eA _
   .cases h
  .cases h
 .cases h
def abH{t:Nat}{x:AV}{vx:Value}{hi:Option AV}{vhi:Option Value}(hT:bL P T)(hI:Inv w F β st.H)(hx:Rd w F β x vx)(lR:xh hi vhi w F β)(h:LY T t x hi st k):
  cX P (do pure (.value (<-l5 t vx none vhi none))) w F β st k:=by
 unfold LY at h;split at h
 .rename_i i id kh nh br;split at h
  .rename_i e he;have hu:=(hT _ _ br).slice he;cases vhi with
   |none=>exact lR.elim
   |some v1 =>
    cases (show Rd w F β _ v1 from lR).bK;split at h
    .rename_i j hj;have bd:=(hT _ _ hj).lv w;split at h
     .rename_i E K rows hc;obtain⟨TW,m,rfl,hm,R,rfl,hk⟩:=cond_prop h
      have hid:id<1000:=by
       simp only[bR]at TW;simpa using TW.2
      have bn:=fk hc;obtain⟨a,n,c,an,rfl⟩:=hx.ko
      have bf:n=rows.length->rows.length<=c->(l5 t (.slice a n c) none (V (.int kh (m:Int))) none).run P w=.ok (.slice a m c) w:=λhn fZ=>by
       have hb:=zk (P:=P) (w:=w) (is:=true) (lo:=none) (hi:=V (.int kh (m:Int))) (len:=rows.length) (cap:=c) (l:=0) (h:=m) (.inl ⟨rfl,rfl⟩) (.inr ⟨_,rfl⟩) (Nat.zero_le _) hm fZ;subst hn
       have hs:(l5 t (.slice a rows.length c) none (V (.int kh (m:Int))) none).run P w=.ok (.slice (if c=0 then a else a.map (·.add (0*j.cells))) (m-0) (c-0)) w:=by
        simp[l5,Instr.slice,run_underlying hu,hb,bd]
       rw[hs]
       have:(if c=0 then a else a.map (·.add (0*j.cells)))=a:=by
        split
        .rfl
        .cases a<;>simp[Addr.add]
       rw[this];simp
      rcases hI.holds _ _ bn with⟨rfl,a',hv⟩|⟨g,cap,cur,hv,jk,hg,hn,gA,fD,hK,hr⟩
      .rw[an]at hv;cases hv
       have lS:m=0:=by simpa using hm
       subst lS;refine cX.value (bf rfl (bm _)) ⟨_,_,F,λq=>if q=id then .slice a 0 0 else β q,hk,.o (by simp),qg (v:=.slice a 0 0) hid hI rfl ⟨rfl,λ_=>(by first|exact bm _|exact ku _)⟩ rfl (bm _) (λ_ _ _=>rfl) (λ_ _ _ _ _ _=>rfl) (λb hb=>?_) (.inl ⟨by simp,a,by simp⟩)⟩;cases a<;>simp[bP]at hb
      .rw[an]at hv;cases hv;refine cX.value (bf rfl hn) ⟨_,_,F,λq=>if q=id then .slice (V ⟨g,0,none⟩) m c else β q,hk,.o (by simp),qg (v:=.slice (V ⟨g,0,none⟩) m c) hid hI rfl ⟨rfl,λ_=>(by first|exact bm _|exact ku _)⟩ rfl (bm _) (λ_ _ _=>rfl) (λ_ _ _ _ _ _=>rfl) (λb hb=>.inr ⟨_,bn,?_⟩) (.inr ?_)⟩
       .rw[an];simpa [bP]using hb
       .have hlen:(rows.take m).length=m:=by simp;omega
        have gB:∀q,q<m->(rows.take m).getD q []=rows.getD q []:=λq hq=>by simp[bc,hq]
        refine⟨g,c,cur,by simp[hlen],jk,hg,by omega,gA,fD,λq hq=>?_,λq z hq hz=>?_⟩
        .rw[hlen]at hq;rw[gB q hq];exact hK q (by omega)
        .rw[hlen]at hq;rw[gB q hq];exact hr q z (by omega) hz
     .cases h
    .cases h
  .cases h
 .cases h
def GQ{fs xs cs:List AV}{us vs ws:Array Value}(hs:us.size=fs.length)(hl:vs.size=xs.length)(akf:ws.size=cs.length)(hu:∀i,i<fs.length->Rd w F β (fs.getD i .Δ) (us.getD i undef))
  (hv:∀i,i<xs.length->Rd w F β (xs.getD i .Δ) (vs.getD i undef)) (hw:∀i,i<cs.length->Rd w F β (cs.getD i .Δ) (ws.getD i undef)) :
  ∀i,i<(fs++(xs++cs)).length->Rd w F β ((fs++(xs++cs)).getD i .Δ) ((us++vs++ws).getD i undef):=by
 intro i hi;simp only[cZ]at hi
 have e1:(fs++(xs++cs)).getD i .Δ=if i<fs.length then fs.getD i .Δ else if i<fs.length+xs.length then xs.getD (i-fs.length) .Δ else cs.getD (i-fs.length-xs.length) .Δ:=by
  simp only[bc,gV];by_cases h1:i<fs.length
  .simp[h1]
  .by_cases h2:i<fs.length+xs.length
   .simp[h1,h2,show i-fs.length<xs.length by omega]
   .simp[h1,h2,show ¬i-fs.length<xs.length by omega]
 have e2:(us++vs++ws).getD i undef=if i<fs.length then us.getD i undef else if i<fs.length+xs.length then vs.getD (i-fs.length) undef else ws.getD (i-fs.length-xs.length) undef:=by
  simp only[lA,pZ,s5,hs,hl];by_cases h1:i<fs.length
  .simp[h1,show i<fs.length+xs.length by omega]
  .by_cases h2:i<fs.length+xs.length
   .simp[h1,h2]
   .simp[h1,h2,Nat.sub_sub]
 rw[e1,e2];by_cases h1:i<fs.length
 .rw[if_pos h1,if_pos h1];exact hu i h1
 .rw[if_neg h1,if_neg h1];by_cases h2:i<fs.length+xs.length
  .rw[if_pos h2,if_pos h2];exact hv _ (by omega)
  .rw[if_neg h2,if_neg h2];exact hw _ (by omega)
def abw{f:AV}{vf:Value}{xs:List AV}{vs:Array Value}(hI:Inv w F β st.H)(hf:Rd w F β f vf)(hl:vs.size=xs.length)
  (hv:∀i,i<xs.length->Rd w F β (xs.getD i .Δ) (vs.getD i undef)) (h:G' P f xs st k) :
  cX P (do let d <-mw vf vs;invoke d.target d.args) w F β st k:=by
 unfold G' at h;split at h
 .rename_i g fs cs;obtain⟨⟨fn,c,dR,dM,xR⟩,hp⟩:=h;obtain⟨us,ws,rfl,hs,dG,hu,hw⟩:=hf.nG
  have ri:¬ fn.name = "runtime.NumGoroutine":=by simpa using dM
  refine .inr (.inr (.inl ⟨g,us++vs++ws,by simp[mw,invoke,callFunc,dR,ri,xR],?_⟩));refine Calls.mono (hp w F β (us++vs++ws) hI ?_ (GQ hs hl dG hu hv hw)) ?_
  .simp[hs,hl,dG]
  .rintro e w' ⟨v,rfl,r,ax,F',ay,hk,hr,he⟩;exact⟨v,rfl,r,ax,F',ay,hk,hr,he⟩
 .rename_i l;obtain⟨us,ws,rfl,hs,dG,_,_⟩:=hf.nG;have e1:us=#[]:=s4 (by simpa using hs);have e2:ws=#[]:=s4 (by simpa using dG);subst e1;subst e2;obtain⟨fn,tmps,assign,body,hy,hR⟩:=h.2 w F β vs hI hl hv;exact .inr (.inr (.inr ⟨l,fn,tmps,assign,body,by simpa [mw,invoke]using hy,hR⟩))
 .cases h
def abv{f:Operand}{args:Array Operand}{argTypes:Array TypeId}{ρ:Operand->AV}{a:Act}{type:TypeId}(hI:Inv w F β st.H)(hf:Rd w F β (ρ f) (a.eval f))
  (mW:∀i,i<(args.toList.map ρ).length->Rd w F β ((args.toList.map ρ).getD i .Δ) ((args.map a.eval).getD i undef)) (h:G' P (ρ f) (args.toList.map ρ) st k) :
  cX P (do let d <-resolve a.eval { callee:=.value f,args:=args,argTypes:=argTypes } type;invoke d.target d.args) w F β st k:=by
 have e:(do let d <-resolve a.eval { callee:=.value f,args:=args,argTypes:=argTypes } type;invoke d.target d.args:Sem Next)=(do let d <-mw (a.eval f) (args.map a.eval);invoke d.target d.args):=rfl;rw[e];exact abw hI hf (by simp) mW h
def abr{args:Array Operand}{argTypes:Array TypeId}{a:Act}{type:TypeId}{d:Nat}{f:Nat->AV}(hd:d<1000)(hT:bL P T)(hI:Inv w F β st.H)(bI:∀x,x∈args->Rd w F β (ev f x) (a.eval x))
  (h:match argTypes.toList,args.toList.map (ev f)with
   |[t,t'],[s,x]=>bif aM t t' then Ak T t t' s x d st k else match x with
    |.v (.string _)=>Ak T t t' s x d st k
    |_=>G_ T t t' s x d st k
   |_,_=>False) :
  cX P (do let d <-resolve a.eval { callee:=.builtin .append,args:=args,argTypes:=argTypes } type;invoke d.target d.args) w F β st k:=by
 split at h
 .rename_i t t' s x ht hx;obtain⟨l,rfl⟩:∃l:List Operand,args=l.toArray:=⟨args.toList,by simp⟩;obtain⟨lt,rfl⟩:∃l:List TypeId,argTypes=l.toArray:=⟨argTypes.toList,by simp⟩;simp only at ht hx;subst ht
  match l,hx with
  |[o1,o2],hx =>
   simp only[fT,List.map_nil,Gs,and_true]at hx;obtain⟨rfl,rfl⟩:=hx;cases hb:aM t t' with
   |true =>
    rw[hb]at h;have:=S_ hd hT hI (bI o1 (by simp)) (bI o2 (by simp)) h type;unfold cX at this ⊢;simpa [resolve,invoke,builtin]using this
   |false =>
    rw[hb]at h;simp only[cond_false]at h;split at h
    .have:=S_ hd hT hI (bI o1 (by simp)) (bI o2 (by simp)) h type;unfold cX at this ⊢;simpa [resolve,invoke,builtin]using this
    .have:=abp hd hT hI (bI o1 (by simp)) (bI o2 (by simp)) h type;unfold cX at this ⊢;simpa [resolve,invoke,builtin]using this
 .cases h
def abz{s t id:Nat}{vx:Value}(hT:bL P T)(hI:Inv w F β st.H)(hx:Rd w F β (.o id) vx)(h:LR T s t id st k):
  cX P (do pure (.value (<-convert s t vx))) w F β st k:=by
 unfold LR at h;split at h
 .rename_i i hi;split at h
  .rename_i e he;split at h
   .rename_i j hj;split at h
    .rename_i h8;have cO:=(cond_prop h).1;replace h:=(cond_prop h).2;obtain rfl:=cT cO;split at h
     .rename_i E K rows hc;obtain⟨aI,hk⟩:=h;have hu:=(hT _ _ hi).slice he;have Vj:=(hT _ _ hj).int h8;have hm:=fk hc;obtain⟨a,n,c,an,rfl⟩:=hx.ko
      rcases hI.holds _ _ hm with⟨h0,_⟩|⟨g,cap,cur,hv,jk,hg,hn,gA,hs,hK,hr⟩
      .exact absurd h0 aI
      rw[an]at hv;cases hv
      have h0:aM c 0=false:=by cases c<;>first|rfl|omega
      have hblk:bP (β id)=V g:=by rw[an];simp[bP,h0]
      have dB:bH β st.H g:=⟨id,_,hm,hblk⟩;let w':=w.freeze ⟨g,cur.size,none⟩ 1
      have qm:(markStringish ⟨g,0,none⟩).run P w=.ok () w':=by
       have:w.shape? g=V (E,cur.size):=by simp[World.shape?,hg]
       simp[markStringish,this,w']
      have bf:(convert s s (.slice (V ⟨g,0,none⟩) rows.length c)).run P w=.ok (.slice (V ⟨g,0,none⟩) rows.length c) w':=by
       simp[convert,run_underlying hu,run_underlying Vj,qm]
      have AL:w'.heap[g]?=V (.cells cur E (cur.size,cur.size+1)):=Un hg;have iw:∀b,b≠g->w'.heap[b]?=w.heap[b]?:=λb hb=>Um (λe=>hb e.symm);have hF:∀b,F b->w'.heap[b]?=w.heap[b]?:=λb hb=>iw b λe=>hI.apart g dB (e▸hb)
      have bd:w'.heap.size=w.heap.size:=by simp[w',World.freeze]
      have aku:∀o,w'.cell? ⟨g,o,none⟩=w.cell? ⟨g,o,none⟩:=λo=>by
       rw[cell_of_row w' g o cur E _ AL,cell_of_row w g o cur E _ hg]
      let F2:Nat->Prop:=λb=>F b\/bP (β id)=V b
      have U7:bq w' F2 (.s rows) (.slice (V ⟨g,0,none⟩) rows.length c):=by
       refine .s (off:=0) (k:=K) (u:=λi j=>cur.getD (i*K+j) undef) (.inr hblk) hn gA hK (λi j hi hj=>?_) (λi j hi hj=>(hr i j hi hj).1) λi j hi hj=>(hr i j hi hj).2.frame hF λ_ h=>.inl h
       have:i*K+j<cur.size:=by
        rw[hs]
        calc i*K+j<i*K+K:=by omega
         _=(i+1)*K:=by rw[bM];omega
         _<=c*K:=cC _ (by omega)
       rw[j3,cell_of_row w' g _ cur E _ AL];simp[this]
      have hz:∀u,Rd w' F2 β (.o id) u->Rd w' F2 β (.s rows) u:=λu hu=>by
       obtain⟨a',n',c',h1,rfl⟩:=hu.ko;rw[an]at h1;cases h1;exact .i U7
      have up:∀{x u},Rd w F β x u->Rd w' F2 β x u:=λh=>h.frame hF λ_ h=>.inl h
      have nK:Inv w' F2 β (oG id rows st.H):=by
       refine⟨λb hb=>by rw[bd];exact hb.elim (hI.cH b) λhb=>hI.gg ⟨id,_,hm,hb⟩,λi c2 h=>?_,Da hI.keys,λb ⟨i,c2,h,hb⟩ Dr=>?_,λi c2 i' z_ b h h' hb aN=>?_,hI.fC.frame hF λ_ h=>.inl h⟩
       .obtain⟨ra,c3,h3,rfl⟩:=lN h;have hh:=hI.holds i c3 h3;have adn:∀b,bP (β i)=V b->w'.heap[b]?=w.heap[b]?:=λb hb=>iw b λe=>ra (hI.eD i c3 id _ b h3 hm hb (by rw[hblk,e]));have ql:=pM (F':=F2) hF (λ_ h=>.inl h) adn hh;cases c3 with
        |own E' K' r=>exact ql
        |mp ag r=>exact ql
        |si s pos=>exact ql
        |lp l e R L =>
         obtain⟨fn,tmps,D,hb,ya,sC,yr⟩:=ql;refine⟨fn,tmps,D,hb,ya,sC,λp hp=>?_⟩;obtain⟨q,hq,rfl⟩:=cL.1 hp;exact rC hz (λ_ _=>rfl) 2 (yr q hq)
        |box cells =>
         obtain⟨b,cs,e,hb,ya,Nz,h1b,yr⟩:=ql;refine⟨b,cs,e,hb,ya,by simpa using Nz,λj hj=>h1b j (by simpa using hj),λj hj=>?_⟩
         have hj:j<cells.length:=by simpa using hj
         have:(cells.map (sb (.s rows) 1 id)).getD j .Δ=sb (.s rows) 1 id (cells.getD j .Δ):=by simp[bc,hj]
         rw[this];exact rC hz (λ_ _=>rfl) 1 (yr j hj)
       .obtain⟨ra,c3,h3,_⟩:=lN h
        rcases Dr with Dr|Dr
        .exact hI.apart b ⟨i,c3,h3,hb⟩ Dr
        .exact ra (hI.eD i c3 id _ b h3 hm hb Dr)
       .obtain⟨_,c3,h3,_⟩:=lN h;obtain⟨_,c4,h4,_⟩:=lN h';exact hI.eD i c3 i' c4 b h3 h4 hb aN
      have yo:∀b,bH β (oG id rows st.H) b->bH β st.H b:=λb ⟨i,c2,h,hb⟩=>by
       obtain⟨_,c3,h3,_⟩:=lN h;exact⟨i,c3,h3,hb⟩
      refine cX.value bf ⟨_,_,F2,β,hk,.i U7,⟨rfl,⟨rfl,λ_=>(by first|exact bm _|exact ku _)⟩,rfl,Nat.le_of_eq bd.symm,λb _ bu=>iw b λe=>bu (e▸dB),λ_ h=>.inl h,λb hb=>?_,λb hb=>.inr (yo b hb),λt u hu=>rC hz (λ_ _=>rfl) 2 (up hu),nK,λ_ _=>rfl⟩⟩;exact hb.imp (λh=>h) λh=>.inr ⟨id,_,hm,h⟩
     .cases h
    .cases h
   .cases h
  .cases h
 .cases h
def aby{t:Nat}{x:AV}{vx:Value}(hT:bL P T)(hI:Inv w F β st.H)(hx:Rd w F β x vx)(h:Ha T t x st k)(ty:TypeId):
  cX P (do pure (.value (<-uD #[t] ty #[vx]))) w F β st k:=by
 unfold Ha at h;split at h
 .rename_i i hi;split at h
  .rename_i e he;have hu:=(hT _ _ hi).slice he;split at h
   .rename_i j hj;split at h
    .rename_i id Kw d;split at h
     .rename_i E K rows hc;obtain⟨hb,R,rfl,hk⟩:=cond_prop h;simp only[bR]at hb;obtain⟨⟨hK,Dv⟩,bU,hlen,iv⟩:=hb;have hK:K=j.cells:=cT hK;have Dv:Kw=K:=cT Dv;have hlen:(bx (bZ j.zero)).length=j.cells:=cT hlen;subst Dv;have hm:=fk hc;obtain⟨a,a',n,c,an,hd,ha,rfl⟩:=hx.wQ;have hz:=λw' F'=>py (oa w' F' j.zero β) bU
      have iZ:j.zero.cells.size=j.cells:=by rw[(hz w F).1,hlen]
      have hn:n=rows.length:=by
       rcases sM (hI.holds _ _ hm)with⟨rfl,a2,hv⟩|⟨g,cap,hv,_,jk⟩
       iterate 2 (rw[an]at hv;cases hv;rfl)
      subst hn;by_cases h0:rows.length-d=0
      .have bf:(uD #[t] ty #[.slice a' (rows.length-d) (c-d)]).run P w=.ok (.tuple #[]) w:=by
        rw[h0];cases a'<;>simp[uD,run_underlying hu]
       refine cX.value bf ⟨_,_,F,β,hk,.i (.t rfl λi hi=>by simp at hi),?_⟩;rw[h0,List.replicate_zero,qH,R3 (by omega)];exact vr hI hm rfl ⟨rfl,λ_=>bm _⟩ rfl rfl (λ_ _=>rfl) (hI.holds _ _ hm)
      .rcases hI.holds _ _ hm with⟨rfl,_⟩|⟨g,cap,cur,hv,jk,hg,hn,gA,hs,AD,hr⟩
       .simp at h0
       .rw[an]at hv;cases hv
        have pE:a'=V ⟨g,d*Kw,none⟩:=by rw[ha (by omega)];simp[gr]
        subst pE
        have qT:aM c 0=false:=by cases c<;>first|rfl|omega
        have ho:bH β st.H g:=⟨id,_,hm,by rw[an];simp[bP,qT]⟩
        have hdK:d*Kw+(rows.length-d)*Kw=rows.length*Kw:=by rw[<-bM];congr 1;omega
        have hcK:rows.length*Kw<=c*Kw:=cC _ hn;let zs:=dJ j.zero.cells (rows.length-d)
        have nf:zs.toList.length=(rows.length-d)*Kw:=by simp only[zs,lZ,KD,iZ,hK]
        have fo:∀x,x∈zs.toList->x.oneCell'=true:=λx hx=>by
         simp only[zs,dJ,ZM,cL]at hx;obtain⟨q,hq,rfl⟩:=hx
         have pO:0<j.zero.cells.size:=by
          have:q∈nw ((rows.length-d)*j.zero.cells.size):=by simpa using hq
          rcases pf j.zero.cells.size with h|h
          .rw[h]at this;simp at this
          .exact h
         have Ξ:=rP q pO;have h2:=((hz w F).2 (q % j.zero.cells.size) (by omega)).1;simpa [Ξ]using h2
        have cO:=run_storeCells_at P g (d*Kw) E zs.toList 0 cur w hg (by rw[nf];omega) fo;simp only[l8]at cO;have NT:=(hT _ _ hj).sS w
        have bf:(uD #[t] ty #[.slice (V ⟨g,d*Kw,none⟩) (rows.length-d) (c-d)]).run P w=.ok (.tuple #[]) (w.setRow g (cur.toList.take (d*Kw)++zs.toList++cur.toList.drop (d*Kw+zs.toList.length)).toArray):=by
         obtain⟨q,hq⟩:∃q,rows.length-d=q+1:=⟨rows.length-d-1,by omega⟩;have Ve:=cO;simp only[zs,hq]at Ve ⊢;simp[uD,run_underlying hu,NT,Ve]
        refine cX.value bf ⟨_,_,F,β,hk,.i (.t rfl λi hi=>by simp at hi),?_⟩;have iw:∀b cs,b≠g->(w.setRow g cs).heap[b]?=w.heap[b]?:=λb cs hb=>setRow_other w g b cs hb;refine vr hI hm rfl ⟨rfl,λ_=>bm _⟩ rfl (by simp) (λb' aN=>iw b' _ (λe=>aN (by rw[an,e];simp[bP,qT]))) (.inr ?_);have ha:∀cs,gn F w (w.setRow g cs):=λcs b hb=>iw b cs λe=>hI.apart g ho (e▸hb)
        have yj:(rows.take d++ia (rows.length-d) ((bx (bZ j.zero)).map nz)).length=rows.length:=by simp;omega
        have yu:(rows.take d).length=d:=by simp;omega
        have nX:(cur.toList.take (d*Kw)).length=(rows.take d).length*Kw:=by simp only[dq,lZ,yu];omega
        refine⟨g,c,_,by rw[an,yj],jk,setRow_heap w g cur _ E _ hg,by rw[yj];exact hn,gA,?_,Py (λq hq=>?_) (λr cr=>?_),λq z hq g_=>?_⟩
        .simp only[lF,cZ,dq,nB,lZ,nf];omega
        .have DS:q<d:=by omega
         have:(rows.take d).getD q []=rows.getD q []:=by simp[bc,DS]
         rw[this];exact AD q (by omega)
        .rw[List.eq_of_mem_replicate cr,au,hlen,hK]
        .have below:∀(m n z:Nat),m<n->z<Kw->m*Kw+z<n*Kw:=λm n z h hz=>by
          calc m*Kw+z<m*Kw+Kw:=by omega
           _=(m+1)*Kw:=by rw[bM];omega
           _<=n*Kw:=cC _ h
         have h1:∀q z,q<(rows.take d).length->z<Kw->((cur.toList.take (d*Kw)).getD (q*Kw+z) undef).oneCell'=true/\bq w F (((rows.take d).getD q []).getD z .Δ) ((cur.toList.take (d*Kw)).getD (q*Kw+z) undef):=λq z hq hz=>by
          rw[yu]at hq;have h3:=below q d z hq hz
          have h4:q*Kw+z<cur.size:=by omega
          have e1:(rows.take d).getD q []=rows.getD q []:=by simp[bc,hq]
          have e2:(cur.toList.take (d*Kw)).getD (q*Kw+z) undef=cur.getD (q*Kw+z) undef:=by simp[bc,h3,h4]
          rw[e1,e2];exact hr q z (by omega) hz
         have h2:∀q z,q<(ia (rows.length-d) ((bx (bZ j.zero)).map nz)).length->z<Kw->(zs.toList.getD (q*Kw+z) undef).oneCell'=true/\bq w F (((ia (rows.length-d) ((bx (bZ j.zero)).map nz)).getD q []).getD z .Δ) (zs.toList.getD (q*Kw+z) undef):=λq z hq Vv=>by
          simp only[Z']at hq;have h3:=below q (rows.length-d) z hq Vv
          have e3:zs.toList.getD (q*Kw+z) undef=j.zero.cells.getD z undef:=by
           have h5:(q*Kw+z) % j.zero.cells.size=z:=by rw[iZ,<-hK,ow,CD];exact CC Vv
           have h6:q*Kw+z<(rows.length-d)*j.zero.cells.size:=by rw[iZ,<-hK];exact h3
           have h7:z<j.zero.cells.size:=by omega
           simp[zs,dJ,bc,h6,h5,h7]
          have e4:((ia (rows.length-d) ((bx (bZ j.zero)).map nz)).getD q []).getD z .Δ=nz ((bx (bZ j.zero)).getD z .Δ):=by
           have h5:z<(bx (bZ j.zero)).length:=by omega
           simp[bc,hq,h5]
          rw[e3,e4];have h4:=(hz w F).2 z (by omega);refine⟨h4.1,Bk (nY (eo.1 iv _ ?_) h4.2)⟩;rw[gk,bD (show z<(bx (bZ j.zero)).length by omega)];exact eA _
         have:=JQ (zs:=cur.toList.drop (d*Kw+zs.toList.length)) (Q:=λx u=>u.oneCell'=true/\bq w F x u) nX (by simp only[Z'];exact nf) h1 h2 q z hq g_;rw[uU _ (cur.toList.take (d*Kw)++zs.toList++cur.toList.drop (d*Kw+zs.toList.length)) rfl];exact⟨this.1,this.2.frame (ha _) λ_ h=>h⟩
     .cases h
    .cases h
   .cases h
  .cases h
 .cases h
def abx{args:Array Operand}{argTypes:Array TypeId}{a:Act}{type:TypeId}{f:Nat->AV}(hT:bL P T)(hI:Inv w F β st.H)(bI:∀x,x∈args->Rd w F β (ev f x) (a.eval x))
  (h:match argTypes.toList,args.toList.map (ev f)with
   |[t],[x]=>Ha T t x st k
   |_,_=>False) :
  cX P (do let d <-resolve a.eval { callee:=.builtin .clear,args:=args,argTypes:=argTypes } type;invoke d.target d.args) w F β st k:=by
 split at h
 .rename_i t x e1 e2
  have C3:argTypes=#[t]:=by rw[<-Array.toArray_toList (xs:=argTypes),e1]
  have hl:args.size=1:=by have:=congrArg List.length e2;simpa using this
  have ex:x=ev f args[0]:=by
   have:=congrArg (λl=>l[0]?) e2;simp[hl]at this;exact this.symm
  have ea:args.map a.eval=#[a.eval args[0]]:=by
   apply Array.ext
   .simp[hl]
   .intro i h1 h2
    have:i=0:=by simp at h2;omega
    subst this;simp
  have e:(do let d <-resolve a.eval { callee:=.builtin .clear,args:=args,argTypes:=argTypes } type;invoke d.target d.args:Sem Next)=builtin .clear argTypes type (args.map λ|.const _=>true|_=>false) (args.map a.eval):=rfl;rw[e,ea,C3];exact aby hT hI (by rw[ex];exact bI _ (by simp)) h type
 .cases h
def abF{t d:Nat}{x:AV}{vx:Value}(hd:d<1000)(hT:bL P T)(hI:Inv w F β st.H)(hx:Rd w F β x vx)(h:LX T t x d st k):cX P (do pure (.value (<-Instr.range t vx))) w F β st k:=by
 unfold LX at h;split at h
 .rename_i i s hi;cases hx.bK;split at h
  .rename_i hk;have hu:=(hT _ _ hi).str hk;have bf:=run_range_string w t s hu;have eY:(w.iter s 0).heap[w.heap.size]?=V (.stringIter s 0):=World.iter_heap w s 0;have hb:=uV w (.stringIter s 0);refine cX.value bf ⟨_,_,F,_,h,.b (by simp),qg (v:=.pointer (V ⟨w.heap.size,0,none⟩)) hd hI hb.os hb.tape hb.output hb.size (λb Ξ _=>hb.block b Ξ) (λi c b _ hm kX=>hb.block b (hI.gg ⟨i,c,hm,kX⟩)) (λb kX=>?_) ?_⟩
   .simp[bP]at kX;left;omega
   .exact⟨w.heap.size,by simp,eY⟩
  .cases h
 .cases h
def abE{x:AV}{vx:Value}{Il:Bool}{ty:TypeId}(hI:Inv w F β st.H)(hx:Rd w F β x vx)(h:LW x Il st k):cX P (do pure (.value (<-Gp vx Il ty))) w F β st k:=by
 unfold LW at h;split at h
 .rename_i id;split at h
  .rename_i s pos hc;have hm:=fk hc;obtain⟨b,an,hh⟩:=hI.holds _ _ hm;obtain⟨fV,hb,rfl⟩:=hx.mP;rw[an]at hb;cases hb
   have kX:bP (β id)=V b:=by rw[an];rfl
   have Ξ:=kS hh;by_cases hp:pos<s.size
   .have bf:(Gp (.pointer (V ⟨b,0,none⟩)) true ty).run P w=.ok (.tuple #[.bool true,.int .i64 (pos:Int),.int .i32 ((K1 s pos).1:Int)]) { w with heap:=w.heap.setIfInBounds b (.stringIter s (pos+(K1 s pos).2)) }:=by
     simp only[Gp,getObj,setObj,kP,Gy,hh,Result.andThen,hp,if_true];simp[goInt,Gy,hh]
    refine cX.value bf ⟨_,_,F,β,h.1 hp,.i (.t rfl λi hi=>?_),vr hI hm rfl ⟨rfl,λ_=>bm _⟩ rfl (by simp) (λb' aN=>?_) ?_⟩
    .match i,hi with
     |0,_=>exact .v (.inl rfl)
     |1,_=>exact .v (.inl rfl)
     |2,_=>exact .v (.inl rfl)
    .exact wW λe=>aN (by rw[kX,e])
    .exact⟨b,an,by simp[Ξ]⟩
   .have bf:(Gp (.pointer (V ⟨b,0,none⟩)) true ty).run P w=.ok (.tuple #[.bool false]) w:=by
     simp[Gp,getObj,Gy,hh,hp]
    refine cX.value bf ⟨_,_,F,β,h.2 hp,.i (.t rfl λi hi=>?_),Ext.refl hI⟩
    match i,hi with
    |0,_=>exact .v (.inl rfl)
  .cases h
 .cases h
def YE{o:Oper}{a:Act}(hT:bL P T)(hI:Inv w F β st.H)(bI:∀x,x∈o.op.operands->Rd w F β (ev st.f x) (a.eval x))(h:step P T o st k):cX P (execOp a.eval o) w F β st k:=by
 have vE:=(cond_prop h).1;replace h:=(cond_prop h).2
 have hd:o.dst.getD 0<1000:=by simpa using vE
 clear vE;have quiet:nr P T o (ev st.f) st.H (λr=>k r st)->cX P (execOp a.eval o) w F β st k:=λh=>afT hI (Kf hT hI bI h);obtain⟨dst,op,type,pos,after,guard⟩:=o;cases op<;>simp only[Op.operands]at bI
 case alloc t=>simp only[execOp];exact abo hd hT hI h
 case box t x=>simp only[execOp];exact abt hd hI (bI x (by simp)) h
 case makeMap t r =>
  cases r with
  |none=>simp only[execOp];exact abC hd hT hI h
  |some r=>exact quiet h
 case range t x=>simp only[execOp];exact abF hd hT hI (bI x (by simp)) h
 case next x s=>simp only[execOp];exact abE hI (bI x (by simp)) h
 case mapUpdate t m i y=>simp only[execOp];exact Ta hT hI (bI m (by simp)) (bI i (by simp)) (bI y (by simp)) h
 case insert t m i y=>simp only[execOp];exact Ta hT hI (bI m (by simp)) (bI i (by simp)) (bI y (by simp)) h
 case store t x y=>simp only[execOp];exact abJ hT hI (bI x (by simp)) (bI y (by simp)) h
 case buildSlice t n parts =>
  rcases h with h|h
  .exact quiet h
  .simp only[execOp];exact abu hd hT hI (IZ (ev st.f) a.eval parts) (I1 λx hx=>bI x (by simpa using hx)) h
 case slice t x lo hi mx =>
  cases mx with
  |none =>
   cases lo with
   |some l=>exact quiet h
   |none =>
    simp only[B2]at h;split at h
    .simp only[execOp];refine abH (vhi:=hi.map a.eval) hT hI (bI x (by simp)) ?_ h;cases hi with
     |none=>exact KZ
     |some l=>exact bI l (by simp)
    .exact quiet h
  |some m =>
   have h:Hd T t (ev st.f x) (lo.map (ev st.f)) (hi.map (ev st.f)) (V (ev st.f m)) (dst.getD 0) st k:=by cases lo<;>exact h
   simp only[execOp];refine abG (vlo:=lo.map a.eval) (vhi:=hi.map a.eval) (vmx:=V (a.eval m)) hd hT hI (bI x (by simp)) ?_ ?_ ?_ h
   .cases lo with
    |none=>exact KZ
    |some l=>exact bI l (by simp)
   .cases hi with
    |none=>exact KZ
    |some l=>exact bI l (by simp)
   .exact bI m (by simp)
 case makeSlice t l c =>
  rcases h with h|h
  .exact quiet h
  .simp only[execOp];exact abD hd hT hI (bI l (by simp)) (bI c (by simp)) h
 case convert s t x =>
  simp only[B2]at h;split at h
  .rename_i id hid;simp only[execOp];have hx:=bI x (by simp);rw[hid]at hx;exact abz hT hI hx h
  .exact quiet h
 case call c =>
  obtain⟨callee,args,argTypes⟩:=c
  have mW:∀i,i<(args.toList.map (ev st.f)).length->Rd w F β ((args.toList.map (ev st.f)).getD i .Δ) ((args.map a.eval).getD i undef):=λi hi=>by
   simp at hi;simpa [bc,hi]using bI args[i] (by simp[qF])
  cases callee with
  |builtin b =>
   cases b
   case append=>simp only[execOp];exact abr hd hT hI (λx hx=>bI x (by simp[qF,hx])) h
   case copy=>simp only[execOp];exact abA hT hI (λx hx=>bI x (by simp[qF,hx])) h
   case clear=>simp only[execOp];exact abx hT hI (λx hx=>bI x (by simp[qF,hx])) h
   all_goals exact quiet h
  |value f=>simp only[execOp];exact abv hI (bI f (by simp[qF])) mW h
  |invoke r m=>exact quiet h
 all_goals exact quiet h
def aho{o:Oper}{a:Act}(hT:bL P T)(hI:Inv w F β st.H)(hf:∀t,Rd w F β (st.f t) (a.tmps.getD t undef))(h:step P T o st k):cX P (execOp a.eval o) w F β st k:=
 YE hT hI (λx _=>Ao hf x) h
end
def Br(b want:Bool)(yes no:Prop):Prop:=
 match b,want with
 |true,true=>yes
 |false,false=>yes
 |true,false=>no
 |false,true=>no
def Br.y{b want:Bool}{yes no:Prop}(h:Br b want yes no)(hb:b=want):yes:=by subst hb;cases b<;>exact h
def Br.n{b want:Bool}{yes no:Prop}(h:Br b want yes no)(hb:b=!want):no:=by subst hb;cases want<;>exact h
def Br.tt{yes no:Prop}(h:yes):Br true true yes no:=h
def Br.ff{yes no:Prop}(h:yes):Br false false yes no:=h
def Br.tf{yes no:Prop}(h:no):Br true false yes no:=h
def Br.ft{yes no:Prop}(h:no):Br false true yes no:=h
def Br.yes{b want:Bool}{yes no:Prop}(hb:b=want)(h:yes):Br b want yes no:=by
 subst hb;cases b
 .exact Br.ff h
 .exact Br.tt h
def Br.no{b want:Bool}{yes no:Prop}(hb:b=!want)(h:no):Br b want yes no:=by
 subst hb;cases want
 .exact Br.tf h
 .exact Br.ft h
def Br.ite{b:Bool}{ρ:Type}{X Y:Option ρ}{r:ρ}{yes no:Prop}(h:(if b=true then X else Y)=V r)(y:b=true->X=V r->yes)(n:b=false->Y=V r->no):Br b true yes no:=by
 cases b with
 |true=>exact y rfl (by simpa using h)
 |false=>exact n rfl (by simpa using h)
def Br.cA{b:Bool}{ρ:Type}{X Y:Option ρ}{r:ρ}{yes no:Prop}(h:(if b=true then X else Y)=V r)(y:b=true->X=V r->no)(n:b=false->Y=V r->yes):Br b false yes no:=by
 cases b with
 |true=>exact y rfl (by simpa using h)
 |false=>exact n rfl (by simpa using h)
def Tz(x:AV)(k:AV->Prop):Prop:=
 match x with
 |.v a=>k (.v a)
 |.s a=>k (.s a)
 |.p a=>k (.p a)
 |.a a=>k (.a a)
 |.t a=>k (.t a)
 |.c a b c=>k (.c a b c)
 |.b a b=>k (.b a b)
 |.o a=>k (.o a)
 |.e a b c d=>k (.e a b c d)
 |.w a b c=>k (.w a b c)
 |.m a=>k (.m a)
 |.z=>k .z
 |.Δ=>k .Δ
def ack(x:AV)(k:AV->Prop):Tz x k=k x:=by cases x<;>rfl
def put(n:Nat)(dst:Option Nat)(st:ak)(r:AV)(K:ak->Prop):Prop:=
 match st with
 |⟨f,H⟩=>match dst with
  |none=>K ⟨f,H⟩
  |some d=>bif eS d n then Tz r λr=>K ⟨ej f d r,H⟩else False
def put_eq(n:Nat)(dst:Option Nat)(st:ak)(r:AV)(K:ak->Prop):put n dst st r K=match dst with
  |none=>K st
  |some d=>bif eS d n then K ⟨ej st.f d r,st.H⟩else False:=by
 cases st;cases dst with
 |none=>rfl
 |some d=>simp only[put,ack]
def gd(n:Nat)(all:Array Oper)(o:Oper)(st:ak)(yes no:ak->Prop):Prop:=
 match st with
 |⟨f,H⟩=>match o.guard with
  |none=>yes ⟨f,H⟩
  |some (j,want)=>match(all[j]?).bind (·.dst)with
   |some d=>bif eS d n then
     match f d with
     |.v (.bool b)=>Br b want (yes ⟨ej f d (.v (.bool want)),H⟩) (no ⟨ej f d (.v (.bool (!want))),H⟩)
     |.v (.tuple _)=>no ⟨f,H⟩
     |_=>False
    else False
   |none=>False
def sa(n:Nat)(all:Array Oper)(o:Oper)(st:ak)(yes no:ak->Prop):gd n all o st yes no=match o.guard with
 |none=>yes st
 |some (j,want)=>match(all[j]?).bind (·.dst)with
  |some d=>bif eS d n then
    match st.f d with
    |.v (.bool b)=>Br b want (yes ⟨ej st.f d (.v (.bool want)),st.H⟩) (no ⟨ej st.f d (.v (.bool (!want))),st.H⟩)
    |.v (.tuple _)=>no st
    |_=>False
   else False
  |none=>False:=by cases st;rfl
def ju(P:Program)(T:TT)(n:Nat)(all:Array Oper):List Oper->ak->(ak->Prop)->Prop
 |[],st,K=>K st
 |o::os,st,K=>gd n all o st (λst=>step P T o st λr ax=>put n o.dst ax r λhZ=>ju P T n all os hZ K) λst=>put n o.dst st (.v undef) λax=>ju P T n all os ax K
class eF where
 any:Prop
abbrev eF.yes:eF:=⟨True⟩
abbrev eF.no:eF:=⟨False⟩
variable[R:eF]
structure Ctx where
 w:World
 F:Nat->Prop
 β:Nat->Value
 H:Hp
 n:Nat
 ro:Option Nat:=none
 DW:ro=none\/R.any:=by exact .inl rfl
 dl:List Deferred:=[]
def Ctx.ms(C:Ctx)(ds:List Deferred):List Deferred:=ds.take (ds.length-C.dl.length)
structure XM(C:Ctx)(ds:List Deferred)(w:World)(F:Nat->Prop)(β:Nat->Value)(H:Hp):Prop where
 x:Ext C.w C.F C.β ⟨aR,C.H⟩ w F β ⟨aR,H⟩
 m:∀d,d∈C.ms ds->∃D,d={ target:=.collected D,args:=#[] }/\C.w.heap.size<=D/\w.heap[D]?=V (.deferred (V []))/\¬F D/\¬bH β H D
 nd:(C.ms ds).Nodup
 sp:∃l,ds=l++C.dl
section
variable{C:Ctx}{ds:List Deferred}{w w':World}{F F':Nat->Prop}{β ay:Nat->Value}{H H':Hp}
def Ctx.aeN{d:Deferred}(h:∃l,ds=l++C.dl):C.ms (d::ds)=d::C.ms ds:=by
 obtain⟨l,rfl⟩:=h;unfold Ctx.ms
 have e1:(d::(l++C.dl)).length-C.dl.length=l.length+1:=by simp;omega
 have e2:(l++C.dl).length-C.dl.length=l.length:=by simp
 rw[e1,e2];rfl
def Ctx.V7(h:C.dl=[]):C.ms ds=ds:=by unfold Ctx.ms;rw[h];simp
def Ctx.Ep{l:List Deferred}:C.ms (l++C.dl)=l:=by unfold Ctx.ms;simp
def XM.inv(h:XM C ds w F β H):Inv w F β H:=h.x.inv
def Ext.no{st ax:ak}(h:Ext w F β st w' F' ay ax):Ext w F β ⟨aR,st.H⟩ w' F' ay ⟨aR,ax.H⟩:=
 ⟨h.os,h.tape,h.output,h.size,h.block,h.mono,h.new,h.owned,λ_ _ _=>.Δ,h.inv,h.gC⟩
def XM.trans{f f':Nat->AV}(h:XM C ds w F β H)(hx:Ext w F β ⟨f,H⟩ w' F' ay ⟨f',H'⟩):XM C ds w' F' ay H' where
 x:=h.x.trans hx.no
 m d hd:=by
  obtain⟨D,h1,h2,h3,h4,h5⟩:=h.m d hd;have Ξ:=kS h3;refine⟨D,h1,h2,(hx.block D Ξ h5).trans h3,λhF=>?_,λho=>?_⟩
  .rcases hx.new D hF with h|h|h
   .exact h4 h
   .exact absurd Ξ (Nat.not_lt.2 h)
   .exact h5 h
  .rcases hx.owned D ho with h|h
   .exact absurd Ξ (Nat.not_lt.2 h)
   .exact h5 h
 nd:=h.nd
 sp:=h.sp
def XM.Oq(h:XM C ds w F β H):XM C ds w F β H:=h
end
def Rel(C:Ctx)(st:ak)(a:Act)(w:World):Prop:=
 ∃F β,a.tmps.size=C.n/\True/\(∀t,Rd w F β (st.f t) (a.tmps.getD t undef))/\XM C a.defers w F β st.H
def GD(P:Program)(C:Ctx)(c:Code)(st:ak)(Q:Exit->ak->Prop):Prop:=
 ∀a w,Rel C st a w->c.wpIn (fW C.ro) 0 P (λe a' w'=>∃ax,Rel C ax a' w'/\Q e ax) a w
structure Sj(P:Program)(n:Nat)(c:Code)(st:ak)(Q:Exit->ak->Prop):Prop where
 h:∀C:Ctx,C.n=n->GD P C (.loop c) st Q
structure GG(P:Program)(n:Nat)(id:Nat)(ops:Array Oper)(st:ak)(K:ak->Prop):Prop where
 h:∀C:Ctx,C.n=n->GD P C (.region id ops true) st λe ax=>match e with
  |.normal=>K ax
  |_=>False
def wS(P:Program)(T:TT)(n:Nat):Code->ak->(Exit->ak->Prop)->Prop
 |.skip,st,Q=>Q .normal st
 |.label _,st,Q=>Q .normal st
 |.region id ops draw,st,Q=>bif draw then GG P n id ops st (Q .normal)else ju P T n ops ops.toList st (Q .normal)
 |.seq x y,st,Q=>wS P T n x st λe s=>match e with
  |.normal=>wS P T n y s Q
  |e=>Q e s
 |.cond c x y,st,Q=>match c with
  |.tmp d=>bif eS d n then
    match st.f d with
    |.v (.bool b)=>Br b true (wS P T n x ⟨ej st.f d (.v (.bool true)),st.H⟩ Q) (wS P T n y ⟨ej st.f d (.v (.bool false)),st.H⟩ Q)
    |_=>False
   else False
  |.const (.bool true)=>wS P T n x st Q
  |.const (.bool false)=>wS P T n y st Q
  |_=>False
 |.block id c,st,Q=>wS P T n c st λe s=>match e with
  |.exit i=>bif aM i id then Q .normal s else Q (.exit i) s
  |e=>Q e s
 |.loop c,st,Q=>Sj P n c st Q
 |.exit id,st,Q=>Q (.exit id) st
 |.ret,st,Q=>Q .ret st
 |_,_,_=>False
section
variable{P:Program}{T:TT}{C:Ctx}
def Ext.uw{w:World}{F:Nat->Prop}{β:Nat->Value}{st:ak}{w':World}{F':Nat->Prop}{ay:Nat->Value}{ax:ak}(h:Ext w F β st w' F' ay ax)(f:Nat->AV):
  Ext w F β ⟨f,st.H⟩ w' F' ay ⟨aR,ax.H⟩:=
 ⟨h.os,h.tape,h.output,h.size,h.block,h.mono,h.new,h.owned,λ_ _ _=>.Δ,h.inv,h.gC⟩
def Rd.put{w:World}{F:Nat->Prop}{β:Nat->Value}{f:Nat->AV}{a:Act}{d:Nat}{r:AV}{v:Value}(hf:∀t,Rd w F β (f t) (a.tmps.getD t undef))(hv:Rd w F β r v)(hd:d<a.tmps.size):
  ∀t,Rd w F β (ej f d r t) ((a.put (V d) v).tmps.getD t undef):=by
 intro t;unfold ej;cases hb:aM t d with
 |true =>
  obtain rfl:=cT hb;simpa [Act.put,hd]using hv
 |false =>
  have aI:d≠t:=λe=>by rw[e,jv]at hb;cases hb
  have:=hf t;simpa [Act.put,wW aI]using this
def Cp{w:World}{F:Nat->Prop}{β:Nat->Value}{f:Nat->AV}{a:Act}{d:Nat}{b c:Bool}(hf:∀t,Rd w F β (f t) (a.tmps.getD t undef))(hd:f d=.v (.bool b))(hb:b=c):
  ∀t,Rd w F β (ej f d (.v (.bool c)) t) (a.tmps.getD t undef):=by
 intro t;unfold ej;cases ht:aM t d with
 |true =>
  obtain rfl:=cT ht;subst hb;simpa [hd]using hf t
 |false=>exact hf t
def yQ{n:Nat}{dst:Option Nat}{st:ak}{r:AV}{K:ak->Prop}{a:Act}{w:World}{F:Nat->Prop}{β:Nat->Value}{v:Value}(hn:C.n=n)(hs:a.tmps.size=C.n)(hd:True)
  (hf:∀t,Rd w F β (st.f t) (a.tmps.getD t undef)) (he:XM C a.defers w F β st.H) (hv:Rd w F β r v) (h:put n dst st r K):∃ax,Rel C ax (a.put dst v) w/\K ax:=by
 rw[put_eq]at h;cases dst with
 |none=>exact⟨st,⟨F,β,hs,hd,hf,he⟩,h⟩
 |some d =>
  obtain⟨Ξ,hk⟩:=cond_prop h
  have Ξ:d<n:=by simpa [gW]using Ξ
  exact⟨⟨ej st.f d r,st.H⟩,⟨F,β,by simpa [Act.put]using hs,hd,Rd.put hf hv (by omega),he⟩,hk⟩
def put_defers(a:Act)(dst:Option Nat)(v:Value):(a.put dst v).defers=a.defers:=by cases dst<;>rfl
def uZ{ro:Option Nat}{m:Nat}{f:FuncId}{args:Array Value}{w:World}{R:Ending->World->Prop}(h:Calls P f args w R):CallsIn (fW ro) m P f args w R:=
 ⟨trivial,λcs _=>let⟨e,w',fr,r,s,x⟩:=h cs;⟨e,w',fr,r,comesIn_wide.2 s,x⟩⟩
def X3{ro:Option Nat}{m m':Nat}{l:Nat}{f:FuncId}{tmps:Array Value}{assign body:Code}{w:World}{R:Ending->World->Prop}(h:RoundIn gu m P l f tmps assign body w R):RoundIn (fW ro) m' P l f tmps assign body w R:=
 ⟨trivial,λc cs _=>h.2 c cs (room_wide _)⟩
def Oper.kI{o:Oper}{ro:Option Nat}{a:Act}{w:World}{N:Act->World->Prop}{Q:Exit->Act->World->Prop}{r:Result Next}(hd:∀c,o.op≠.defer c)(bf:(execOp a.eval o).run P w=r)(h:o.uponIn (fW ro) 0 P a N Q r):o.wpIn (fW ro) 0 P a w N Q:=
 ⟨λ_ _=>trivial,by rw[Oper.semAt_eq _ _ _ hd,bf];exact h⟩
def YB{o:Oper}{ρ:Operand->AV}{H:Hp}{k:AV->Prop}(h:nr P T o ρ H k):∀c,o.op≠.defer c:=λc e=>by
 unfold nr at h;rw[e]at h;exact h
def YD{o:Oper}{st:ak}{k:AV->ak->Prop}(h:step P T o st k):∀c,o.op≠.defer c:=λc e=>by
 have h:=(cond_prop h).2;unfold B2 at h;rw[e]at h;exact YB h c e
def uB{n:Nat}{all:Array Oper}{o:Oper}{i:Nat}{st:ak}{K:ak->Prop}{a:Act}{w:World}{Q:Exit->Act->World->Prop}{N:Act->World->Prop}(hT:bL P T)(hn:C.n=n)(ho:all[i]?=V o)(hr:Rel C st a w)
  (hN:∀st a w,Rel C st a w->K st->N a w)
  (h:gd n all o st (λst=>step P T o st λr ax=>put n o.dst ax r K) λst=>put n o.dst st (.v undef) K):wpOpIn (fW C.ro) 0 P all Q i N a w:=by
 obtain⟨F,β,hs,hd,hf,he⟩:=hr;have hI:Inv w F β st.H:=he.inv
 have run:∀st,st.H=st.H->(∀t,Rd w F β (st.f t) (a.tmps.getD t undef))->Inv w F β st.H->XM C a.defers w F β st.H->(step P T o st λr ax=>put n o.dst ax r K)->o.wpIn (fW C.ro) 0 P a w N Q:=by
  intro st _ hf hI he h;have cz:=YD h
  rcases aho hT hI hf h with⟨v,w',bf,r,ax,F',ay,hk,hv,hx⟩|⟨w',bf,r,ax,F',ay,hk,hv,hx⟩|⟨g,vs,bf,hc⟩|⟨l,fn,tmps,assign,body,bf,hc⟩
  .refine Oper.kI cz bf ?_;rw[Oper.uponIn_value];obtain⟨hZ,h1,h2⟩:=yQ hn hs hd (λt=>hx.keep t _ (hf t)) (he.trans (hx.uw aR)) hv hk;exact hN _ _ _ h1 h2
  .refine Oper.kI cz bf ?_;rw[Oper.uponIn_skip];obtain⟨hZ,h1,h2⟩:=yQ hn hs hd (λt=>hx.keep t _ (hf t)) (he.trans (hx.uw aR)) hv hk;exact hN _ _ _ h1 h2
  .refine Oper.kI cz bf ?_;rw[Oper.uponIn_enter];refine⟨λh=>(by cases h),uZ (hc.mono ?_)⟩;rintro e w' ⟨v,rfl,r,ax,F',ay,hk,hv,hx⟩;obtain⟨hZ,h1,h2⟩:=yQ hn hs hd (λt=>hx.keep t _ (hf t)) (he.trans (hx.uw aR)) hv hk;exact hN _ _ _ h1 h2
  .refine Oper.kI cz bf ?_;rw[Oper.uponIn_round];refine⟨λh=>(by cases h),X3 (hc.mono ?_)⟩;rintro e w' ⟨v,rfl,r,ax,F',ay,hk,hv,hx⟩;obtain⟨hZ,h1,h2⟩:=yQ hn hs hd (λt=>hx.keep t _ (hf t)) (he.trans (hx.uw aR)) hv hk;exact hN _ _ _ h1 h2
 have skip:∀st:ak,(∀t,Rd w F β (st.f t) (a.tmps.getD t undef))->XM C a.defers w F β st.H->put n o.dst st (.v undef) K->N (a.put o.dst undef) w:=by
  intro st hf he h;obtain⟨hZ,h1,h2⟩:=yQ hn hs hd hf he (.i (.v (.inr rfl)):Rd w F β (.v undef) undef) h;exact hN _ _ _ h1 h2
 unfold wpOpIn;simp only[ho];rw[sa]at h;cases hg:o.guard with
 |none =>
  rw[hg]at h
  have hw:d_ o (yielded all a.tmps)=true:=by simp[d_,hg]
  rw[if_pos hw];exact run st rfl hf hI he h
 |some jw =>
  obtain⟨j,want⟩:=jw;rw[hg]at h;simp only at h;split at h
  .rename_i d jO;obtain⟨Ξ,h⟩:=cond_prop h
   have Ξ:d<a.tmps.size:=by rw[hs,hn];simpa [gW]using Ξ
   have gz:=hf d
   have hy:∀v,a.tmps.getD d undef=v->yielded all a.tmps j=match v with|.bool b=>V b|_=>none:=by
    intro v hv
    have h2:a.tmps[d]?=V v:=by
     rw[<-hv];simp[Ξ]
    unfold yielded;rw[jO,Option.bind_some,h2];cases v<;>rfl
   split at h
   .rename_i b hb;rw[hb]at gz;have hv:=gz.bK;have ix:=hy _ hv;simp only at ix;by_cases jN:b=want
    .have hw:d_ o (yielded all a.tmps)=true:=by simp[d_,hg,ix,jN]
     rw[if_pos hw];exact run ⟨ej st.f d (.v (.bool want)),st.H⟩ rfl (Cp hf hb jN) hI he (h.y jN)
    .have qi:b=!want:=by cases b<;>cases want<;>first|rfl|exact absurd rfl jN
     have hw:¬d_ o (yielded all a.tmps)=true:=by simp[d_,hg,ix,jN]
     rw[if_neg hw];exact⟨λ_ _=>trivial,skip ⟨ej st.f d (.v (.bool !want)),st.H⟩ (Cp hf hb qi) he (h.n qi)⟩
   .rename_i vs hb;rw[hb]at gz;have hv:=gz.bK;have ix:=hy _ hv;simp only at ix
    have hw:¬d_ o (yielded all a.tmps)=true:=by simp[d_,hg,ix]
    rw[if_neg hw];exact⟨λ_ _=>trivial,skip st hf he h⟩
   .cases h
  .cases h
def ajX{n:Nat}{all:Array Oper}{K:ak->Prop}{Q:Exit->Act->World->Prop}(hT:bL P T)(hn:C.n=n)(hQ:∀st a w,Rel C st a w->K st->Q .normal a w):
  ∀(l:List Oper)(i:Nat)(st:ak)(a:Act)(w:World),(∀k,k<l.length->all[i+k]?=l[k]?)->Rel C st a w->ju P T n all l st K->wpOpsIn (fW C.ro) 0 P all Q (List.range' i l.length) a w:=by
 intro l;induction l with
 |nil=>intro i st a w _ hr h;exact hQ _ _ _ hr h
 |cons o os ih =>
  intro i st a w dQ hr h
  have ho:all[i]?=V o:=by simpa using dQ 0 (by simp)
  rw[List.length_cons,List.range'_succ,wpOpsIn_cons];refine uB (K:=λst=>ju P T n all os st K) hT hn ho hr (λst a w hr hk=>?_) h;exact ih (i+1) st a w (λk hk=>by have:=dQ (k+1) (by simp;omega);rw[show i+1+k=i+(k+1) by omega];simpa using this) hr hk
def Rg{n:Nat}(hT:bL P T)(hn:C.n=n):∀(c:Code)(st:ak)(Q:Exit->ak->Prop),wS P T n c st Q->GD P C c st Q:=by
 intro c;induction c with
 |skip=>intro st Q h a w hr;exact wpIn_skip ⟨st,hr,h⟩
 |label l=>intro st Q h a w hr;exact wpIn_label ⟨st,hr,h⟩
 |region id ops draw =>
  intro st Q h a w hr;cases draw with
  |true =>
   refine wpIn_mono ((show GG P n id ops st (Q .normal)from h).h C hn a w hr) ?_;rintro e a' w' ⟨ax,cr,hq⟩
   cases e<;>first|exact⟨ax,cr,hq⟩|exact hq.elim
  |false =>
   refine wpIn_region ?_;have:=ajX (C:=C) (Q:=λe a' w'=>∃ax,Rel C ax a' w'/\Q e ax) hT hn (λst a w hr hk=>⟨st,hr,hk⟩) ops.toList 0 st a w (λk hk=>by simp) hr h;simpa [List.range_eq_range']using this
 |seq x y Ed Ee =>
  intro st Q h a w hr;refine wpIn_seq (wpIn_mono (Ed st _ h a w hr) ?_);rintro e a' w' ⟨ax,cr,hq⟩
  cases e<;>first|exact Ee ax Q hq a' w' cr|exact⟨ax,cr,hq⟩
 |cond c x y Ed Ee =>
  intro st Q h a w hr;cases c with
  |tmp d =>
   obtain⟨Ξ,h⟩:=cond_prop h;split at h
   .rename_i b hb;obtain⟨F,β,hs,hd,hf,he⟩:=hr;have gz:=hf d;rw[hb]at gz;have hv:a.eval (.tmp d)=.bool b:=gz.bK;refine wpIn_cond_split hv (λht=>?_) λht=>?_
    .exact Ed _ _ (h.y ht) a w ⟨F,β,hs,hd,Cp hf hb ht,he⟩
    .exact Ee _ _ (h.n (by simpa using ht)) a w ⟨F,β,hs,hd,Cp hf hb ht,he⟩
   .cases h
  |const v =>
   cases v<;>first|exact h.elim|skip
   rename_i b;cases b with
   |true=>exact wpIn_cond_true rfl (Ed _ _ h a w hr)
   |false=>exact wpIn_cond_false rfl (Ee _ _ h a w hr)
  |global g=>cases h
  |func g=>cases h
 |block id c ih =>
  intro st Q h a w hr;refine wpIn_block (wpIn_mono (ih st _ h a w hr) ?_);rintro e a' w' ⟨ax,cr,hq⟩;cases e with
  |exit i =>
   by_cases hi:i=id
   .subst hi;simp only[jv,cond_true]at hq;simp only[Exit.inBlock,if_true];exact⟨ax,cr,hq⟩
   .have:aM i id=false:=by cases hb:aM i id;rfl;exact absurd (cT hb) hi
    simp only[this,cond_false]at hq;simp only[Exit.inBlock,if_neg hi];exact⟨ax,cr,hq⟩
  |_=>exact⟨ax,cr,hq⟩
 |loop c ih=>intro st Q h a w hr;exact(show Sj P n c st Q from h).h C hn a w hr
 |exit id=>intro st Q h a w hr;exact wpIn_exit ⟨st,hr,h⟩
 |ret=>intro st Q h a w hr;exact wpIn_ret ⟨st,hr,h⟩
 |scope c ih=>intro st Q h;cases h
 |goto l=>intro st Q h;cases h
 |refuse s=>intro st Q h;cases h
 |rangeFunc f ps x y Ed Ee=>intro st Q h;cases h
end
def BO(T:TT):List ResultVar->ak->(List AV->Prop)->Prop
 |[],_,k=>k []
 |.tmp t::r,st,k=>BO T r st λvs=>k (st.f t::vs)
 |.cell t ty::r,st,k=>match st.f t with
  |.b id off=>BP T ty (.b id off) st.H λx=>BO T r st λvs=>k (x::vs)
  |_=>False
def qy(T:TT)(rs:List ResultVar)(st:ak)(k:AV->Prop):Prop:=
 BO T rs st λvs=>match vs with
  |[x]=>k x
  |vs=>k (.t vs)
def r_(T:TT)(rs:List ResultVar)(R:AV->ak->Prop):Exit->ak->Prop
 |.normal,st=>qy T rs st λx=>R x st
 |.ret,st=>qy T rs st λx=>R x st
 |_,_=>False
def lq(args:List AV):Nat->AV:=λt=>args.getD t (.v undef)
def Fz(H:Hp)(x r:AV):Prop:=∀(w:World)(F:Nat->Prop)(β:Nat->Value)(u:Value),Inv w F β H->Rd w F β x u->bq w (λb=>F b\/bH β H b) r u
section
variable{P:Program}{T:TT}{w:World}{F:Nat->Prop}{β:Nat->Value}
def Pv(hT:bL P T){tmps:Array Value}:∀(rs:List ResultVar){st:ak}{k:List AV->Prop},Inv w F β st.H->(∀t,Rd w F β (st.f t) (tmps.getD t undef))->BO T rs st k ->
  ∃vs xs,(rs.mapM λ(r:ResultVar)=>(match r with
   |.tmp t=>pure (tmps.getD t undef)
   |.cell a t=>do loadVar t (<-asAddr (tmps.getD a undef)):Sem Value)).run P w=.ok vs w/\k xs/\vs.length=xs.length/\∀i,i<xs.length->Rd w F β (xs.getD i .Δ) (vs.getD i undef)
 |[],st,k,_,_,h=>⟨[],[],by simp,h,rfl,λi hi=>by simp at hi⟩
 |.tmp t::r,st,k,hI,hf,h=>by
  obtain⟨vs,xs,hr,hk,hl,hv⟩:=Pv hT r hI hf h;refine⟨tmps.getD t undef::vs,st.f t::xs,by rw[alh];simp only[kP,Sem.run_pure,mL,hr],hk,by simp[hl],λi hi=>?_⟩;cases i with
  |zero=>exact hf t
  |succ i=>exact hv i (by simpa using hi)
 |.cell t ty::r,st,k,hI,hf,h=>by
  simp only[BO]at h;split at h
  .rename_i id off hid;have gz:=hf t;rw[hid]at gz;obtain⟨v,x,bf,h,hx⟩:=Ya (P:=P) hT hI gz h;obtain⟨fV,an,hv⟩:=gz.mP
   have adx:(loadVar ty ⟨fV,off,none⟩).run P w=.ok v w:=by
    rw[hv]at bf;simpa [Instr.loadAt,Gq]using bf
   obtain⟨vs,xs,hr,hk,hl,j_⟩:=Pv hT r hI hf h;refine⟨v::vs,x::xs,?_,hk,by simp[hl],λi hi=>?_⟩
   .have e:(do loadVar ty (<-asAddr (tmps.getD t undef)):Sem Value).run P w=.ok v w:=by
     rw[hv];simpa [asAddr]using adx
    rw[alh,kP]
    erw [e]
    simp only[mL,kP,hr,Sem.run_pure]
   .cases i with
    |zero=>exact hx
    |succ i=>exact j_ i (by simpa using hi)
  .cases h
def JP(hT:bL P T){fn:Func}{tmps:Array Value}{st:ak}{k:AV->Prop}(hI:Inv w F β st.H)(hf:∀t,Rd w F β (st.f t) (tmps.getD t undef))(h:qy T fn.results.toList st k):
  ∃v x,(results fn tmps).run P w=.ok v w/\k x/\Rd w F β x v:=by
 obtain⟨vs,xs,hr,hk,hl,hv⟩:=Pv hT fn.results.toList hI hf h
 have hm:(fn.results.mapM λ(r:ResultVar)=>(match r with
   |.tmp t=>pure (tmps.getD t undef)
   |.cell a t=>do loadVar t (<-asAddr (tmps.getD a undef)):Sem Value)).run P w=.ok vs.toArray w:=by
  rw[Array.mapM_eq_mapM_toList];simp only[Sem.run_map,hr,mL]
 have vO:(results fn tmps).run P w=.ok (if h:vs.toArray.size=1 then vs.toArray[0]else .tuple vs.toArray) w:=by
  unfold results;rw[kP];exact congrArg (λz:Result (Array Value)=>z.andThen λ(a:Array Value)w'=>Gy P (pure (if h:a.size=1 then a[0]else .tuple a)) w') hm
 split at hk
 .rename_i x;obtain⟨v,rfl⟩:=List.length_eq_one_iff.1 (by simpa using hl:vs.length=1);exact⟨v,x,by rw[vO];rfl,hk,by simpa using hv 0 (by simp)⟩
 .rename_i aI
  have bd:¬vs.toArray.size=1:=λh1=>by
   have:xs.length=1:=by simpa [hl]using h1
   match xs,this with
   |[x],_=>exact aI x rfl
  refine⟨.tuple vs.toArray,.t xs,by rw[vO,dif_neg bd],hk,.t (by simpa using hl) λi hi=>?_⟩;simpa [bc]using hv i hi
def NW{args:List AV}{vs:Array Value}{n:Nat}(hs:vs.size=args.length)(hv:∀i,i<args.length->Rd w F β (args.getD i .Δ) (vs.getD i undef)):
  ∀t,Rd w F β (lq args t) ((vs++oj (n-vs.size) undef).getD t undef):=by
 intro t;unfold lq;by_cases ht:t<args.length
 .have h1:=hv t ht
  have e1:args.getD t (.v undef)=args.getD t .Δ:=by simp[bc,ht]
  have e2:(vs++oj (n-vs.size) undef).getD t undef=vs.getD t undef:=by
   simp[pZ,hs,ht]
  rw[e1,e2];exact h1
 .have e1:args.getD t (.v undef)=.v undef:=by simp[bc,ht]
  have e2:(vs++oj (n-vs.size) undef).getD t undef=undef:=by
   simp only[lA,pZ,hs,ht,if_false,Array.getElem?_replicate];split<;>rfl
  rw[e1,e2];exact .i (.v (.inr rfl))
def Fz.cP{H:Hp}{x:AV}(h:kH x=true):Fz H x x:=λ_ _ _ _ _ hr=>(Ig h hr).frame (λ_ _=>rfl) λ_ h=>.inl h
def Fz.v{H:Hp}{x:Value}:Fz H (.v x) (.v x):=Fz.cP rfl
def Fz.s{H:Hp}{x:List (List AV)}:Fz H (.s x) (.s x):=Fz.cP rfl
def Fz.nil{H:Hp}:Fz H (.v (.slice none 0 0)) (.s []):=λ_ _ _ _ _ hr=>by rw[hr.bK];exact .s0
def Fz.o{H:Hp}{id E K:Nat}{rows:List (List AV)}(h:dP id H=V (.own E K rows)):Fz H (.o id) (.s rows):=λ_ _ _ _ hI hr=>Wr hI (fk h) hr
inductive ph(H:Hp):List AV->List AV->Prop where
 |nil:ph H [] []
 |cons {x y:AV} {xs ys:List AV} (h:Fz H x y) (t:ph H xs ys):ph H (x::xs) (y::ys)
def ph.spec{H:Hp}{xs ys:List AV}(h:ph H xs ys):xs.length=ys.length/\∀i,i<xs.length->Fz H (xs.getD i .Δ) (ys.getD i .Δ):=by
 induction h with
 |nil=>exact⟨rfl,λi hi=>by simp at hi⟩
 |cons h t ih =>
  refine⟨by simp[ih.1],λi hi=>?_⟩;cases i with
  |zero=>simpa using h
  |succ i=>simpa using ih.2 i (by simpa using hi)
def Fz.a{H:Hp}{xs ys:List AV}(h:ph H xs ys):Fz H (.a xs) (.a ys):=λ_ _ _ _ hI hr=>by
 obtain⟨us,rfl,hs,h1,hu⟩:=hr.qO;obtain⟨hl,hz⟩:=h.spec;exact .a (by omega) (λi hi=>h1 i (by omega)) λi hi=>hz i (by omega) _ _ _ _ hI (hu i (by omega))
def Fz.t{H:Hp}{xs ys:List AV}(h:ph H xs ys):Fz H (.t xs) (.t ys):=λ_ _ _ _ hI hr=>by
 obtain⟨us,rfl,hs,hu⟩:=hr.B6;obtain⟨hl,hz⟩:=h.spec;exact .t (by omega) λi hi=>hz i (by omega) _ _ _ _ hI (hu i (by omega))
def Inv.nil{H:Hp}(h:Inv w F β H):Inv w F β []:=
 ⟨h.cH,λ_ _ hm=>(fu hm).elim,qK,λ_ ⟨_,_,hm,_⟩=>(fu hm).elim,λ_ _ _ _ _ hm=>(fu hm).elim,h.fC⟩
def Le(x y:AV):Prop:=∀(w:World)(F:Nat->Prop)(β:Nat->Value)(u:Value),Rd w F β x u->Rd w F β y u
def Le.refl(x:AV):Le x x:=λ_ _ _ _ h=>h
def Le.nil:Le (.v (.slice none 0 0)) (.s []):=λ_ _ _ _ h=>by rw[h.bK];exact .i .s0
inductive jh:List AV->List AV->Prop where
 |nil:jh [] []
 |cons {x y:AV} {xs ys:List AV} (h:Le x y) (t:jh xs ys):jh (x::xs) (y::ys)
def jh.refl:∀(xs:List AV),jh xs xs
 |[]=>.nil
 |x::xs=>.cons (Le.refl x) (jh.refl xs)
def jh.spec{xs ys:List AV}(h:jh xs ys):xs.length=ys.length/\∀i,i<xs.length->Le (xs.getD i .Δ) (ys.getD i .Δ):=by
 induction h with
 |nil=>exact⟨rfl,λi hi=>by simp at hi⟩
 |cons h t ih =>
  refine⟨by simp[ih.1],λi hi=>?_⟩;cases i with
  |zero=>simpa using h
  |succ i=>simpa using ih.2 i (by simpa using hi)
def Le.a{xs ys:List AV}(h:jh xs ys):Le (.a xs) (.a ys):=λ_ _ _ _ hr=>by
 obtain⟨us,rfl,hs,h1,hu⟩:=hr.qO;obtain⟨hl,hz⟩:=h.spec;exact .a (by omega) (λi hi=>h1 i (by omega)) λi hi=>hz i (by omega) _ _ _ _ (hu i (by omega))
def xo.dN{g:FuncId}{xs ys:List AV}{H:Hp}{r:AV}(h:Pure P g ys r)(hle:jh xs ys):xo P g xs H r:=by
 obtain⟨hl,hz⟩:=hle.spec;exact⟨h.1,λw F β vs hI hs hv=>h.2 w F β vs hI.nil (by omega) λi hi=>hz i (by omega) _ _ _ _ (hv i (by omega))⟩
def Ω.pure{g:FuncId}{xs:List AV}{st:ak}{r:AV}{k:AV->ak->Prop}(h:xo P g xs st.H r)(hk:k r st):Ω P g xs st k:=by
 refine⟨h.1,λw F β vs hI hs hv=>(h.2 w F β vs hI hs hv).mono ?_⟩;rintro e w' ⟨v,rfl,hb,hr⟩;exact⟨v,rfl,r,st,_,_,hk,.i hr,vq hI hb⟩
def Ω.call{g:FuncId}{xs ys:List AV}{st:ak}{r:AV}{k:AV->ak->Prop}(h:Pure P g ys r)(hle:jh xs ys)(hk:k r st):Ω P g xs st k:=.pure (.dN h hle) hk
def EC:AV->Bool
 |.v _=>true
 |_=>false
def OU:AV->Bool
 |.a cs|.t cs=>cs.all EC
 |x=>EC x
def OT{w':World}{F':Nat->Prop}{x:AV}{u:Value}(hx:EC x=true)(h:bq w F x u):bq w' F' x u:=by
 cases x<;>first|(cases hx;done)|(cases h;exact .v (by assumption))
def afM{w':World}{F':Nat->Prop}{x:AV}{u:Value}(hx:OU x=true)(h:bq w F x u):bq w' F' x u:=by
 have get:∀(l:List AV)(i:Nat),l.all EC=true->i<l.length->EC (l.getD i .Δ)=true:=λl i hl hi =>
  eo.1 hl (l.getD i .Δ) (by rw[gk,bD hi];exact eA _)
 cases x with
 |a cs=>cases h with|a hs h1 h=>exact .a hs h1 λi hi=>OT (get cs i hx hi) (h i hi)
 |t cs=>cases h with|t hs h=>exact .t hs λi hi=>OT (get cs i hx hi) (h i hi)
 |_=>exact OT hx h
def xo.borrow{g:FuncId}{xs ys:List AV}{H:Hp}{r:AV}(h:Pure P g ys r)(hz:ph H xs ys)(hr:OU r=true):xo P g xs H r:=by
 obtain⟨hl,hz⟩:=hz.spec;refine⟨h.1,λw F β vs hI hs hv=>?_⟩;have nK:Inv w (λb=>F b\/bH β H b) β []:=
  ⟨λb hb=>hb.elim (hI.cH b) hI.gg,λ_ _ hm=>(fu hm).elim,qK,λ_ ⟨_,_,hm,_⟩=>(fu hm).elim,λ_ _ _ _ _ hm=>(fu hm).elim,hI.fC.more λ_ h=>.inl h⟩
 refine(h.2 w _ β vs nK (by omega) λi hi=>.i (hz i (by omega) _ _ _ _ hI (hv i (by omega)))).mono ?_;rintro e w' ⟨v,rfl,hb,hx⟩;exact⟨v,rfl,hb,afM hr hx⟩
def Ω.borrow{g:FuncId}{xs ys:List AV}{st:ak}{r:AV}{k:AV->ak->Prop}(h:Pure P g ys r)(hz:ph st.H xs ys)(hr:OU r=true)(hk:k r st):Ω P g xs st k:=.pure (.borrow h hz hr) hk
end
end
end Go.Cat
