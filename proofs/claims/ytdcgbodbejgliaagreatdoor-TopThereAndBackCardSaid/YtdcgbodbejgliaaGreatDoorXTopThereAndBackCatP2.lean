/- The logic that the walks are in, piece P2. No condition. -/
import Derived.WalkKit
import Derived.WalkSpells
import Derived.WalkLawsBesides
import Derived.KernelRfl
import Derived.MapKept
import Derived.Test.YtdcgbodbejgliaaGreatDoorXTopThereAndBackCatP1
import Derived.Laws.StructEq
import Derived.ChangeKeysEq
open Option renaming some->V
open Array renaming getElem?_eq_getElem->gK,getElem?_eq_some_iff->lB,getD_eq_getD_getElem?->lA,getElem?_modify->p0,eq_empty_of_size_eq_zero->s4,getElem?_append->pZ,range->nw,size_append->s5,getD->wV,getElem?_extract->ZK,foldl_toList->ZI,toList_zipIdx->ZO
open BitVec renaming ofInt->j0
open Bool renaming and_eq_true->bR,not_eq_true'->lC,or_eq_true->s6,and_assoc->Rm
open Go.Addr renaming add_lit->gr
open Go.Builtin renaming len_->uE,min_->alb,max_->alc,cap_->ald
open Go.ByteArray renaming toList_eq->Cw
open Go.Conv renaming stringToBytes->KF
open Go.Deferred renaming ofValue->mw
open Go.Instr renaming sliceAt->l5,slice->rM,sliceBounds->zN,makeSlice->uH,sureAddr->Gq,fill->uG,buildSlice->Rz,indexAt->Cy,loadAt->Gm,lookup->KJ,index->RA,build->Ry,extract->ak9,fieldAt->ak_,findNow->ala
open Go.IntWalk renaming i64_in->wZ
open Go.MapKept renaming run_findKey->Gl,run_getObj_map->ZS,Stamped->ZR,IsKey->ZQ
open Go.Op renaming bytesLess->eB,intArith->s_,equalIn->uM,eqFields->xc,intBits->KU,eqItems->ak7
open Go.Program renaming fieldsOf->aah
open Go.Result renaming andThen_ok->mL
open Go.Sem renaming run_bind->kP,run_pure->KY
open Go.Value renaming int->eb,oneCell'->ak8
open Go.World renaming alloc->l_,freeze->zW
open List renaming getElem?_eq_getElem->bD,length_cons->bV,mem_cons->bp,mem_cons_of_mem->cw,getD->bc,length_append->cZ,getElem?_eq_some_iff->eZ,getD_eq_getElem?_getD->gk,length_take->dq,mem_map->cL,mem_of_getElem?->fz,all_eq_true->eo,getElem_mem->eA,getElem?_take->fS,getElem?_append->gV,replicate->ia,getElem?_drop->iN,map_cons->fT,nodup_cons->iO,size_toArray->lF,length_eq_zero_iff->qJ,eq_nil_of_length_eq_zero->qI,length_drop->nB,getElem?_map->o_,take_append_drop->qL,cons_append->Cz,getElem?_toArray->Z8,getElem?_take_of_lt->Z7,take_zero->ak6,take_succ_cons->aac
open List.cons renaming injEq->Gs
open Nat renaming mul_le_mul_right->cC,eq_of_beq_eq_true->cT,le_refl->bm,beq->aM,add_mul->bM,le_trans->dZ,zero_add->j3,beq_refl->jv,lt_of_lt_of_le->ou,add_zero->l8,not_lt->mJ,ble->p9,add_assoc->Gw
open Option renaming getD_some->KV,map_some->aag
open Option.some renaming injEq->Gx
namespace Go.Cat
set_option linter.all false
section
open Go.RowKit
class cD where
 on:Prop
class oC[cD]:Prop where
 off:¬cD.on
abbrev cD.yes:cD:=⟨True⟩
abbrev cD.no:cD:=⟨False⟩
class ed where
 cells:List (Nat×Value)
variable[M:cD][G:ed]
inductive AV where
 |v (x:Value)
 |s (rows:List (List AV))
 |p (cells:List AV)
 |a (cells:List AV)
 |t (vs:List AV)
 |c (fn:Fn) (first captured:List AV)
 |b (id off:Nat)
 |o (id:Nat)
 |e (id k i j:Nat)
 |w (id k d:Nat)
 |m (id:Nat)
 |z
 |Δ
instance:Inhabited AV:=⟨.Δ⟩
inductive bq(w:World)(F:Nat->Prop):AV->Value->Prop where
 |v {x:Value} (h:x.oneCell'=true\/x=undef):bq w F (.v x) x
 |s0 {a:Option Addr}:bq w F (.s []) (.slice a 0 0)
 |z {a:Option Addr}:bq w F .z (.slice a 0 0)
 |s {rows:List (List AV)} {b off c k:Nat} {u:Nat->Nat->Value}
   (hb:F b) (hc:rows.length<=c) (hm:c<=maxLen)
   (hk:∀i,i<rows.length->(rows.getD i []).length=k)
   (eT:∀i j,i<rows.length->j<k->w.cell? ⟨b,off+(i*k+j),none⟩=V (u i j))
   (fo:∀i j,i<rows.length->j<k->(u i j).oneCell'=true)
   (fE:∀i j,i<rows.length->j<k->bq w F ((rows.getD i []).getD j .Δ) (u i j)) :
   bq w F (.s rows) (.slice (V ⟨b,off,none⟩) rows.length c)
 |p {cells:List AV} {b off:Nat} {u:Nat->Value}
   (hb:F b)
   (eT:∀j,j<cells.length->w.cell? ⟨b,off+j,none⟩=V (u j))
   (fo:∀j,j<cells.length->(u j).oneCell'=true)
   (fE:∀j,j<cells.length->bq w F (cells.getD j .Δ) (u j)) :
   bq w F (.p cells) (.pointer (V ⟨b,off,none⟩))
 |a {cells:List AV} {us:Array Value} (hs:us.size=cells.length)
   (fo:∀i,i<cells.length->(us.getD i undef).oneCell'=true)
   (h:∀i,i<cells.length->bq w F (cells.getD i .Δ) (us.getD i undef)):bq w F (.a cells) (.agg us)
 |t {cells:List AV} {us:Array Value} (hs:us.size=cells.length)
   (h:∀i,i<cells.length->bq w F (cells.getD i .Δ) (us.getD i undef)):bq w F (.t cells) (.tuple us)
 |c {fn:Fn} {fs cs:List AV} {us vs:Array Value} (hs:us.size=fs.length) (dG:vs.size=cs.length)
   (h:∀i,i<fs.length->bq w F (fs.getD i .Δ) (us.getD i undef))
   (h':∀i,i<cs.length->bq w F (cs.getD i .Δ) (vs.getD i undef)):bq w F (.c fn fs cs) (.func fn us vs)
inductive Rd(w:World)(F:Nat->Prop)(β:Nat->Value):AV->Value->Prop where
 |i {x:AV} {u:Value} (h:bq w F x u):Rd w F β x u
 |Δ {u:Value}:Rd w F β .Δ u
 |b {id off fV:Nat} (h:β id=.pointer (V ⟨fV,0,none⟩)):Rd w F β (.b id off) (.pointer (V ⟨fV,off,none⟩))
 |o {id n c:Nat} {a:Option Addr} (h:β id=.slice a n c):Rd w F β (.o id) (.slice a n c)
 |e {id k i j g n c:Nat} (h:β id=.slice (V ⟨g,0,none⟩) n c):Rd w F β (.e id k i j) (.pointer (V ⟨g,i*k+j,none⟩))
 |m {id b:Nat} (h:β id=.map (V b)):Rd w F β (.m id) (.map (V b))
 |w {id k d n c:Nat} {a a':Option Addr} (h:β id=.slice a n c) (hd:d<=n) (ha:d<c->a'=a.map (·.add (d*k))):Rd w F β (.w id k d) (.slice a' (n-d) (c-d))
 |a {cells:List AV} {us:Array Value} (hs:us.size=cells.length)
   (fo:∀i,i<cells.length->(us.getD i undef).oneCell'=true)
   (h:∀i,i<cells.length->Rd w F β (cells.getD i .Δ) (us.getD i undef)):Rd w F β (.a cells) (.agg us)
 |t {cells:List AV} {us:Array Value} (hs:us.size=cells.length)
   (h:∀i,i<cells.length->Rd w F β (cells.getD i .Δ) (us.getD i undef)):Rd w F β (.t cells) (.tuple us)
 |c {fn:Fn} {fs cs:List AV} {us vs:Array Value} (hs:us.size=fs.length) (dG:vs.size=cs.length)
   (h:∀i,i<fs.length->Rd w F β (fs.getD i .Δ) (us.getD i undef))
   (h':∀i,i<cs.length->Rd w F β (cs.getD i .Δ) (vs.getD i undef)):Rd w F β (.c fn fs cs) (.func fn us vs)
def gn(F:Nat->Prop)(w w':World):Prop:=∀b,F b->w'.heap[b]?=w.heap[b]?
def gn.cell{F:Nat->Prop}{w w':World}(h:gn F w w'){b o:Nat}(hb:F b):w'.cell? ⟨b,o,none⟩=w.cell? ⟨b,o,none⟩:=
 World.cell?_of_block (w:=w) (h b hb)
def bq.frame{w w':World}{F F':Nat->Prop}(ha:gn F w w')(hF:∀b,F b->F' b){x:AV}{u:Value}(h:bq w F x u):bq w' F' x u:=by
 induction h with
 |v h=>exact .v h
 |s0=>exact .s0
 |z=>exact .z
 |s hb hc hm hk eT fo fE ih=>exact .s (hF _ hb) hc hm hk (λi j hi hj=>by rw[ha.cell hb];exact eT i j hi hj) fo ih
 |p hb eT fo fE ih=>exact .p (hF _ hb) (λj hj=>by rw[ha.cell hb];exact eT j hj) fo ih
 |a hs fo h ih=>exact .a hs fo ih
 |t hs h ih=>exact .t hs ih
 |c hs dG h h' ih Ec=>exact .c hs dG ih Ec
def Rd.frame{w w':World}{F F':Nat->Prop}{β:Nat->Value}(ha:gn F w w')(hF:∀b,F b->F' b){x:AV}{u:Value}(h:Rd w F β x u):Rd w' F' β x u:=by
 induction h with
 |i h=>exact .i (h.frame ha hF)
 |Δ=>exact .Δ
 |b h=>exact .b h
 |o h=>exact .o h
 |e h=>exact .e h
 |w h hd ha=>exact .w h hd ha
 |m h=>exact .m h
 |a hs fo h ih=>exact .a hs fo ih
 |t hs h ih=>exact .t hs ih
 |c hs dG h h' ih Ec=>exact .c hs dG ih Ec
section
variable{w:World}{F:Nat->Prop}{β:Nat->Value}{u:Value}
def Rd.bK{x:Value}(h:Rd w F β (.v x) u):u=x:=by
 cases h with
 |i h=>cases h;rfl
def Rd.qO{cells:List AV}(h:Rd w F β (.a cells) u):∃us:Array Value,u=.agg us/\us.size=cells.length/\(∀i,i<cells.length->(us.getD i undef).oneCell'=true) /\
  ∀i,i<cells.length->Rd w F β (cells.getD i .Δ) (us.getD i undef):=by
 cases h with
 |i h=>cases h with|a hs fo h=>exact⟨_,rfl,hs,fo,λi hi=>.i (h i hi)⟩
 |a hs fo h=>exact⟨_,rfl,hs,fo,h⟩
def Rd.B6{cells:List AV}(h:Rd w F β (.t cells) u):∃us:Array Value,u=.tuple us/\us.size=cells.length /\
  ∀i,i<cells.length->Rd w F β (cells.getD i .Δ) (us.getD i undef):=by
 cases h with
 |i h=>cases h with|t hs h=>exact⟨_,rfl,hs,λi hi=>.i (h i hi)⟩
 |t hs h=>exact⟨_,rfl,hs,h⟩
def Rd.nG{fn:Fn}{fs cs:List AV}(h:Rd w F β (.c fn fs cs) u):∃us vs:Array Value,u=.func fn us vs/\us.size=fs.length/\vs.size=cs.length /\
  (∀i,i<fs.length->Rd w F β (fs.getD i .Δ) (us.getD i undef))/\(∀i,i<cs.length->Rd w F β (cs.getD i .Δ) (vs.getD i undef)):=by
 cases h with
 |i h=>cases h with|c hs dG h h'=>exact⟨_,_,rfl,hs,dG,λi hi=>.i (h i hi),λi hi=>.i (h' i hi)⟩
 |c hs dG h h'=>exact⟨_,_,rfl,hs,dG,h,h'⟩
def Rd.oX{rows:List (List AV)}(h:Rd w F β (.s rows) u):bq w F (.s rows) u:=by cases h;assumption
def Rd.Bp{cells:List AV}(h:Rd w F β (.p cells) u):bq w F (.p cells) u:=by cases h;assumption
def Rd.zK(h:Rd w F β .z u):∃a,u=.slice a 0 0:=by cases h with|i h=>cases h;exact⟨_,rfl⟩
def Rd.mP{id off:Nat}(h:Rd w F β (.b id off) u):∃fV,β id=.pointer (V ⟨fV,0,none⟩)/\u=.pointer (V ⟨fV,off,none⟩):=by
 cases h with
 |i h=>cases h
 |b h=>exact⟨_,h,rfl⟩
def Rd.ko{id:Nat}(h:Rd w F β (.o id) u):∃a n c,β id=.slice a n c/\u=.slice a n c:=by
 cases h with
 |i h=>cases h
 |o h=>exact⟨_,_,_,h,rfl⟩
def Rd.Al{id k i j:Nat}(h:Rd w F β (.e id k i j) u):∃g n c,β id=.slice (V ⟨g,0,none⟩) n c/\u=.pointer (V ⟨g,i*k+j,none⟩):=by
 cases h with
 |i h=>cases h
 |e h=>exact⟨_,_,_,h,rfl⟩
def Rd.yJ{id:Nat}(h:Rd w F β (.m id) u):∃b,β id=.map (V b)/\u=.map (V b):=by
 cases h with
 |i h=>cases h
 |m h=>exact⟨_,h,rfl⟩
def Rd.wQ{id k d:Nat}(h:Rd w F β (.w id k d) u):∃a a' n c,β id=.slice a n c/\d<=n/\(d<c->a'=a.map (·.add (d*k)))/\u=.slice a' (n-d) (c-d):=by
 cases h with
 |i h=>cases h
 |w h hd ha=>exact⟨_,_,_,_,h,hd,ha,rfl⟩
end
def um:AV->Bool
 |.v (.agg _)|.v (.tuple _)|.a _|.t _|.Δ=>false
 |_=>true
def ad'{w:World}{F:Nat->Prop}{β:Nat->Value}{x:AV}{u:Value}(hx:um x=true)(h:Rd w F β x u):u.oneCell'=true:=by
 cases h with
 |i h =>
  cases h with
  |v h =>
   rcases h with h|rfl
   .exact h
   .simp[um,undef]at hx
  |s0=>rfl
  |z=>rfl
  |s=>rfl
  |p=>rfl
  |a=>simp[um]at hx
  |t=>simp[um]at hx
  |c=>rfl
 |Δ=>simp[um]at hx
 |b=>rfl
 |o=>rfl
 |e=>rfl
 |w=>rfl
 |m=>rfl
 |a=>simp[um]at hx
 |t=>simp[um]at hx
 |c=>rfl
structure RF where
 ps:Array Tmp
 assign:Code
 body:Code
 n:Nat
def LS.st:LS->LoopState
 |.jb=>.ready
 |.Lw=>.busy
 |_=>.done
def LS.yN:LS->Option Code
 |.ret=>V .ret
 |.ex i=>V (.exit i)
 |_=>none
inductive Chunk where
 |box (cells:List AV)
 |own (E k:Nat) (rows:List (List AV))
 |mp (ag:Bool) (rows:List (Int×List AV))
 |lp (l:Nat) (e:LS) (R:RF) (L:List (Nat×AV))
 |si (s:ByteArray) (pos:Nat)
abbrev Hp:=List (Nat×Chunk)
def bP:Value->Option Nat
 |.pointer (V a)=>V a.block
 |.slice (V a) _ c=>bif aM c 0 then none else V a.block
 |.map (V b)=>V b
 |_=>none
def rG(ag:Bool)(cells:List AV):AV:=bif ag then .a cells else cells.getD 0 .Δ
def Chunk.holds(w:World)(F:Nat->Prop)(β:Nat->Value)(id:Nat):Chunk->Prop
 |.box cells=>∃b c e,β id=.pointer (V ⟨b,0,none⟩)/\w.heap[b]?=V (.cells c e (0,0))/\c.size=cells.length /\
   (∀i,i<cells.length->(c.getD i undef).oneCell'=true)/\∀i,i<cells.length->Rd w F β (cells.getD i .Δ) (c.getD i undef)
 |.own E k rows=>(rows=[]/\∃a,β id=.slice a 0 0)\/∃g cap cur,β id=.slice (V ⟨g,0,none⟩) rows.length cap/\0<cap/\w.heap[g]?=V (.cells cur E (0,0))/\rows.length<=cap/\cap<=maxLen /\
   cur.size=cap*k/\(∀i,i<rows.length->(rows.getD i []).length=k) /\
   ∀i j,i<rows.length->j<k->(cur.getD (i*k+j) undef).oneCell'=true/\bq w F ((rows.getD i []).getD j .Δ) (cur.getD (i*k+j) undef)
 |.mp ag rows=>∃b es ck,β id=.map (V b)/\w.heap[b]?=V (.map es ck)/\ZR es ck/\es.size=rows.length/\es.size<=140737488355328 /\
   ∀(i:Nat)(r:Int×List AV),rows[i]?=V r->∃e:MapEntry,es[i]?=V e/\e.key=.int .i64 r.1/\ae r.1/\bq w F (rG ag r.2) e.val
 |.lp l e R L=>∃fn tmps D,β id=.pointer (V ⟨l,0,none⟩)/\w.heap[l]?=V (.loop { state:=e.st,pending:=e.yN,fn,tmps,params:=R.ps,assign:=R.assign,body:=R.body,defers:=D })/\tmps.size=R.n /\
   ∀p,p∈L->Rd w F β p.2 (tmps.getD p.1 undef)
 |.si s pos=>∃b,β id=.pointer (V ⟨b,0,none⟩)/\w.heap[b]?=V (.stringIter s pos)
def ed.ok[G:ed](w:World)(F:Nat->Prop):Prop:=∀b v,(b,v)∈G.cells->F b/\w.cell? ⟨b,0,none⟩=V v
def ed.ok.frame{w w':World}{F F':Nat->Prop}(h:ed.ok w F)(ha:gn F w w')(hF:∀b,F b->F' b):ed.ok w' F':=λb v hm=>⟨hF b (h b v hm).1,(ha.cell (h b v hm).1).trans (h b v hm).2⟩
def ed.ok.more{w:World}{F F':Nat->Prop}(h:ed.ok w F)(hF:∀b,F b->F' b):ed.ok w F':=h.frame (λ_ _=>rfl) hF
def ed.ok.at{w w':World}{F:Nat->Prop}(h:ed.ok w F)(ha:gn F w w'):ed.ok w' F:=h.frame ha λ_ h=>h
def bH(β:Nat->Value)(H:Hp)(b:Nat):Prop:=∃id c,(id,c)∈H/\bP (β id)=V b
structure Inv(w:World)(F:Nat->Prop)(β:Nat->Value)(H:Hp):Prop where
 cH:∀b,F b->b<w.heap.size
 holds:∀id c,(id,c)∈H->c.holds w F β id
 keys:(H.map (·.1)).Nodup
 apart:∀b,bH β H b->¬F b
 eD:∀id c Eb c' b,(id,c)∈H->(Eb,c')∈H->bP (β id)=V b->bP (β Eb)=V b->id=Eb
 fC:ed.ok w F
def kS{w:World}{b:Nat}{o:Obj}(h:w.heap[b]?=V o):b<w.heap.size:=(lB.1 h).1
def adq{w:World}{F:Nat->Prop}{β:Nat->Value}{id:Nat}{c:Chunk}(h:c.holds w F β id){b:Nat}(hb:bP (β id)=V b):b<w.heap.size:=by
 cases c with
 |box cells =>
  obtain⟨b',c',e,an,hh,_⟩:=h;rw[an]at hb;simp[bP]at hb;subst hb;exact kS hh
 |mp ag rows =>
  obtain⟨b',es,ck,an,hh,_⟩:=h;rw[an]at hb;simp[bP]at hb;subst hb;exact kS hh
 |lp l e R L =>
  obtain⟨fn,tmps,D,an,hh,_⟩:=h;rw[an]at hb;simp[bP]at hb;subst hb;exact kS hh
 |si s pos =>
  obtain⟨b',an,hh⟩:=h;rw[an]at hb;simp[bP]at hb;subst hb;exact kS hh
 |own E k rows =>
  rcases h with⟨_,a,hv⟩|⟨g,cap,cur,hv,hc,hg,_⟩
  .rw[hv]at hb;cases a<;>simp[bP]at hb
  .have h0:aM cap 0=false:=by cases cap<;>first|rfl|omega
   rw[hv]at hb;simp[bP,h0]at hb;subst hb;exact kS hg
def Inv.gg{w:World}{F:Nat->Prop}{β:Nat->Value}{H:Hp}(h:Inv w F β H){b:Nat}(hb:bH β H b):b<w.heap.size:=by
 obtain⟨id,c,hm,hk⟩:=hb;exact adq (h.holds id c hm) hk
structure ak where
 f:Nat->AV
 H:Hp
def aR:Nat->AV:=λ_=>.Δ
def jL[cD](w w':World):Prop:=w'.tape=w.tape/\(cD.on->w.drawn<=w'.drawn)
def jL.refl(w:World):jL w w:=⟨rfl,λ_=>bm _⟩
def jL.trans{w w' rH:World}(h:jL w w')(h':jL w' rH):jL w rH:=⟨h'.1.trans h.1,λm=>dZ (h.2 m) (h'.2 m)⟩
structure Below(B:Nat)(w w':World):Prop where
 os:w'.os=w.os
 tape:jL w w'
 output:w'.output=w.output
 size:w.heap.size<=w'.heap.size
 block:∀k,k<B->w'.heap[k]?=w.heap[k]?
def Below.old{B:Nat}{w w':World}(h:Below B w w'):Go.RowKit.Below B w w':=⟨h.os,h.tape.1,h.output,h.size,h.block⟩
def Below.refl(B:Nat)(w:World):Below B w w:=⟨rfl,jL.refl _,rfl,bm _,λ_ _=>rfl⟩
def Below.trans{B:Nat}{a b c:World}(h:Below B a b)(k:Below B b c):Below B a c:=
 ⟨k.os.trans h.os,h.tape.trans k.tape,k.output.trans h.output,dZ h.size k.size,λi hi=>(k.block i hi).trans (h.block i hi)⟩
def Below.drew{B:Nat}{a w:World}(h:Below B a w):Below B a w.drew:=⟨h.os,⟨h.tape.1,λm=>Nat.le_succ_of_le (h.tape.2 m)⟩,h.output,h.size,h.block⟩
def Below.alloc{B:Nat}{a w:World}(h:Below B a w)(hB:B<=w.heap.size)(o:Obj):Below B a (w.alloc o):=
 ⟨h.os,h.tape,h.output,(h.old.alloc hB o).size,(h.old.alloc hB o).block⟩
structure Ext(w:World)(F:Nat->Prop)(β:Nat->Value)(st:ak)(w':World)(F':Nat->Prop)(ay:Nat->Value)(ax:ak):Prop where
 os:w'.os=w.os
 tape:jL w w'
 output:w'.output=w.output
 size:w.heap.size<=w'.heap.size
 block:∀b,b<w.heap.size->¬bH β st.H b->w'.heap[b]?=w.heap[b]?
 mono:∀b,F b->F' b
 new:∀b,F' b->F b\/w.heap.size<=b\/bH β st.H b
 owned:∀b,bH ay ax.H b->w.heap.size<=b\/bH β st.H b
 keep:∀t u,Rd w F β (st.f t) u->Rd w' F' ay (ax.f t) u
 inv:Inv w' F' ay ax.H
 gC:∀i,1000<=i->ay i=β i
def Ext.refl{w:World}{F:Nat->Prop}{β:Nat->Value}{st:ak}(h:Inv w F β st.H):Ext w F β st w F β st:=
 ⟨rfl,jL.refl _,rfl,bm _,λ_ _ _=>rfl,λ_ h=>h,λ_ h=>.inl h,λ_ h=>.inr h,λ_ _ h=>h,h,λ_ _=>rfl⟩
def Ext.trans{w:World}{F:Nat->Prop}{β:Nat->Value}{st:ak}{w':World}{F':Nat->Prop}{ay:Nat->Value}{ax:ak}{rH:World}{Sf:Nat->Prop}{ZH:Nat->Value}{hZ:ak}
  (h:Ext w F β st w' F' ay ax) (h':Ext w' F' ay ax rH Sf ZH hZ):Ext w F β st rH Sf ZH hZ where
 os:=h'.os.trans h.os
 tape:=h.tape.trans h'.tape
 output:=h'.output.trans h.output
 size:=dZ h.size h'.size
 block b hb hn:=by
  have h1:¬bH ay ax.H b:=λho=>(h.owned b ho).elim (λeW=>absurd hb (mJ.2 eW)) hn;rw[h'.block b (ou hb h.size) h1,h.block b hb hn]
 mono b hb:=h'.mono b (h.mono b hb)
 new b hb:=by
  rcases h'.new b hb with h1|h1|h1
  .exact h.new b h1
  .exact .inr (.inl (dZ h.size h1))
  .exact(h.owned b h1).elim (λx=>.inr (.inl x)) (λx=>.inr (.inr x))
 owned b hb:=by
  rcases h'.owned b hb with h1|h1
  .exact .inl (dZ h.size h1)
  .exact h.owned b h1
 keep t u hu:=h'.keep t u (h.keep t u hu)
 inv:=h'.inv
 gC i hi:=(h'.gC i hi).trans (h.gC i hi)
end
section
open Go.RowKit
variable[M:cD][G:ed]
inductive TK where
 |bool|int (k:IntKind)|str|struct (fs:List (Nat×Nat))|slice (e:Nat)|arr (n e:Nat)|map (k e:Nat)|iface|other
structure TI where
 kind:TK
 cells:Nat
 bytes:Nat
 zero:Value
def rU:TypeDesc->TK
 |.bool=>.bool
 |.int k=>.int k
 |.string=>.str
 |.struct fs=>.struct (fs.toList.map λf=>(f.offset,f.type))
 |.slice e=>.slice e
 |.array n e=>.arr n e
 |.map k e=>.map k e
 |.interface _=>.iface
 |_=>.other
abbrev TT:=Nat->Option TI
def gO(P:Program)(t:Nat)(i:TI):Prop:=
 (P.info? t).map (λj=>(j.zero,j.size,j.bytes))=V (V i.zero,i.cells,i.bytes)/\(P.underlying t).map rU=V i.kind
def bL(P:Program)(T:TT):Prop:=∀t i,T t=V i->gO P t i
def lk:List (Nat×TI)->TT
 |[],_=>none
 |(t,i)::r,x=>bif aM x t then V i else lk r x
def Sc(P:Program):List (Nat×TI)->Prop
 |[]=>True
 |(t,i)::r=>gO P t i/\Sc P r
def bL.ae4{P:Program}{l:List (Nat×TI)}(h:Sc P l):bL P (lk l):=by
 induction l with
 |nil=>intro t i h';cases h'
 |cons x r ih =>
  obtain⟨t,i⟩:=x;intro t' i' h';simp only[lk]at h';cases hb:aM t' t with
  |true =>
   rw[hb]at h';have:=cT hb;subst this;cases h';exact h.1
  |false =>
   rw[hb]at h';exact ih h.2 t' i' h'
section
variable{P:Program}{t:Nat}{i:TI}
def gO.info(h:gO P t i):∃j,P.info? t=V j/\j.zero=V i.zero/\j.size=i.cells/\j.bytes=i.bytes:=by
 obtain⟨h,_⟩:=h;cases hj:P.info? t with
 |none=>simp[hj]at h
 |some j=>simp[hj]at h;exact⟨j,rfl,h.1,h.2.1,h.2.2⟩
def gO.oi(h:gO P t i):∃d,P.underlying t=V d/\rU d=i.kind:=by
 obtain⟨_,h⟩:=h;cases hj:P.underlying t with
 |none=>simp[hj]at h
 |some j=>simp[hj]at h;exact⟨j,rfl,h⟩
def gO.slice{e:Nat}(h:gO P t i)(hk:i.kind=.slice e):P.underlying t=V (.slice e):=by
 obtain⟨d,hd,bG⟩:=h.oi;rw[hk]at bG;cases d<;>simp[rU]at bG;subst bG;exact hd
def gO.arr{n e:Nat}(h:gO P t i)(hk:i.kind=.arr n e):P.underlying t=V (.array n e):=by
 obtain⟨d,hd,bG⟩:=h.oi;rw[hk]at bG;cases d<;>simp[rU]at bG;obtain⟨rfl,rfl⟩:=bG;exact hd
def gO.int{k:IntKind}(h:gO P t i)(hk:i.kind=.int k):P.underlying t=V (.int k):=by
 obtain⟨d,hd,bG⟩:=h.oi;rw[hk]at bG;cases d<;>simp[rU]at bG;subst bG;exact hd
def gO.map{kt e:Nat}(h:gO P t i)(hk:i.kind=.map kt e):P.underlying t=V (.map kt e):=by
 obtain⟨d,hd,bG⟩:=h.oi;rw[hk]at bG;cases d<;>simp[rU]at bG;obtain⟨rfl,rfl⟩:=bG;exact hd
def gO.str(h:gO P t i)(hk:i.kind=.str):P.underlying t=V .string:=by
 obtain⟨d,hd,bG⟩:=h.oi;rw[hk]at bG;cases d<;>simp[rU]at bG;exact hd
def gO.struct{fs:List (Nat×Nat)}(h:gO P t i)(hk:i.kind=.struct fs):∃fields,P.underlying t=V (.struct fields)/\fields.toList.map (λf=>(f.offset,f.type))=fs:=by
 obtain⟨d,hd,bG⟩:=h.oi;rw[hk]at bG;cases d<;>simp[rU]at bG;exact⟨_,hd,bG⟩
def gO.lv(h:gO P t i)(w:World):(sizeOf t).run P w=.ok i.cells w:=by
 obtain⟨j,hj,_,hs,_⟩:=h.info;simp[sizeOf,typeInfo,hj,hs]
def gO.sS(h:gO P t i)(w:World):(zeroValue t).run P w=.ok i.zero w:=by
 obtain⟨j,hj,hz,_⟩:=h.info;simp[zeroValue,typeInfo,hj,hz]
end
def qd:TK->Bool
 |.struct _|.arr _ _=>true
 |_=>false
def gO.JR{P:Program}{t:Nat}{i:TI}(h:gO P t i)(w:World):(isAgg t).run P w=.ok (qd i.kind) w:=by
 obtain⟨d,hd,hk⟩:=h.oi;simp only[isAgg,kP,run_underlying hd,mL];cases d<;>simp[rU]at hk<;>rw[<-hk]<;>rfl
def bZ:Value->AV
 |.agg cs=>bif cs.toList.all (·.oneCell')then .a (cs.toList.map .v)else .Δ
 |.tuple _=>.Δ
 |x=>.v x
def oa(w:World)(F:Nat->Prop)(x:Value)(β:Nat->Value):Rd w F β (bZ x) x:=by
 unfold bZ;split
 .rename_i cs;cases hc:cs.toList.all (·.oneCell')with
  |false=>exact .Δ
  |true =>
   refine .i (.a (by simp) (λi hi=>?_) λi hi=>?_)
   .simp at hi;have:=(eo.1 hc) cs[i] (by simp);simpa [wV,hi]using this
   .simp at hi;have:=(eo.1 hc) cs[i] (by simp);simp[wV,hi];exact .v (.inl this)
 .exact .Δ
 .rename_i h1 h2;refine .i (.v (.inl ?_))
  cases x<;>first|rfl|exact absurd rfl (h1 _)|exact absurd rfl (h2 _)
def ev(f:Nat->AV):Operand->AV
 |.tmp t=>f t
 |.const v=>bZ v
 |.global _=>.Δ
 |.func g=>.c (.func g) [] []
def Ao{w:World}{F:Nat->Prop}{β:Nat->Value}{f:Nat->AV}{a:Act}(h:∀t,Rd w F β (f t) (a.tmps.getD t undef))(x:Operand):Rd w F β (ev f x) (a.eval x):=by
 cases x with
 |tmp t=>exact h t
 |const v=>exact oa _ _ _ _
 |global g=>exact .Δ
 |func g=>exact .i (.c rfl rfl (λi hi=>absurd hi (by simp)) (λi hi=>absurd hi (by simp)))
def ae.wrap{n:Int}(h:ae n):IntKind.i64.wrap n=n:=wZ _ h
def Lm(op:BinOp)(kx ky:IntKind)(a b:Int)(k:Value->Prop):Prop:=
 match op with
 |.shl=>0<=b/\∃r,kx.wrap (a*2 ^ (min b.toNat kx.bits))=r/\k (.int kx r)
 |.shr=>0<=b/\∃r,a.fdiv (2 ^ (min b.toNat kx.bits))=r/\k (.int kx r)
 |op=>bif kx==ky then
  match op with
  |.add=>match kx with
   |.i64=>(ae (a+b)/\k (.int .i64 (a+b)))\/∃r,IntKind.i64.wrap (a+b)=r/\k (.int .i64 r)
   |_=>∃r,kx.wrap (a+b)=r/\k (.int kx r)
  |.sub=>match kx with
   |.i64=>(ae (a-b)/\k (.int .i64 (a-b)))\/∃r,IntKind.i64.wrap (a-b)=r/\k (.int .i64 r)
   |_=>∃r,kx.wrap (a-b)=r/\k (.int kx r)
  |.mul=>match kx with
   |.i64=>(ae (a*b)/\k (.int .i64 (a*b)))\/∃r,IntKind.i64.wrap (a*b)=r/\k (.int .i64 r)
   |_=>∃r,kx.wrap (a*b)=r/\k (.int kx r)
  |.quo=>b≠0/\∃r,kx.wrap (a.tdiv b)=r/\k (.int kx r)
  |.rem=>b≠0/\∃r,a.tmod b=r/\k (.int kx r)
  |.and=>∃r,kx.wrap (j0 kx.bits a &&& j0 kx.bits b).toNat=r/\k (.int kx r)
  |.or=>∃r,kx.wrap (j0 kx.bits a ||| j0 kx.bits b).toNat=r/\k (.int kx r)
  |.xor=>∃r,kx.wrap (j0 kx.bits a ^^^ j0 kx.bits b).toNat=r/\k (.int kx r)
  |.andNot=>∃r,kx.wrap (j0 kx.bits a &&& ~~~j0 kx.bits b).toNat=r/\k (.int kx r)
  |.eql=>k (.bool (a==b))
  |.neq=>k (.bool (a != b))
  |.lss=>k (.bool (decide (a<b)))
  |.leq=>k (.bool (decide (a<=b)))
  |.gtr=>k (.bool (decide (a>b)))
  |.geq=>k (.bool (decide (a>=b)))
  |_=>False
 else False
def cond_prop{c:Bool}{p:Prop}(h:bif c then p else False):c=true/\p:=by
 cases c with
 |true=>exact⟨rfl,h⟩
 |false=>cases h
def Sv{a b:IntKind}(h:(a==b)=true):a=b:=by
 cases a<;>cases b<;>first|rfl|exact absurd h (by decide)
def aaE{P:Program}{op:BinOp}{kx ky:IntKind}{a b:Int}{k:Value->Prop}(h:Lm op kx ky a b k)(t:TypeId)(w:World):
  ∃v,(binOp op t (.int kx a) (.int ky b)).run P w=.ok v w/\v.oneCell'=true/\k v:=by
 cases op
 case shl =>
  obtain⟨h0,r,rfl,hk⟩:=h;exact⟨_,by simp[binOp,Op.shift,Int.not_lt.2 h0],rfl,hk⟩
 case shr =>
  obtain⟨h0,r,rfl,hk⟩:=h;exact⟨_,by simp[binOp,Op.shift,Int.not_lt.2 h0],rfl,hk⟩
 all_goals
  simp only[Lm]at h;obtain⟨hc,h1⟩:=cond_prop h;clear h;obtain rfl:=Sv hc;clear hc
 case add =>
  cases kx<;>first|(obtain⟨r,rfl,hk⟩:=h1;exact⟨_,by simp[binOp,s_],rfl,hk⟩)|(rcases h1 with⟨h1,hk⟩|⟨r,rfl,hk⟩;exact⟨_,by simp[binOp,s_,h1.wrap],rfl,hk⟩;exact⟨_,by simp[binOp,s_],rfl,hk⟩)
 case sub =>
  cases kx<;>first|(obtain⟨r,rfl,hk⟩:=h1;exact⟨_,by simp[binOp,s_],rfl,hk⟩)|(rcases h1 with⟨h1,hk⟩|⟨r,rfl,hk⟩;exact⟨_,by simp[binOp,s_,h1.wrap],rfl,hk⟩;exact⟨_,by simp[binOp,s_],rfl,hk⟩)
 case mul =>
  cases kx<;>first|(obtain⟨r,rfl,hk⟩:=h1;exact⟨_,by simp[binOp,s_],rfl,hk⟩)|(rcases h1 with⟨h1,hk⟩|⟨r,rfl,hk⟩;exact⟨_,by simp[binOp,s_,h1.wrap],rfl,hk⟩;exact⟨_,by simp[binOp,s_],rfl,hk⟩)
 case quo =>
  obtain⟨h0,r,rfl,hk⟩:=h1;exact⟨_,by simp[binOp,Op.intDiv,h0],rfl,hk⟩
 case rem =>
  obtain⟨h0,r,rfl,hk⟩:=h1;exact⟨_,by simp[binOp,Op.intDiv,h0],rfl,hk⟩
 case and =>
  obtain⟨r,rfl,hk⟩:=h1;exact⟨_,by simp[binOp,KU],rfl,hk⟩
 case or =>
  obtain⟨r,rfl,hk⟩:=h1;exact⟨_,by simp[binOp,KU],rfl,hk⟩
 case xor =>
  obtain⟨r,rfl,hk⟩:=h1;exact⟨_,by simp[binOp,KU],rfl,hk⟩
 case andNot =>
  obtain⟨r,rfl,hk⟩:=h1;exact⟨_,by simp[binOp,KU],rfl,hk⟩
 all_goals exact⟨_,by simp[binOp,Op.intCmp],rfl,h1⟩
inductive oz where
 |int (k:IntKind)|bool|str
inductive CK where
 |one (k:oz)|st (l:List oz)
def vd:CK->List oz
 |.one k=>[k]
 |.st l=>l
def lK(P:Program)(t:TypeId)(k:oz):Bool:=
 match P.underlying t,k with
 |some (.int q),.int k=>q==k
 |some .bool,.bool=>true
 |some .string,.str=>true
 |_,_=>false
def xG(P:Program):Nat->List Field->List oz->Bool
 |_,[],[]=>true
 | o,f :: fs,k :: ks => f.name != "_" && (aM f.offset o && (lK P f.type k && xG P (o + 1) fs ks))
 |_,_,_=>false
def G3(P:Program)(t:TypeId):CK->Bool
 |.one k=>lK P t k
 |.st l=>(match P.underlying t with|some (.struct _)=>true|_=>false)&&(!P.stoodInHeld t&&((match P.info? t with|some i=>aM i.size l.length|none=>false)&&xG P 0 (P.fieldsOf t).toList l))
def Am(P:Program):Nat->List Field->List CK->Bool
 |_,[],[]=>true
 | o,f :: fs,k :: ks => f.name != "_" && (aM f.offset o && (G3 P f.type k && Am P (o + (vd k).length) fs ks))
 |_,_,_=>false
def L2(P:Program)(t:TypeId)(ks:List CK):Bool:=
 match P.underlying t with
 |some (.array n e)=>aM ks.length n&&((match P.info? e with|some i=>aM i.size 1|none=>false)&&ks.all λk=>match k with|.one c=>lK P e c|.st _=>false)
 |_=>false
def Tl(P:Program)(t:TypeId)(ks:List CK):Bool:=
 !P.eqGuardType P.depth t&&(((match P.underlying t with|some (.struct _)=>true|_=>false)&&(!P.stoodInHeld t&&Am P 0 (P.fieldsOf t).toList ks))||L2 P t ks)
def jA:List oz->List AV->List AV->Bool
 |[],[],[]=>true
 |.int k::ks,.v (.int k1 _)::r,.v (.int k2 _)::r'=>k1==k&&(k2==k&&jA ks r r')
 |.bool::ks,.v (.bool _)::r,.v (.bool _)::r'=>jA ks r r'
 |.str::ks,.v (.string _)::r,.v (.string _)::r'=>jA ks r r'
 |_,_,_=>false
def r7:List CK->List AV->List AV->Bool
 |[],[],[]=>true
 |k::ks,xs,ys=>jA (vd k) (xs.take (vd k).length) (ys.take (vd k).length)&&r7 ks (xs.drop (vd k).length) (ys.drop (vd k).length)
 |_,_,_=>false
def eH:List AV->List AV->Bool
 |.v (.int _ a)::r,.v (.int _ b)::r'=>a==b&&eH r r'
 |.v (.bool a)::r,.v (.bool b)::r'=>a==b&&eH r r'
 |.v (.string a)::r,.v (.string b)::r'=>a.data.toList==b.data.toList&&eH r r'
 |_,_=>true
def z6{a b:IntKind}(h:(a==b)=true):a=b:=by
 cases a<;>cases b<;>first|rfl|exact absurd h (by decide)
def sR{P:Program}{w:World}{t:TypeId}{k:oz}{us:Array Value}{o:Nat}{v:Value}(hk:lK P t k=true)(h:us[o]?=V v):(part t us o).run P w=.ok v w:=by
 unfold lK at hk;split at hk;iterate 3 (rename_i hu;simp[part,isAgg,run_underlying hu,h])
 .cases hk
def PB{P:Program}{w:World}{us vs:Array Value}{d:Nat}:∀(fs:List Field)(ks:List oz)(xs ys:List AV)(o:Nat),xG P o fs ks=true->jA ks xs ys=true ->
  (∀i x,xs[i]?=V (.v x)->us[o+i]?=V x)->(∀i x,ys[i]?=V (.v x)->vs[o+i]?=V x)->(xc (d+1) us vs fs).run P w=.ok (eH xs ys) w
 |[],[],[],[],_,_,_,_,_=>by simp[xc,eH]
 |f::fs,k::ks,xs,ys,o,hf,hk,hx,hy=>by
  simp only[xG,bR,bne_iff_ne]at hf;obtain⟨HW,vM,eU,nS⟩:=hf;have vM:f.offset=o:=cT vM
  have hu:∃td,P.underlying f.type=V td:=by
   unfold lK at eU;cases h:P.underlying f.type with
   |none=>rw[h]at eU;cases eU
   |some td=>exact⟨td,rfl⟩
  have go:∀{x y:Value}{r r':List AV}{b:Bool},xs=.v x::r->ys=.v y::r'->jA ks r r'=true->(uM (d+1) f.type x y).run P w=.ok b w->eH xs ys=(b&&eH r r')->(xc (d+1) us vs (f::fs)).run P w=.ok (eH xs ys) w:=by
   intro x y r r' b ex ey jE he hb;subst ex;subst ey;have h1:=sR (w:=w) eU (hx 0 x rfl);have h2:=sR (w:=w) eU (hy 0 y rfl);rw[l8]at h1 h2;have ih:=PB (P:=P) (w:=w) (us:=us) (vs:=vs) (d:=d) fs ks r r' (o+1) nS jE (λi x h=>by have:=hx (i+1) x (by simpa using h);rwa [show o+1+i=o+(i+1) by omega]) (λi x h=>by have:=hy (i+1) x (by simpa using h);rwa [show o+1+i=o+(i+1) by omega]);rw[hb];simp only[xc,if_pos HW,kP,vM,h1,h2,he,mL,Sem.run_ite];cases b
   .simp
   .simp[ih]
  unfold jA at hk;split at hk
  .rename_i e;cases e
  .rename_i e;cases e;simp only[bR]at hk;have C4:=z6 hk.1;have LM:=z6 hk.2.1;subst C4;subst LM;unfold lK at eU;split at eU
   .rename_i jq e;cases e;exact go rfl rfl hk.2.2 (run_equalIn_int w d f.type _ _ _ _ jq) rfl
   iterate 2 (rename_i e;cases e)
   .cases eU
  .rename_i e;cases e;unfold lK at eU;split at eU
   .rename_i e;cases e
   .rename_i jq e;exact go rfl rfl hk (run_equalIn_bool' w d f.type _ _ jq) rfl
   .rename_i e;cases e
   .cases eU
  .rename_i e;cases e;unfold lK at eU;split at eU;iterate 2 (rename_i e;cases e)
   .rename_i jq e;exact go rfl rfl hk (run_equalIn_string w d f.type _ _ jq) (by rw[Cw,Cw];rfl)
   .cases eU
  .cases hk
 |[],_::_,_,_,_,h,_,_,_=>by simp[xG]at h
 |_::_,[],_,_,_,h,_,_,_=>by simp[xG]at h
 |[],[],_::_,_,_,_,h,_,_=>by simp[jA]at h
 |[],[],[],_::_,_,_,h,_,_=>by simp[jA]at h
def C_:∀{l:List oz}{a b:List AV},jA l a b=true->a.length=l.length/\b.length=l.length:=by
 intro l;induction l with
 |nil =>
  intro a b h;unfold jA at h;split at h<;>simp_all
 |cons k ks ih =>
  intro a b h;unfold jA at h;split at h
  .rename_i e;cases e
  .rename_i e;cases e;simp only[bR]at h;have:=ih h.2.2;simp[this.1,this.2]
  .rename_i e;cases e;have:=ih h;simp[this.1,this.2]
  .rename_i e;cases e;have:=ih h;simp[this.1,this.2]
  .cases h
def ab2:∀{l:List oz}{a b:List AV}(r r':List AV),jA l a b=true->eH (a++r) (b++r')=(eH a b&&eH r r'):=by
 intro l;induction l with
 |nil =>
  intro a b r r' h;unfold jA at h;split at h<;>simp_all[eH]
 |cons k ks ih =>
  intro a b r r' h;unfold jA at h;split at h
  .rename_i e;cases e
  .rename_i e;cases e;simp only[bR]at h;simp only[Cz,eH,ih r r' h.2.2,Rm]
  .rename_i e;cases e;simp only[Cz,eH,ih r r' h,Rm]
  .rename_i e;cases e;simp only[Cz,eH,ih r r' h,Rm]
  .cases h
def X8{P:Program}{w:World}{t:TypeId}{l:List oz}{us:Array Value}{o:Nat}(hk:G3 P t (.st l)=true):(part t us o).run P w=.ok (.agg (us.extract o (o+l.length))) w:=by
 simp only[G3,bR]at hk;obtain⟨h1,_,h3,_⟩:=hk;cases hi:P.info? t with
 |none=>rw[hi]at h3;cases h3
 |some i =>
  rw[hi]at h3;have hs:i.size=l.length:=cT h3;cases hu:P.underlying t with
  |none=>rw[hu]at h1;cases h1
  |some d =>
   rw[hu]at h1
   cases d<;>first|(cases h1;done)|skip
   simp[part,isAgg,run_underlying hu,sizeOf,typeInfo,hi,hs]
def X7{P:Program}{w:World}{us vs:Array Value}{d:Nat}:∀(fs:List Field)(ks:List CK)(xs ys:List AV)(o:Nat),Am P o fs ks=true->r7 ks xs ys=true ->
  (∀i x,xs[i]?=V (.v x)->us[o+i]?=V x)->(∀i x,ys[i]?=V (.v x)->vs[o+i]?=V x)->(xc (d+2) us vs fs).run P w=.ok (eH xs ys) w
 |[],[],[],[],_,_,_,_,_=>by simp[xc,eH]
 |[],_::_,_,_,_,h,_,_,_=>by simp[Am]at h
 |_::_,[],_,_,_,h,_,_,_=>by simp[Am]at h
 |[],[],_::_,_,_,_,h,_,_=>by simp[r7]at h
 |[],[],[],_::_,_,_,h,_,_=>by simp[r7]at h
 |f::fs,k::ks,xs,ys,o,hf,hk,hx,hy=>by
  simp only[Am,bR,bne_iff_ne]at hf;obtain⟨HW,vM,eU,nS⟩:=hf;have vM:f.offset=o:=cT vM;simp only[r7,bR]at hk;obtain⟨ek,dz⟩:=hk;obtain⟨m,hm⟩:∃m,m=(vd k).length:=⟨_,rfl⟩;rw[<-hm]at ek dz nS;have hlen:=C_ ek;rw[<-hm]at hlen
  have He:eH xs ys=(eH (xs.take m) (ys.take m)&&eH (xs.drop m) (ys.drop m)):=by
   have:=ab2 (xs.drop m) (ys.drop m) ek;rwa [qL,qL]at this
  have ih:=X7 (P:=P) (w:=w) (us:=us) (vs:=vs) (d:=d) fs ks (xs.drop m) (ys.drop m) (o+m) nS dz
   (λi x h=>by rw[iN]at h;have:=hx (m+i) x h;rwa [show o+m+i=o+(m+i) by omega])
   (λi x h=>by rw[iN]at h;have:=hy (m+i) x h;rwa [show o+m+i=o+(m+i) by omega])
  have fN:∀i x,(xs.take m)[i]?=V (.v x)->us[o+i]?=V x:=λi x h=>by
   have hi:=(eZ.1 h).1;rw[Z7 (by rw[hlen.1]at hi;exact hi)]at h;exact hx i x h
  have qt:∀i x,(ys.take m)[i]?=V (.v x)->vs[o+i]?=V x:=λi x h=>by
   have hi:=(eZ.1 h).1;rw[Z7 (by rw[hlen.2]at hi;exact hi)]at h;exact hy i x h
  generalize xs.take m=a at ek He fN hlen;generalize ys.take m=b at ek He qt hlen;rw[He];clear He
  have key:∃x y,(part f.type us o).run P w=.ok x w/\(part f.type vs o).run P w=.ok y w/\(uM (d+2) f.type x y).run P w=.ok (eH a b) w:=by
   cases k with
   |one k =>
    have mX:lK P f.type k=true:=eU;have fo:(xc (d+2) us vs [f]).run P w=.ok (eH a b) w:=
     PB (P:=P) (w:=w) (us:=us) (vs:=vs) (d:=d+1) [f] [k] a b o (by simp[xG,HW,vM,mX]) ek fN qt
    unfold jA at ek;simp only[vd]at ek;split at ek
    .rename_i e;cases e
    .rename_i e;cases e;have h1:=sR (w:=w) mX (fN 0 _ rfl);have h2:=sR (w:=w) mX (qt 0 _ rfl);rw[l8]at h1 h2;simp only[bR]at ek;have C4:=z6 ek.1;have LM:=z6 ek.2.1;subst C4;subst LM;have pL:=C_ ek.2.2;have ha:=qJ.1 pL.1;have hb:=qJ.1 pL.2;subst ha;subst hb;refine⟨_,_,h1,h2,?_⟩;unfold lK at mX;split at mX
     .rename_i jq e;cases e;rw[run_equalIn_int w (d+1) f.type _ _ _ _ jq];simp[eH]
     iterate 2 (rename_i e;cases e)
     .cases mX
    .rename_i e;cases e;have h1:=sR (w:=w) mX (fN 0 _ rfl);have h2:=sR (w:=w) mX (qt 0 _ rfl);rw[l8]at h1 h2;have pL:=C_ ek;have ha:=qJ.1 pL.1;have hb:=qJ.1 pL.2;subst ha;subst hb;refine⟨_,_,h1,h2,?_⟩;unfold lK at mX;split at mX
     .rename_i e;cases e
     .rename_i jq e;rw[run_equalIn_bool' w (d+1) f.type _ _ jq];simp[eH]
     .rename_i e;cases e
     .cases mX
    .rename_i e;cases e;have h1:=sR (w:=w) mX (fN 0 _ rfl);have h2:=sR (w:=w) mX (qt 0 _ rfl);rw[l8]at h1 h2;have pL:=C_ ek;have ha:=qJ.1 pL.1;have hb:=qJ.1 pL.2;subst ha;subst hb;refine⟨_,_,h1,h2,?_⟩;unfold lK at mX;split at mX;iterate 2 (rename_i e;cases e)
     .rename_i jq e;rw[run_equalIn_string w (d+1) f.type _ _ jq,Cw,Cw];simp[eH]
     .cases mX
    .cases ek
   |st l =>
    have j8:m=l.length:=hm;refine⟨_,_,X8 eU,X8 eU,?_⟩;simp only[G3,bR,lC]at eU;obtain⟨h1,h2,_,h4⟩:=eU
    have yv:P.underlying f.type=V (.struct (P.fieldsOf f.type)):=by
     unfold aah;cases hd:P.underlying f.type with
     |none=>rw[hd]at h1;cases h1
     |some dd =>
      rw[hd]at h1
      cases dd<;>first|rfl|cases h1
    rw[run_equalIn_struct w (d+1) f.type _ _ yv h2];refine PB (P:=P) (w:=w) (d:=d) _ l a b 0 h4 ek (λi x h=>?_) λi x h=>?_
    .have hi:=(eZ.1 h).1;rw[j3,ZK];have hu:=fN i x h;have Ξ:o+i<us.size:=(lB.1 hu).1;rw[if_pos (by omega)];exact hu
    .have hi:=(eZ.1 h).1;rw[j3,ZK];have hu:=qt i x h;have Ξ:o+i<vs.size:=(lB.1 hu).1;rw[if_pos (by omega)];exact hu
  obtain⟨x,y,p1,p2,p3⟩:=key;simp only[xc,if_pos HW,kP,vM,p1,p2,p3,mL,Sem.run_ite];cases eH a b
  .simp
  .simp[ih]
def agt{P:Program}{w:World}{e:TypeId}{c:oz}{x y:Value}{d:Nat}(hc:lK P e c=true)(hf:jA [c] [.v x] [.v y]=true):(uM (d+1) e x y).run P w=.ok (eH [.v x] [.v y]) w:=by
 unfold jA at hf;split at hf
 .rename_i h;cases h
 .rename_i h1 h2 h3;cases h1;cases h2;cases h3;simp only[bR]at hf;have e2:=z6 hf.1;have e3:=z6 hf.2.1;subst e2;subst e3;unfold lK at hc;split at hc
  .rename_i hu h;cases h;rw[run_equalIn_int w d e _ _ _ _ hu];simp[eH]
  iterate 2 (rename_i h;cases h)
  .cases hc
 .rename_i h1 h2 h3;cases h1;cases h2;cases h3;unfold lK at hc;split at hc
  .rename_i h;cases h
  .rename_i hu h;rw[run_equalIn_bool' w d e _ _ hu];simp[eH]
  .rename_i h;cases h
  .cases hc
 .rename_i h1 h2 h3;cases h1;cases h2;cases h3;unfold lK at hc;split at hc;iterate 2 (rename_i h;cases h)
  .rename_i hu h;rw[run_equalIn_string w d e _ _ hu,Cw,Cw];simp[eH]
  .cases hc
 .cases hf
def ab3{x y:Value}{r r':List AV}{c:oz}(h:jA [c] [.v x] [.v y]=true):eH (.v x::r) (.v y::r')=(eH [.v x] [.v y]&&eH r r'):=by
 unfold jA at h;split at h<;>simp_all[eH]
def aca{c:oz}{a b:List AV}(h:jA [c] a b=true):∃x y,a=[.v x]/\b=[.v y]:=by
 have hl:=C_ h
 rcases a with _|⟨x,_|⟨x',a⟩⟩<;>rcases b with _|⟨y,_|⟨y',b⟩⟩<;>simp at hl
 unfold jA at h;split at h<;>simp_all
def ags{P:Program}{w:World}{us vs:Array Value}{e:TypeId}{d:Nat}:∀(ks:List CK)(xs ys:List AV)(o:Nat),(ks.all λk=>match k with|.one c=>lK P e c|.st _=>false)=true->r7 ks xs ys=true ->
  (∀i x,xs[i]?=V (.v x)->us[o+i]?=V x)->(∀i x,ys[i]?=V (.v x)->vs[o+i]?=V x)->(ak7 (d+1) e 1 us vs (List.range' o ks.length)).run P w=.ok (eH xs ys) w:=by
 intro ks;induction ks with
 |nil =>
  intro xs ys o _ hf _ _
  rcases xs with _|⟨x,xs⟩<;>rcases ys with _|⟨y,ys⟩<;>simp[r7]at hf
  simp[ak7,eH]
 |cons k ks ih =>
  intro xs ys o ha hf hx hy;simp only[List.all_cons,bR]at ha;cases k with
  |st l=>exact absurd ha.1 (by simp)
  |one c =>
   simp only[r7,bR]at hf;obtain⟨sr,HM⟩:=hf;obtain⟨x,y,e1,e2⟩:=aca sr;change xs.take 1=_ at e1;change ys.take 1=_ at e2
   obtain⟨r,rfl⟩:∃r,xs=.v x::r:=by
    cases xs with
    |nil=>cases e1
    |cons a r=>simp only[aac,ak6,Gs,and_true]at e1;exact⟨r,by rw[e1]⟩
   obtain⟨r',rfl⟩:∃r,ys=.v y::r:=by
    cases ys with
    |nil=>cases e2
    |cons a r=>simp only[aac,ak6,Gs,and_true]at e2;exact⟨r,by rw[e2]⟩
   have HN:jA [c] [.v x] [.v y]=true:=sr;have h1:=sR (w:=w) ha.1 (hx 0 x rfl);have h2:=sR (w:=w) ha.1 (hy 0 y rfl);rw[l8]at h1 h2;have h3:=agt (d:=d) (w:=w) ha.1 HN;have hr:=ih r r' (o+1) ha.2 HM (λi x h=>by have:=hx (i+1) x (by simpa using h);rwa [show o+1+i=o+(i+1) by omega]) (λi x h=>by have:=hy (i+1) x (by simpa using h);rwa [show o+1+i=o+(i+1) by omega]);rw[ab3 HN,bV,List.range'_succ];simp only[ak7,kP,Nat.mul_one,h1,h2,h3,mL];cases eH [.v x] [.v y]
   .simp
   .simp[hr]
def agr{P:Program}{w:World}{us vs:Array Value}{t:TypeId}{d:Nat}{ks:List CK}{xs ys:List AV}(h:L2 P t ks=true)(hf:r7 ks xs ys=true)
  (hx:∀i x,xs[i]?=V (.v x)->us[0+i]?=V x) (hy:∀i x,ys[i]?=V (.v x)->vs[0+i]?=V x):(uM (d+2) t (.agg us) (.agg vs)).run P w=.ok (eH xs ys) w:=by
 unfold L2 at h;split at h
 .rename_i n e hu;simp only[bR]at h;obtain⟨hn,hi,ha⟩:=h;have hn:=cT hn;cases tZ:P.info? e with
  |none=>rw[tZ]at hi;cases hi
  |some i =>
   rw[tZ]at hi;have hi:=cT hi;rw[run_equalIn_array w (d+1) us vs hu tZ]
   have hc:P.cellsOf e=1:=by simp[Program.cellsOf,tZ,hi]
   rw[hc,<-hn,List.range_eq_range'];exact ags ks xs ys 0 ha hf hx hy
 .cases h
def dP(id:Nat):Hp->Option Chunk
 |[]=>none
 |(i,c)::r=>bif aM i id then V c else dP id r
def fk{id:Nat}{H:Hp}{c:Chunk}(h:dP id H=V c):(id,c)∈H:=by
 induction H with
 |nil=>cases h
 |cons x r ih =>
  obtain⟨i,c'⟩:=x;simp only[dP]at h;cases hb:aM i id with
  |true =>
   rw[hb]at h;cases h;rw[cT hb];simp
  |false =>
   rw[hb]at h;exact cw _ (ih h)
def fK(F:Nat->Prop)(w w':World):Nat->Prop:=λb=>F b\/(w.heap.size<=b/\b<w'.heap.size)
def Below.agree{w w':World}{F:Nat->Prop}(h:Below w.heap.size w w')(hF:∀b,F b->b<w.heap.size):gn F w w':=λb hb=>h.block b (hF b hb)
def Rd.later{w w':World}{F:Nat->Prop}{β:Nat->Value}{x:AV}{u:Value}(h:Rd w F β x u)(hb:Below w.heap.size w w')(hF:∀b,F b->b<w.heap.size):Rd w' (fK F w w') β x u:=
 h.frame (Below.agree hb hF) λ_ h=>.inl h
def tn(P:Program)(s:Sem Next)(w:World)(post:Value->World->Prop):Prop:=
 (∃v w',s.run P w=.ok (.value v) w'/\Below w.heap.size w w'/\post v w') \/
 (∃g vs,s.run P w=.ok (.enter g vs) w/\Calls P g vs w λe w'=>∃v,e=.returned v/\Below w.heap.size w w'/\post v w')
def qb(P:Program)(g:FuncId):Prop :=∃ fn c,P.funcs[g]?=V fn /\ (fn.name == "runtime.NumGoroutine")=false /\ fn.body=V c
def xo(P:Program)(g:FuncId)(args:List AV)(H:Hp)(r:AV):Prop:=
 qb P g/\∀(w:World)(F:Nat->Prop)(β:Nat->Value)(vs:Array Value),Inv w F β H->vs.size=args.length ->
  (∀i,i<args.length->Rd w F β (args.getD i .Δ) (vs.getD i undef)) ->
  Calls P g vs w λe w'=>∃v,e=.returned v/\Below w.heap.size w w'/\bq w' (fK F w w') r v
abbrev Pure(P:Program)(g:FuncId)(args:List AV)(r:AV):Prop:=xo P g args [] r
def PR(c a b:AV)(k:AV->Prop):Prop:=
 match c with
 |.v (.bool true)=>k a
 |.v (.bool false)=>k b
 |_=>False
def PI(t:AV)(i:Nat)(k:AV->Prop):Prop:=
 match t with
 |.t vs=>bif Nat.blt i vs.length then k (vs.getD i .Δ)else False
 |_=>False
def PT(op:UnOp)(x:AV)(k:AV->Prop):Prop:=
 match op,x with
 |.not,.v (.bool b)=>k (.v (.bool (!b)))
 |.neg,.v (.int kd n)=>∃r,kd.wrap (0-n)=r/\k (.v (.int kd r))
 |_,_=>False
def Qp(op:BinOp)(a b:ByteArray)(k:Value->Prop):Prop:=
 match op with
 |.add=>a.size+b.size<=9223372036854775807/\∃r,a++b=r/\k (.string r)
 |.eql=>∃r:Bool,(a.toList==b.toList)=r/\k (.bool r)
 |.neq=>∃r:Bool,(!(a.toList==b.toList))=r/\k (.bool r)
 |.lss=>∃r:Bool,eB a.toList b.toList=r/\k (.bool r)
 |.leq=>∃r:Bool,(eB a.toList b.toList||a.toList==b.toList)=r/\k (.bool r)
 |.gtr=>∃r:Bool,(!(eB a.toList b.toList||a.toList==b.toList))=r/\k (.bool r)
 |.geq=>∃r:Bool,(!Op.bytesLess a.toList b.toList)=r/\k (.bool r)
 |_=>False
def PD(P:Program)(T:TT)(op:BinOp)(t:Nat)(x y:AV)(k:AV->Prop):Prop:=
 match x,y with
 |.v (.int kx a),.v (.int ky b)=>Lm op kx ky a b λv=>k (.v v)
 |.v (.string a),.v (.string b)=>Qp op a b λv=>k (.v v)
 |.v (.bool a),.v (.bool b) =>
  match T t with
  |some i=>match i.kind with
   |.bool=>match op with
    |.eql=>k (.v (.bool (a==b)))
    |.neq=>k (.v (.bool (!(a==b))))
    |_=>False
   |_=>False
  |none=>False
 |.s rows,.v (.slice none 0 0) =>
  match T t with
  |some i=>match i.kind with
   |.slice _=>match op with
    |.eql=>∀b:Bool,(b=true->rows=[])->k (.v (.bool b))
    |.neq=>∀b:Bool,(b=false->rows=[])->k (.v (.bool b))
    |_=>False
   |_=>False
  |none=>False
 |.a xs,.a ys=>∃ks,Tl P t ks=true/\bif r7 ks xs ys then
   match op with
   |.eql=>k (.v (.bool (eH xs ys)))
   |.neq=>k (.v (.bool (!eH xs ys)))
   |_=>False
  else False
 |_,_=>False
def Ll{c:Bool}{p:Prop}(hc:c=true)(h:p):bif c then p else False:=by rw[hc];exact h
def lM(b:UInt8):List AV:=[.v (.int .u8 (b.toNat:Int))]
def PG(T:TT)(src dst:Nat)(x:AV)(k:AV->Prop):Prop:=
 match T src,T dst with
 |some i,V j =>
  match j.kind,x with
  |.int kd,.v (.int _ n)=>∃r,kd.wrap n=r/\k (.v (.int kd r))
  |.str,.v (.string s)=>k (.v (.string s))
  |.slice e,.v (.string s) =>
   match T e with
   |some je=>match je.kind with
    |.int .u8=>s.size<=maxLen/\k (.s (s.data.toList.map lM))
    |_=>False
   |none=>False
  |.str,.s rows =>
   match i.kind with
   |.slice e=>match T e with
    |some je=>match je.kind with
     |.int .u8=>∃l:List UInt8,rows=l.map lM/\k (.v (.string ⟨l.toArray⟩))
     |_=>False
    |none=>False
   |_=>False
  |_,_=>False
 |_,_=>False
def Ld(x:AV)(off:Nat)(k:AV->Prop):Prop:=
 match x with
 |.b id o=>k (.b id (o+off))
 |.p cells=>k (.p (cells.drop off))
 |.e id K i j=>k (.e id K i (j+off))
 |_=>False
def PJ(T:TT)(t:Nat)(x:AV)(f:Nat)(k:AV->Prop):Prop:=
 match T t with
 |some i=>match i.kind with
  |.struct fs=>match fs[f]? with
   |some (off,ty)=>match T ty with
    |some j=>bif aM j.cells 0 then False else Ld x off k
    |none=>False
   |none=>False
  |_=>False
 |none=>False
def Be(i:TI)(cells:List AV)(off:Nat)(k:AV->Prop):Prop:=
 bif p9 (off+i.cells) cells.length then
  bif qd i.kind then∃c,(cells.drop off).take i.cells=c/\k (.a c)
  else bif aM i.cells 1 then∃x,cells[off]?=V x/\k x else False
 else False
def BP(T:TT)(t:Nat)(x:AV)(H:Hp)(k:AV->Prop):Prop:=
 match T t with
 |some i=>match x with
  |.b id off=>match dP id H with
   |some (.box cells)=>Be i cells off k
   |_=>False
  |.p cells=>Be i cells 0 k
  |.e id K m j=>match dP id H with
   |some (.own _ K' rows)=>∃row,rows[m]?=V row/\K=K'/\Be i row j k
   |_=>False
  |_=>False
 |none=>False
def PL(T:TT)(t:Nat)(x i:AV)(H:Hp)(k:AV->Prop):Prop:=
 match T t with
 |some ti=>match ti.kind with
  |.slice e=>match T e with
   |some j=>match x,i with
    |.s rows,.v (.int _ n)=>∃m:Nat,n=(m:Int)/\∃row,rows[m]?=V row/\(bif aM row.length j.cells then k (.p row)else False)
    |.o id,.v (.int _ n)=>match dP id H with
     |some (.own _ K rows)=>bif aM K j.cells then∃m:Nat,n=(m:Int)/\m<rows.length/\k (.e id K m 0)else False
     |_=>False
    |.w id Kw d,.v (.int _ n)=>match dP id H with
     |some (.own _ K rows)=>bif aM K j.cells&&aM Kw K then∃m:Nat,n=(m:Int)/\d+m<rows.length/\k (.e id K (d+m) 0)else False
     |_=>False
    |_,_=>False
   |none=>False
  |.arr len e=>match T e with
   |some j=>match x,i with
    |.b id off,.v (.int _ n)=>∃m:Nat,n=(m:Int)/\m<len/\k (.b id (off+m*j.cells))
    |.p cells,.v (.int _ n)=>∃m:Nat,n=(m:Int)/\m<len/\k (.p (cells.drop (m*j.cells)))
    |_,_=>False
   |none=>False
  |_=>False
 |none=>False
def PK(T:TT)(t:Nat)(x i:AV)(k:AV->Prop):Prop:=
 match T t with
 |some ti=>match ti.kind,x,i with
  |.str,.v (.string s),.v (.int _ n)=>∃m:Nat,n=(m:Int)/\∃b:UInt8,s.data.toList[m]?=V b/\k (.v (.int .u8 (b.toNat:Int)))
  |.arr len e,.a cells,.v (.int _ n)=>match T e with
   |some j=>bif qd j.kind then False else bif aM j.cells 1 then∃m:Nat,n=(m:Int)/\m<len/\∃c,cells[m]?=V c/\k c else False
   |none=>False
  |_,_,_=>False
 |none=>False
def rW(x:Option AV)(d:Nat)(k:Nat->Prop):Prop:=
 match x with
 |none=>k d
 |some (.v (.int _ n))=>∃m:Nat,n=(m:Int)/\k m
 |_=>False
def PS(T:TT)(t:Nat)(x:AV)(lo hi mx:Option AV)(H:Hp)(k:AV->Prop):Prop:=
 match T t,mx with
 |some ti,none=>match ti.kind,x with
  |.slice e,.s rows=>match T e with
   |some j=>rW lo 0 λl=>rW hi rows.length λh=>l<=h/\h<=rows.length/\(∀i,i<rows.length->(rows.getD i []).length=j.cells)/\∃r,(rows.take h).drop l=r/\k (.s r)
   |none=>False
  |.slice e,.o id=>match T e with
   |some j=>match dP id H,hi with
    |some (.own _ K rows),none=>bif aM K j.cells then rW lo 0 λl=>l<=rows.length/\k (.w id K l)else False
    |_,_=>False
   |none=>False
  |.slice e,.w id Kw d=>match T e with
   |some j=>match dP id H,hi with
    |some (.own _ K rows),none=>bif aM K j.cells&&aM Kw K then rW lo 0 λl=>d+l<=rows.length/\k (.w id K (d+l))else False
    |_,_=>False
   |none=>False
  |.slice e,.v (.slice none 0 0)=>match T e with
   |some _=>rW lo 0 λl=>rW hi 0 λh=>l<=h/\h<=0/\k (.v (.slice none 0 0))
   |none=>False
  |.str,.v (.string s)=>rW lo 0 λl=>rW hi s.size λh=>l<=h/\h<=s.size/\∃r,s.extract l h=r/\k (.v (.string r))
  |_,_=>False
 |_,_=>False
def FE(T:TT)(t:Nat)(x:AV)(lo hi:Option AV)(mx:AV)(k:AV->Prop):Prop:=
 match T t,lo,hi,x,mx with
 |some ti,none,V (.v (.int _ nh)),.s rows,.v (.int _ nm)=>match ti.kind with
  |.slice e=>match T e with
   |some j=>∃h q:Nat,nh=(h:Int)/\nm=(q:Int)/\h<=q/\q<=rows.length/\(∀i,i<rows.length->(rows.getD i []).length=j.cells)/\∃r,rows.take h=r/\k (.s r)
   |none=>False
  |_=>False
 |_,_,_,_,_=>False
def bx:AV->List AV
 |.a cs=>cs
 |x=>[x]
def jH:AV->Bool
 |.a _=>true
 |x=>um x
def Ap(place:Nat->Option (Nat×Nat)):List (Nat×AV)->List AV->Option (List AV)
 |[],cells=>V cells
 |(i,x)::r,cells =>
  match place i with
  |none=>none
  |some (off,size) =>
   bif jH x&&(aM (bx x).length size&&p9 (off+size) cells.length)
   then Ap place r (cells.take off++(bx x++cells.drop (off+size)))else none
def EB(T:TT)(fs:List (Nat×Nat))(i:Nat):Option (Nat×Nat):=
 match fs[i]? with
 |some (off,ty)=>match T ty with
  |some j=>V (off,j.cells)
  |none=>none
 |none=>none
def GN(T:TT):List (Nat×Nat)->Bool
 |[]=>true
 |(_,ty)::r=>(T ty).isSome&&GN T r
def PE(T:TT)(t:Nat)(parts:List (Nat×AV))(k:AV->Prop):Prop:=
 match T t with
 |some i =>
  match bZ i.zero with
  |.a zs=>match i.kind with
   |.struct fs=>bif GN T fs then
     match Ap (EB T fs) parts zs with
     |some cells=>k (.a cells)
     |none=>False
    else False
   |.arr _ e=>match T e with
    |some j=>match Ap (λi=>V (i*j.cells,j.cells)) parts zs with
     |some cells=>k (.a cells)
     |none=>False
    |none=>False
   |_=>False
  |_=>False
 |none=>False
def rowsOf(size:Nat):Nat->List (Nat×AV)->Option (List (List AV))
 |_,[]=>V []
 |n,(i,x)::r=>bif aM i n&&(jH x&&aM (bx x).length size)then(rowsOf size (n+1) r).map (bx x::·)else none
def zn(T:TT)(t len:Nat)(parts:List (Nat×AV))(k:List (List AV)->Nat->Nat->Prop):Prop:=
 match T t with
 |some i=>match i.kind with
  |.slice e=>match T e with
   |some j=>match rowsOf j.cells 0 parts with
    |some rows=>bif aM parts.length len&&(p9 (len*j.cells) 16777216&&!(aM j.cells 0))then k rows e j.cells else False
    |none=>False
   |none=>False
  |_=>False
 |none=>False
def fx:AV->Bool
 |.v _|.s _|.p _|.z=>true
 |_=>false
def kH:AV->Bool
 |.a cs|.t cs=>cs.all fx
 |.c _ fs cs=>fs.all fx&&cs.all fx
 |x=>fx x
def PQ(x:AV)(k:AV->Prop):Prop:=
 match x with
 |.b id off=>k (.b id off)
 |.p cells=>k (.p cells)
 |.e id K i j=>k (.e id K i j)
 |.c (.func g) fs cs=>k (.c (.func g) fs cs)
 |_=>False
def lX(T:TT)(t:Nat)(x:AV)(H:Hp)(k:AV->Prop):Prop:=
 match T t with
 |some i=>match i.kind,x with
  |.slice _,.s rows=>∃n:Nat,rows.length=n/\(n<=maxLen->k (.v (.int .i64 (n:Int))))
  |.slice _,.v (.slice none 0 0)=>k (.v (.int .i64 0))
  |.slice _,.o id=>match dP id H with
   |some (.own _ _ rows)=>∃n:Nat,rows.length=n/\(n<=maxLen->k (.v (.int .i64 (n:Int))))
   |_=>False
  |.slice _,.w id _ d=>match dP id H with
   |some (.own _ _ rows)=>∃n:Nat,rows.length-d=n/\(n<=maxLen->k (.v (.int .i64 (n:Int))))
   |_=>False
  |.map _ _,.m id=>match dP id H with
   |some (.mp _ rows)=>∃n:Nat,rows.length=n/\(n<=140737488355328->k (.v (.int .i64 (n:Int))))
   |_=>False
  |.str,.v (.string s)=>∃n:Nat,s.size=n/\k (.v (.int .i64 (n:Int)))
  |.arr n _,_=>k (.v (.int .i64 (n:Int)))
  |_,_=>False
 |none=>False
def JV(mn:Bool)(xs:List AV)(k:AV->Prop):Prop:=
 match xs with
 |[.v (.int kx a),.v (.int ky b)]=>bif kx==ky then∃r,(if mn then min a b else max a b)=r/\k (.v (.int kx r))else False
 |_=>False
def JT(T:TT)(b:Builtin)(ts:List Nat)(xs:List AV)(H:Hp)(k:AV->Prop):Prop:=
 match b,ts,xs with
 |.len,[t],[x]=>lX T t x H k
 |.cap,[t],[.v (.slice none 0 0)]=>match T t with
  |some i=>match i.kind with
   |.slice _=>k (.v (.int .i64 0))
   |_=>False
  |none=>False
 |.min,_,xs=>JV true xs k
 |.max,_,xs=>JV false xs k
 |_,_,_=>False
def JU(P:Program)(f:AV)(xs:List AV)(H:Hp)(k:AV->Prop):Prop:=
 match f with
 |.c (.func g) fs cs=>∃r,xo P g (fs++(xs++cs)) H r/\k r
 |_=>False
def nz:AV->AV
 |.v (.slice none 0 0)=>.s []
 |x=>x
def PN(T:TT)(t:Nat)(l c:AV)(k:AV->Prop):Prop:=
 match T t,l,c with
 |some i,.v (.int _ nl),.v (.int _ nc)=>match i.kind with
  |.slice e=>match T e with
   |some j=>bif jH (bZ j.zero)&&(aM (bx (bZ j.zero)).length j.cells&&(bx (bZ j.zero)).all fx)then
     ∃n m:Nat,nl=(n:Int)/\nc=(m:Int)/\n<=m/\m<=140737488355328/\m*j.bytes<=140737488355328/\∃R,ia n ((bx (bZ j.zero)).map nz)=R/\k (.s R)
    else False
   |none=>False
  |_=>False
 |_,_,_=>False
def yK(ag:Bool)(y:AV):Option (List AV):=
 match ag,y with
 |true,.a cs=>bif cs.all fx then V cs else none
 |true,_=>none
 |false,.a _=>none
 |false,.c fn [] []=>V [.c fn [] []]
 |false,x=>bif fx x then V [x]else none
def PM(T:TT)(t:Nat)(m i:AV)(c:Bool)(H:Hp)(k:AV->Prop):Prop:=
 match T t with
 |some ti=>match ti.kind with
  |.map kt e=>match T kt,T e with
   |some ik,V ie=>match ik.kind,m,i with
    |.int .i64,.m id,.v (.int .i64 n)=>match dP id H,yK (qd ie.kind) (bZ ie.zero)with
     |some (.mp ag rows),V zc=>bif ag==qd ie.kind then∃r,(ei n rows).getD (zc.map nz)=r/\(bif c then∃b,(ei n rows).isSome=b/\k (.t [rG ag r,.v (.bool b)])else k (rG ag r))else False
     |_,_=>False
    |_,_,_=>False
   |_,_=>False
  |_=>False
 |none=>False
def nr(P:Program)(T:TT)(o:Oper)(ρ:Operand->AV)(H:Hp)(k:AV->Prop):Prop:=
 match o.op with
 |.move x=>k (ρ x)
 |.assign x=>k (ρ x)
 |.pick c a b=>PR (ρ c) (ρ a) (ρ b) k
 |.extract t i=>PI (ρ t) i k
 |.unOp op _ x=>PT op (ρ x) k
 |.binOp op t x y _=>PD P T op t (ρ x) (ρ y) k
 |.convert src dst x=>PG T src dst (ρ x) k
 |.fieldAddr t x f=>PJ T t (ρ x) f k
 |.load t x=>BP T t (ρ x) H k
 |.indexAddr t x i=>PL T t (ρ x) (ρ i) H k
 |.index t x i=>PK T t (ρ x) (ρ i) k
 |.slice t x lo hi mx=>match mx with
  |none=>PS T t (ρ x) (lo.map ρ) (hi.map ρ) none H k
  |some m=>FE T t (ρ x) (lo.map ρ) (hi.map ρ) (ρ m) k
 |.build t parts=>PE T t (parts.toList.map λq=>(q.1,ρ q.2)) k
 |.buildSlice t len parts=>zn T t len (parts.toList.map λq=>(q.1,ρ q.2)) λrows _ _=>bif rows.all (λr=>r.all fx)then k (.s (rows.map λr=>r.map nz))else False
 |.makeFunc fn fs cs=>k (.c fn (fs.toList.map ρ) (cs.toList.map ρ))
 |.nilCheck x=>PQ (ρ x) k
 |.lookup t x i c=>PM T t (ρ x) (ρ i) c H k
 |.makeSlice t l c=>PN T t (ρ l) (ρ c) k
 |.call c=>match c.callee with
  |.builtin b=>JT T b c.argTypes.toList (c.args.toList.map ρ) H k
  |.value f=>JU P (ρ f) (c.args.toList.map ρ) H k
  |.invoke _ _=>False
 |_=>False
section
variable{P:Program}{T:TT}{w:World}{F:Nat->Prop}{β:Nat->Value}{H:Hp}{k:AV->Prop}
def Rd.here{x:AV}{u:Value}(h:Rd w F β x u):Rd w (fK F w w) β x u:=h.frame (λ_ _=>rfl) λ_ h=>.inl h
def cj(P:Program)(s:Sem Value)(w:World)(F:Nat->Prop)(β:Nat->Value)(k:AV->Prop):Prop:=
 ∃v w' r,s.run P w=.ok v w'/\Below w.heap.size w w'/\k r/\Rd w' (fK F w w') β r v
def cj.mk{s:Sem Value}{v:Value}{r:AV}(hr:s.run P w=.ok v w)(hk:k r)(hv:Rd w F β r v):cj P s w F β k:=
 ⟨v,w,r,hr,Below.refl _ _,hk,hv.here⟩
def uP(P:Program)(s:Sem Value)(w:World)(F:Nat->Prop)(β:Nat->Value)(k:AV->Prop):Prop:=
 ∃v r,s.run P w=.ok v w/\k r/\Rd w F β r v
def uP.mk{s:Sem Value}{v:Value}{r:AV}(hr:s.run P w=.ok v w)(hk:k r)(hv:Rd w F β r v):uP P s w F β k:=⟨v,r,hr,hk,hv⟩
def uP.gives{s:Sem Value}(h:uP P s w F β k):cj P s w F β k:=by
 obtain⟨v,r,hr,hk,hv⟩:=h;exact cj.mk hr hk hv
def cj.out{s:Sem Value}(h:cj P s w F β k):tn P (do pure (.value (<-s))) w λv w'=>∃r,k r/\Rd w' (fK F w w') β r v:=by
 obtain⟨v,w',r,hr,hb,hk,hv⟩:=h;exact .inl ⟨v,w',by simp[hr],hb,r,hk,hv⟩
def agQ{c a b:AV}{vc va vb:Value}(hc:Rd w F β c vc)(ha:Rd w F β a va)(hb:Rd w F β b vb)(h:PR c a b k):
  tn P (do pure (.value (if <-asBool vc then va else vb))) w λv w'=>∃r,k r/\Rd w' (fK F w w') β r v:=by
 unfold PR at h;split at h
 .cases hc.bK;exact .inl ⟨va,w,by simp[asBool],Below.refl _ _,_,h,ha.here⟩
 .cases hc.bK;exact .inl ⟨vb,w,by simp[asBool],Below.refl _ _,_,h,hb.here⟩
 .cases h
def agH{t:AV}{i:Nat}{vt:Value}(ht:Rd w F β t vt)(h:PI t i k):cj P (ak9 vt i) w F β k:=by
 unfold PI at h;split at h
 .rename_i vs;obtain⟨Ξ,hk⟩:=cond_prop h
  have Ξ:i<vs.length:=by simpa [Nat.blt_eq]using Ξ
  obtain⟨us,rfl,hs,hu⟩:=ht.B6;refine cj.mk (v:=us.getD i undef) ?_ hk (hu i Ξ)
  have hi:i<us.size:=by omega
  simp[ak9,hi]
 .cases h
def agT{op:UnOp}{x:AV}{vx:Value}(hx:Rd w F β x vx)(h:PT op x k):cj P (Op.unary op vx) w F β k:=by
 unfold PT at h;split at h
 .cases hx.bK;exact cj.mk (by simp[Op.unary]) h (.i (.v (.inl rfl)))
 .cases hx.bK;obtain⟨r,rfl,hk⟩:=h;exact cj.mk (by simp[Op.unary,s_]) hk (.i (.v (.inl rfl)))
 .cases h
def ahp{op:BinOp}{a b:ByteArray}{k:Value->Prop}(h:Qp op a b k)(t:TypeId):
  ∃v,(binOp op t (.string a) (.string b)).run P w=.ok v w/\v.oneCell'=true/\k v:=by
 cases op<;>simp only[Qp]at h
 case add =>
  obtain⟨h1,r,rfl,hk⟩:=h
  have:¬((a.size+b.size:Nat):Int)>IntKind.i64.max:=by
   have:IntKind.i64.max=9223372036854775807:=rfl;omega
  exact⟨_,by simp only[binOp,Op.stringOp];rw[if_neg this];rfl,rfl,hk⟩
 all_goals first|exact h.elim|(obtain⟨r,rfl,h⟩:=h;exact⟨_,by simp[binOp,Op.stringOp],rfl,h⟩)
def zm{op:BinOp}{t:TypeId}{x y:Operand}{u v:Value}(hu:u.oneCell'=true)(hn:u≠.nilIface):(eqGuard op t x y u v).run P w=.ok () w:=by
 have hc:eqGuard op t x y u v=if !(op matches .eql|.neq)then(pure ():Sem Unit)else pure ():=by
  unfold eqGuard
  cases u<;>first|(simp[ak8]at hu;done)|exact absurd rfl hn|rfl
 rw[hc];split<;>rfl
def run_equalIn_bool(d:Nat){t:TypeId}(hd:P.underlying t=V .bool)(a b:Bool):(uM (d+1) t (.bool a) (.bool b)).run P w=.ok (a==b) w:=by
 simp[uM,run_underlying hd]
def run_equalIn_slice_nil(d:Nat){t e:TypeId}(hd:P.underlying t=V (.slice e))(a:Option Addr)(n c:Nat):(uM (d+1) t (.slice a n c) (.slice none 0 0)).run P w=.ok a.isNone w:=by
 cases a<;>simp[uM,run_underlying hd]
def agy{op:BinOp}{t:Nat}{x y:AV}{vx vy:Value}(hT:bL P T)(hx:Rd w F β x vx)(hy:Rd w F β y vy)(ox oy:Operand)(h:PD P T op t x y k):
  cj P (do eqGuard op t ox oy vx vy;binOp op t vx vy) w F β k:=by
 unfold PD at h;split at h
 .cases hx.bK;cases hy.bK;obtain⟨v,hr,h1,hk⟩:=aaE (P:=P) h t w;exact cj.mk (v:=v) (by simp[zm (u:=.int _ _) rfl (by simp),hr]) hk (.i (.v (.inl h1)))
 .cases hx.bK;cases hy.bK;obtain⟨v,hr,h1,hk⟩:=ahp (P:=P) (w:=w) h t;exact cj.mk (v:=v) (by simp[zm (u:=.string _) rfl (by simp),hr]) hk (.i (.v (.inl h1)))
 .cases hx.bK;cases hy.bK;rename_i a b;split at h
  .rename_i i hi;obtain⟨d,hd,UE⟩:=(hT _ _ hi).oi;split at h
   .rename_i acA;rw[acA]at UE
    have bF:P.underlying t=V .bool:=by cases d<;>simp[rU]at UE;exact hd
    have he:(Op.equal t (.bool a) (.bool b)).run P w=.ok (a==b) w:=by
     exact run_equalIn_bool 9999 bF a b
    split at h
    .exact cj.mk (by simp[zm (u:=.bool _) rfl (by simp),binOp,he]) h (.i (.v (.inl rfl)))
    .exact cj.mk (by simp[zm (u:=.bool _) rfl (by simp),binOp,he]) h (.i (.v (.inl rfl)))
    .cases h
   .cases h
  .cases h
 .rename_i rows;cases hy.bK;split at h
  .rename_i i hi;split at h
   .rename_i e he;have hu:=(hT _ _ hi).slice he
    obtain⟨a,n,c,rfl,ha⟩:∃a n c,vx=.slice a n c/\(a=none->rows=[]):=by
     have hs:=hx.oX;cases hs with
     |s0=>exact⟨_,_,_,rfl,λ_=>rfl⟩
     |s=>exact⟨_,_,_,rfl,λh=>by cases h⟩
    have eN:(Op.equal t (.slice a n c) (.slice none 0 0)).run P w=.ok a.isNone w:=run_equalIn_slice_nil 9999 hu a n c;have hg:=zm (P:=P) (w:=w) (op:=op) (t:=t) (x:=ox) (y:=oy) (u:=.slice a n c) (v:=.slice none 0 0) rfl (by simp);split at h
    .exact cj.mk (by simp[zm (u:=.slice a n c) rfl (by simp),binOp,eN]) (h a.isNone λhn=>ha (by cases a<;>first|rfl|cases hn)) (.i (.v (.inl rfl)))
    .exact cj.mk (by simp[zm (u:=.slice a n c) rfl (by simp),binOp,eN]) (h (!a.isNone) λhn=>ha (by cases a<;>first|rfl|cases hn)) (.i (.v (.inl rfl)))
    .cases h
   .cases h
  .cases h
 .rename_i xs ys;obtain⟨ks,H_,h⟩:=h;obtain⟨jE,h⟩:=cond_prop h;obtain⟨us,rfl,hs,_,hu⟩:=hx.qO;obtain⟨vs,rfl,dG,_,hv⟩:=hy.qO;simp only[Tl,bR,s6,lC]at H_;obtain⟨Uw,H_⟩:=H_
  have cell:∀{zs:List AV}{ws:Array Value},ws.size=zs.length->(∀i,i<zs.length->Rd w F β (zs.getD i .Δ) (ws.getD i undef))->∀i z,zs[i]?=V (.v z)->ws[0+i]?=V z:=by
   intro zs ws bd fE i z hz;obtain⟨hi,g_⟩:=eZ.1 hz;have:=fE i hi;rw[gk,hz,KV]at this;have e:=this.bK;rw[j3,gK (by omega)];rw[lA,gK (by omega),KV]at e;rw[e]
  have heq:(uM 10000 t (.agg us) (.agg vs)).run P w=.ok (eH xs ys) w:=by
   rcases H_ with⟨cO,adG,DD⟩|vA
   .have yv:P.underlying t=V (.struct (P.fieldsOf t)):=by
     unfold aah;cases hd:P.underlying t with
     |none=>rw[hd]at cO;cases cO
     |some d =>
      rw[hd]at cO
      cases d<;>first|rfl|cases cO
    rw[run_equalIn_struct w 9999 t us vs yv adG];exact X7 (P:=P) (w:=w) (us:=us) (vs:=vs) (d:=9997) _ ks xs ys 0 DD jE (cell hs hu) (cell dG hv)
   .exact agr (d:=9998) vA jE (cell hs hu) (cell dG hv)
  split at h
  .exact cj.mk (by simp[run_eqGuard_agg w _ t _ _ us vs Uw,run_eql_struct,heq]) h (.i (.v (.inl rfl)))
  .exact cj.mk (by simp[run_eqGuard_agg w _ t _ _ us vs Uw,run_neq_struct,heq]) h (.i (.v (.inl rfl)))
  .cases h
 .cases h
def Sn{x:AV}{off:Nat}{vx:Value}(hx:Rd w F β x vx)(h:Ld x off k):
  ∃b o r,vx=.pointer (V ⟨b,o,none⟩)/\k r/\Rd w F β r (.pointer (V ⟨b,o+off,none⟩)):=by
 unfold Ld at h;split at h
 .obtain⟨fV,hb,rfl⟩:=hx.mP;exact⟨_,_,_,rfl,h,.b hb⟩
 .rename_i cells;have hp:=hx.Bp;cases hp with
  |p hb eT fo fE =>
   rename_i b o u;refine⟨_,_,_,rfl,h,.i ?_⟩;refine .p (u:=λj=>u (off+j)) hb (λj hj=>?_) (λj hj=>?_) (λj hj=>?_)
   .simp at hj;rw[Gw];exact eT _ (by omega)
   .simp at hj;exact fo _ (by omega)
   .simp at hj;have:=fE (off+j) (by omega);simpa [bc,iN]using this
 .obtain⟨g,n,c,hb,rfl⟩:=hx.Al;refine⟨_,_,_,rfl,h,?_⟩;rw[Gw];exact .e hb
 .cases h
def agI{t f:Nat}{x:AV}{vx:Value}(hT:bL P T)(hx:Rd w F β x vx)(h:PJ T t x f k):cj P (ak_ t vx f) w F β k:=by
 unfold PJ at h;split at h
 .rename_i i hi;split at h
  .rename_i fs DD;split at h
   .rename_i off ty hf;split at h
    .rename_i j hj;cases hz:aM j.cells 0 with
     |true=>rw[hz]at h;cases h
     |false =>
      rw[hz]at h;obtain⟨b,o,r,rfl,hk,hr⟩:=Sn hx h;obtain⟨fields,hu,hm⟩:=(hT _ _ hi).struct DD
      have hff:∃fd,fields[f]?=V fd/\fd.offset=off/\fd.type=ty:=by
       rw[<-hm]at hf;simp only[o_,Option.map_eq_some_iff]at hf;obtain⟨fd,h1,h2⟩:=hf;cases h2;exact⟨fd,by simpa using h1,rfl,rfl⟩
      obtain⟨fd,h1,rfl,rfl⟩:=hff;have bd:=(hT _ _ hj).lv w
      have aI:j.cells≠0:=by
       intro h0;rw[h0]at hz;cases hz
      refine cj.mk (v:=.pointer (V ⟨b,o+fd.offset,none⟩)) ?_ hk hr;simp[ak_,run_underlying hu,h1,Gq,fieldPlace,bd,aI,gr]
    .cases h
   .cases h
  .cases h
 .cases h
def Oc{t:Nat}{i:TI}{cells:List AV}{off:Nat}(hi:gO P t i)(h:Be i cells off k){b base:Nat}{u:Nat->Value}
  (eT:∀j,j<cells.length->w.cell? ⟨b,base+j,none⟩=V (u j)) (fo:∀j,j<cells.length->(u j).oneCell'=true)
  (fE:∀j,j<cells.length->Rd w F β (cells.getD j .Δ) (u j)):uP P (Gm t (.pointer (V ⟨b,base+off,none⟩))) w F β k:=by
 unfold Be at h;obtain⟨hle,h⟩:=cond_prop h
 have hle:off+i.cells<=cells.length:=by simpa using hle
 have sf:=hi.JR w;have bd:=hi.lv w;cases hg:qd i.kind with
 |true =>
  rw[hg]at h sf
  have hl:=run_loadCells (P:=P) w ⟨b,base+off,none⟩ i.cells (λj=>u (off+j)) (λj hj=>by
   rw[gr,Gw];exact eT _ (by omega))
  obtain⟨c,rfl,h⟩:=h;refine uP.mk (v:=.agg ((List.range i.cells).map λj=>u (off+j)).toArray) ?_ h ?_
  .simp[Gm,Gq,loadVar,sf,bd,hl]
  .have hlen:((cells.drop off).take i.cells).length=i.cells:=by simp;omega
   refine .a (by simp;omega) (λj hj=>?_) λj hj=>?_
   .rw[hlen]at hj;simpa [wV,hj]using fo (off+j) (by omega)
   .rw[hlen]at hj;have:=fE (off+j) (by omega);simpa [wV,hj,bc,fS,iN]using this
 |false =>
  rw[hg]at h sf;obtain⟨h1,h⟩:=cond_prop h;have h1:i.cells=1:=cT h1;obtain⟨x,hx,h⟩:=h;have U6:=fE off (by omega);rw[gk,hx,KV]at U6;refine uP.mk (v:=u off) ?_ h U6;simp[Gm,Gq,loadVar,sf,eT off (by omega)]
def vz{α:Type}{l:List α}{i:Nat}{x d:α}(h:l[i]?=V x):l.getD i d=x:=by simp[bc,h]
def Em{α:Type}{l:List α}{i:Nat}{x:α}(h:l[i]?=V x):i<l.length:=(eZ.1 h).1
def IQ{id E K:Nat}{rows:List (List AV)}(h:Chunk.holds w F β id (.own E K rows)){g n c:Nat}(an:β id=.slice (V ⟨g,0,none⟩) n c):
  rows.length=n/\n<=c/\c<=maxLen/\∃u:Nat->Nat->Value,∀m j,m<rows.length->j<K->w.cell? ⟨g,m*K+j,none⟩=V (u m j)/\(u m j).oneCell'=true/\bq w F ((rows.getD m []).getD j .Δ) (u m j):=by
 rcases h with⟨rfl,a,hv⟩|⟨g',cap,cur,hv,_,hg,hn,hm,hs,hk,hr⟩
 .rw[hv]at an;cases an;exact⟨rfl,bm _,Nat.zero_le _,λ_ _=>undef,λm j hm=>by simp at hm⟩
 .rw[hv]at an;cases an;refine⟨rfl,hn,hm,λm j=>cur.getD (m*K+j) undef,λm j bN hj=>⟨?_,(hr m j bN hj).1,(hr m j bN hj).2⟩⟩
  have Ξ:m*K+j<rows.length*K:=by
   calc m*K+j<m*K+K:=by omega
    _=(m+1)*K:=by rw[bM];omega
    _<=rows.length*K:=cC _ bN
  rw[cell_of_row w g (m*K+j) cur E (0,0) hg]
  have hc:rows.length*K<=cur.size:=by rw[hs];exact cC _ hn
  have h2:m*K+j<cur.size:=by omega
  simp[h2]
def Wq{id E K:Nat}{rows:List (List AV)}(h:Chunk.holds w F β id (.own E K rows)):∀i,i<rows.length->(rows.getD i []).length=K:=by
 rcases h with⟨rfl,_⟩|⟨_,_,_,_,_,_,_,_,_,hk,_⟩
 .intro i hi;simp at hi
 .exact hk
def sM{id E K:Nat}{rows:List (List AV)}(h:Chunk.holds w F β id (.own E K rows)):(rows=[]/\∃a,β id=.slice a 0 0)\/∃g cap,β id=.slice (V ⟨g,0,none⟩) rows.length cap/\cap<=maxLen/\rows.length<=cap:=by
 rcases h with h|⟨g,cap,cur,hv,_,hg,hn,hm,_⟩
 .exact .inl h
 .exact .inr ⟨g,cap,hv,hm,hn⟩
def Ya{t:Nat}{x:AV}{vx:Value}(hT:bL P T)(hI:Inv w F β H)(hx:Rd w F β x vx)(h:BP T t x H k):uP P (Gm t vx) w F β k:=by
 unfold BP at h;split at h
 .rename_i i hi;split at h
  .rename_i id off;split at h
   .rename_i cells hc;obtain⟨b,c,e,an,hh,hs,h1,hr⟩:=hI.holds _ _ (fk hc);obtain⟨fV,hb,rfl⟩:=hx.mP;rw[an]at hb;cases hb
    have:=Oc (hT _ _ hi) h (b:=b) (base:=0) (u:=λj=>c.getD j undef) (λj hj=>by
     rw[cell_of_row w b (0+j) c e (0,0) hh,j3]
     have:j<c.size:=by omega
     simp[this]) h1 hr
    simpa using this
   .cases h
  .rename_i cells;have hp:=hx.Bp;cases hp with
   |p hb eT fo fE=>exact Oc (off:=0) (hT _ _ hi) h eT fo λj hj=>.i (fE j hj)
  .rename_i id K m j;split at h
   .rename_i E' K' rows hc;obtain⟨row,kF,rfl,h⟩:=h;obtain⟨g,n,c,an,rfl⟩:=hx.Al;have hh:=hI.holds _ _ (fk hc);obtain⟨_,_,_,u,hu⟩:=IQ hh an;have hm:=Em kF
    have nT:row.length=K:=by
     have:=Wq hh m hm;rwa [vz kF]at this
    rw[<-vz (d:=[]) kF]at h nT;exact Oc (hT _ _ hi) h (b:=g) (base:=m*K) (u:=u m) (λj hj=>(hu m j hm (by omega)).1) (λj hj=>(hu m j hm (by omega)).2.1)
     λj hj=>.i (hu m j hm (by omega)).2.2
   .cases h
  .cases h
 .cases h
def agM{t:Nat}{x:AV}{vx:Value}(hT:bL P T)(hI:Inv w F β H)(hx:Rd w F β x vx)(h:BP T t x H k):cj P (Gm t vx) w F β k:=
 (Ya hT hI hx h).gives
def bq.sV{rows:List (List AV)}{u:Value}(h:bq w F (.s rows) u):(rows=[]/\∃a,u=.slice a 0 0)\/∃(b off c K:Nat) (v:Nat->Nat->Value),F b/\rows.length<=c/\c<=maxLen/\u=.slice (V ⟨b,off,none⟩) rows.length c /\
  (∀i,i<rows.length->(rows.getD i []).length=K)/\∀i j,i<rows.length->j<K->w.cell? ⟨b,off+(i*K+j),none⟩=V (v i j)/\(v i j).oneCell'=true/\bq w F ((rows.getD i []).getD j .Δ) (v i j):=by
 cases h with
 |s0=>exact .inl ⟨rfl,_,rfl⟩
 |s hb hc hm hk eT fo fE=>exact .inr ⟨_,_,_,_,_,hb,hc,hm,rfl,hk,λi j hi hj=>⟨eT i j hi hj,fo i j hi hj,fE i j hi hj⟩⟩
def agJ{t:Nat}{x i:AV}{vx vi:Value}(hT:bL P T)(hI:Inv w F β H)(hx:Rd w F β x vx)(hi:Rd w F β i vi)(h:PL T t x i H k):cj P (Cy t vx vi) w F β k:=by
 unfold PL at h;split at h
 .rename_i ti kG;split at h
  .rename_i e he;have hu:=(hT _ _ kG).slice he;split at h
   .rename_i j hj;have bd:=(hT _ _ hj).lv w;split at h
    .rename_i rows kd n;cases hi.bK;obtain⟨m,rfl,row,kF,h⟩:=h;obtain⟨nT,hk⟩:=cond_prop h;have nT:row.length=j.cells:=cT nT;have hm:=Em kF
     rcases hx.oX.sV with⟨rfl,_⟩|⟨b,off,c,K,v,hb,hc,j8,rfl,hK,hv⟩
     .simp at hm
     .have AD:row.length=K:=by have:=hK m hm;rwa [vz kF]at this
      refine cj.mk (v:=.pointer (V ⟨b,off+m*K,none⟩)) ?_ hk (.i ?_)
      .have:(0:Int)<=(m:Int)/\(m:Int)<(rows.length:Int):=by omega
       simp[Cy,asIntOf,run_underlying hu,hm,bd,gr,<-nT,AD]
      .refine .p (u:=v m) hb (λq hq=>?_) (λq hq=>(hv m q hm (by omega)).2.1) λq hq=>?_
       .rw[Gw];exact(hv m q hm (by omega)).1
       .have:=(hv m q hm (by omega)).2.2;rwa [vz kF]at this
    .rename_i id kd n;cases hi.bK;split at h
     .rename_i E' K rows hc;obtain⟨hK,h⟩:=cond_prop h;have hK:K=j.cells:=cT hK;obtain⟨m,rfl,hm,hk⟩:=h;obtain⟨a,n,c,an,rfl⟩:=hx.ko;have hh:=hI.holds _ _ (fk hc)
      rcases sM hh with⟨rfl,_⟩|⟨g,cap,hv,_⟩
      .simp at hm
      .rw[an]at hv;cases hv;refine cj.mk (v:=.pointer (V ⟨g,m*K+0,none⟩)) ?_ hk (.e an);simp[Cy,asIntOf,run_underlying hu,hm,bd,gr,<-hK]
     .cases h
    .rename_i id Kw d kd n;cases hi.bK;split at h
     .rename_i E' K rows hc;obtain⟨hK,h⟩:=cond_prop h;simp only[bR]at hK;have qV:K=j.cells:=cT hK.1;have Mu:Kw=K:=cT hK.2;subst Mu;obtain⟨m,rfl,hm,hk⟩:=h;obtain⟨a,a',n,c,an,hd,ha,rfl⟩:=hx.wQ;have hh:=hI.holds _ _ (fk hc)
      rcases sM hh with⟨rfl,_⟩|⟨g,cap,hv,_,jk⟩
      .simp at hm
      .rw[an]at hv;cases hv;have ha:=ha (by omega);subst ha;refine cj.mk (v:=.pointer (V ⟨g,(d+m)*Kw+0,none⟩)) ?_ hk (.e an)
       have bN:m<rows.length-d:=by omega
       have e:((⟨g,0,none⟩:Addr).add (d*Kw)).add (m*j.cells)=⟨g,(d+m)*Kw+0,none⟩:=by
        rw[<-qV,Addr.add_add,gr,<-bM];simp
       simp[Cy,asIntOf,run_underlying hu,bN,bd,e]
     .cases h
    .cases h
   .cases h
  .rename_i len e he;have hu:=(hT _ _ kG).arr he;split at h
   .rename_i j hj;have bd:=(hT _ _ hj).lv w;split at h
    .cases hi.bK;obtain⟨m,rfl,hm,hk⟩:=h;obtain⟨fV,hb,rfl⟩:=hx.mP;refine cj.mk (v:=.pointer (V ⟨fV,_+m*j.cells,none⟩)) ?_ hk (.b hb);simp[Cy,Gq,asIntOf,run_underlying hu,hm,bd,gr]
    .rename_i cells kd n;cases hi.bK;obtain⟨m,rfl,hm,hk⟩:=h;have hp:=Sn (k:=λr=>r=.p (cells.drop (m*j.cells))) hx rfl;obtain⟨b,o,r,rfl,rfl,hr⟩:=hp;refine cj.mk (v:=.pointer (V ⟨b,o+m*j.cells,none⟩)) ?_ hk hr;simp[Cy,Gq,asIntOf,run_underlying hu,hm,bd,gr]
    .cases h
   .cases h
  .cases h
 .cases h
end
section
variable{P:Program}{T:TT}{w:World}{F:Nat->Prop}{β:Nat->Value}{H:Hp}{k:AV->Prop}
def agu{src dst:Nat}{i j:TI}(hs:gO P src i)(hd:gO P dst j){kd kn:IntKind}(hk:j.kind=.int kd)(n:Int):
  (convert src dst (.int kn n)).run P w=.ok (.int kd (kd.wrap n)) w:=by
 obtain⟨d,bF,_⟩:=hs.oi;simp[convert,run_underlying bF,run_underlying (hd.int hk),Conv.intToInt]
def aaI{l:List UInt8}{b off c:Nat}(hb:F b)(hc:l.length<=c)(hm:c<=maxLen)(h:∀m,m<l.length->w.cell? ⟨b,off+m,none⟩=V (.int .u8 ((l.getD m 0).toNat:Int))):
  bq w F (.s (l.map lM)) (.slice (V ⟨b,off,none⟩) l.length c):=by
 have hl:(l.map lM).length=l.length:=by simp
 rw[<-hl];refine .s (k:=1) (u:=λm _=>.int .u8 ((l.getD m 0).toNat:Int)) hb (by simpa using hc) hm (λm hm=>?_) (λm j hm hj=>?_) (λ_ _ _ _=>rfl) λm j hm hj=>?_
 .simp at hm;simp[bc,hm,lM]
 .simp at hm
  have:m*1+j=m:=by omega
  rw[this];exact h m hm
 .simp at hm
  have:j=0:=by omega
  subst this;simp[bc,hm,lM];exact .v (.inl rfl)
def ZF{l:List UInt8}{m:Nat}(h:m<l.length):(l.map lM).getD m []=lM (l.getD m 0):=by simp[bc,h]
def aaH{l:List UInt8}{u:Value}(h:bq w F (.s (l.map lM)) u):(l=[]/\∃a,u=.slice a 0 0)\/∃(b off c:Nat),F b/\l.length<=c/\c<=maxLen/\u=.slice (V ⟨b,off,none⟩) l.length c /\
  ∀m,m<l.length->w.cell? ⟨b,off+m,none⟩=V (.int .u8 ((l.getD m 0).toNat:Int)):=by
 rcases h.sV with⟨h1,h2⟩|⟨b,off,c,K,v,hb,hc,hm,rfl,hK,hv⟩
 .exact .inl ⟨by simpa using h1,h2⟩
 .right
  simp at hc;refine⟨b,off,c,hb,hc,hm,by simp,λm hm=>?_⟩
  have bN:m<(l.map lM).length:=by simpa using hm
  have h1:=hK m bN;rw[ZF hm]at h1
  have qV:K=1:=by simpa [lM]using h1.symm
  subst qV;have:=hv m 0 bN (by omega);rw[ZF hm]at this;have h2:=this.2.2
  have h3:v m 0=.int .u8 ((l.getD m 0).toNat:Int):=by
   have:Rd w F (λ_=>undef) (.v (.int .u8 ((l.getD m 0).toNat:Int))) (v m 0):=.i h2;exact this.bK
  rw[<-h3];simpa using this.1
def Un{w:World}{b n:Nat}{c:Array Value}{e:TypeId}(h:w.heap[b]?=V (.cells c e (0,0))):(w.freeze ⟨b,n,none⟩ 1).heap[b]?=V (.cells c e (n,n+1)):=by
 simp[zW,p0,h]
def Um{w:World}{b b' n:Nat}(h:b≠b'):(w.freeze ⟨b,n,none⟩ 1).heap[b']?=w.heap[b']?:=by
 simp[zW,p0,h]
def agw{e:Nat}(s:ByteArray)(hs:s.size<=maxLen):
  cj P (KF e s) w F β (λr=>r=.s (s.data.toList.map lM)):=by
 let cap:=(Question.appendCap s.size 0 e).cut (w.tape w.drawn (.appendCap s.size 0 e));let cells:Array Value:=s.data.map (λb=>eb .u8 b.toNat)++Array.replicate (cap-s.size) (.int .u8 0);have jk:s.size<=cap:=Nat.le_add_right _ _;have acH:cap<=maxLen:=grownCap_le_maxLen w s.size 0 e hs
 have bd:cells.size=cap:=by simp only[cells,s5,Array.size_map,Array.size_replicate];have:s.data.size=s.size:=rfl;omega
 let w1:World:={ w with drawn:=w.drawn+1 };let w2:=w1.alloc (.cells cells e)
 have qm:(markStringish ⟨w.heap.size,0,none⟩).run P w2=.ok () (w2.freeze ⟨w.heap.size,cells.size,none⟩ 1):=by
  have:w2.shape? w.heap.size=V (e,cells.size):=by simp[World.shape?,w2,w1,l_]
  simp[markStringish,this]
 have bf:(KF e s).run P w=.ok (.slice (V ⟨w.heap.size,0,none⟩) s.size cap) (w2.freeze ⟨w.heap.size,cells.size,none⟩ 1):=by
  have hch:(choose (.appendCap s.size 0 e)).run P w=.ok cap w1:=by simp[Question.forced,cap,w1]
  have eY:(newRow e cells).run P w1=.ok ⟨w.heap.size,0,none⟩ w2:=by simp[newRow,w2,w1]
  unfold KF;rw[kP,hch,mL]
  have:(Sem.bind (newRow e cells) λa=>Sem.bind (markStringish a) λ_=>Sem.pure (Value.slice (V a) s.size cap)).run P w1=.ok (.slice (V ⟨w.heap.size,0,none⟩) s.size cap) (w2.freeze ⟨w.heap.size,cells.size,none⟩ 1):=by
   rw[Sem.run_bind',eY,mL,Sem.run_bind',qm,mL];rfl
  exact this
 have MW:(w2.freeze ⟨w.heap.size,cells.size,none⟩ 1).heap[w.heap.size]?=V (.cells cells e (cells.size,cells.size+1)):=
  Un (by simp[w2,w1,l_])
 have akG:(w2.freeze ⟨w.heap.size,cells.size,none⟩ 1).heap.size=w.heap.size+1:=by simp[zW,w2,w1,l_]
 have vC:Below w.heap.size w (w2.freeze ⟨w.heap.size,cells.size,none⟩ 1):=by
  refine⟨by simp[zW,w2,w1,l_],⟨by simp[zW,w2,w1,l_],by simp[zW,w2,w1,l_]⟩,by simp[zW,w2,w1,l_],by omega,λb hb=>?_⟩
  have h1:w.heap.size≠b:=by omega
  have h2:b≠w.heap.size:=by omega
  rw[Um h1];exact _root_.Go.heap_alloc_old w1 _ hb
 refine⟨_,_,_,bf,vC,rfl,.i ?_⟩;have hlen:s.data.toList.length=s.size:=rfl;rw[<-hlen];refine aaI (off:=0) (.inr ⟨bm _,by omega⟩) (by rw[hlen];exact jk) acH λm hm=>?_
 have bN:m<s.data.size:=by simpa using hm
 rw[cell_of_row _ _ _ _ _ _ MW,j3];have yl:m<s.size:=bN;simp[cells,pZ,yl,bc]
def agF{src dst:Nat}{x:AV}{vx:Value}(hT:bL P T)(hx:Rd w F β x vx)(h:PG T src dst x k):cj P (convert src dst vx) w F β k:=by
 unfold PG at h;split at h
 .rename_i i j hi hj;have A6:=hT _ _ hi;have xW:=hT _ _ hj;split at h
  .rename_i kd kn n hk;cases hx.bK;obtain⟨r,rfl,bG⟩:=h;exact cj.mk (agu A6 xW hk n) bG (.i (.v (.inl rfl)))
  .rename_i s hk;cases hx.bK;obtain⟨d,bF,_⟩:=A6.oi;refine cj.mk ?_ h (.i (.v (.inl rfl)));simp[convert,run_underlying bF,run_underlying (xW.str hk)]
  .rename_i e s hk;cases hx.bK;split at h
   .rename_i je AO;split at h
    .rename_i M4;obtain⟨d,bF,_⟩:=A6.oi
     have hc:(convert src dst (.string s)).run P w=(KF e s).run P w:=by
      simp[convert,run_underlying bF,run_underlying (xW.slice hk),run_underlying ((hT _ _ AO).int M4)]
     obtain⟨v,w',r,hr,hb,rfl,hv⟩:=agw (P:=P) (w:=w) (F:=F) (β:=β) (e:=e) s h.1;exact⟨v,w',_,by rw[hc];exact hr,hb,h.2,hv⟩
    .cases h
   .cases h
  .rename_i rows hk;split at h
   .rename_i e he;split at h
    .rename_i je AO;split at h
     .rename_i M4;obtain⟨l,rfl,bG⟩:=h;have hs:=A6.slice he;have h8:=(hT _ _ AO).int M4;have hd:=xW.str hk
      rcases aaH hx.oX with⟨rfl,a,rfl⟩|⟨b,off,c,hb,hc,hm,rfl,eT⟩
      .cases a with
       |none=>exact cj.mk (run_convert_bytes_nil w src e hs h8 0 0 dst hd) bG (.i (.v (.inl rfl)))
       |some ad=>exact cj.mk (run_convert_bytes_back w src dst e ad 0 [] hs h8 hd λj hj=>absurd hj (by simp)) bG (.i (.v (.inl rfl)))
      .refine cj.mk (run_convert_bytes_back w src dst e ⟨b,off,none⟩ c l hs h8 hd λj hj=>?_) bG (.i (.v (.inl rfl)));rw[gr,eT j hj];simp[bc,hj]
     .cases h
    .cases h
   .cases h
  .cases h
 .cases h
def afG{ty:TypeId}{i:TI}(hi:gO P ty i)(hg:qd i.kind=false)(cs:Array Value)(off:Nat){v:Value}(hv:cs[off]?=V v):(part ty cs off).run P w=.ok v w:=by
 have:=hi.JR w;rw[hg]at this;simp[part,this,hv]
def agK{t:Nat}{x i:AV}{vx vi:Value}(hT:bL P T)(hx:Rd w F β x vx)(hi:Rd w F β i vi)(h:PK T t x i k):cj P (RA t vx vi) w F β k:=by
 unfold PK at h;split at h
 .rename_i ti kG;split at h
  .rename_i s kd n hk;cases hx.bK;cases hi.bK;obtain⟨m,rfl,b,hb,bG⟩:=h;refine cj.mk (v:=.int .u8 b.toNat) ?_ bG (.i (.v (.inl rfl)));have hu:=(hT _ _ kG).str hk
   have aN:s[m]?=V b:=by
    have Ξ:m<s.data.size:=by have:=Em hb;simpa using this
    have h2:s.data[m]?=V b:=by simpa using hb
    have h3:s.data[m]=b:=by rw[gK Ξ]at h2;simpa using h2
    have sA:m<s.size:=Ξ;rw[getElem?_pos s m sA];exact congrArg V h3
   simp[RA,asIntOf,run_underlying hu,aN]
  .rename_i len e cells kd n hk;cases hi.bK;have hu:=(hT _ _ kG).arr hk;split at h
   .rename_i j hj;cases hg:qd j.kind with
    |true=>rw[hg]at h;cases h
    |false =>
     rw[hg]at h;obtain⟨h1,h⟩:=cond_prop h;have h1:j.cells=1:=cT h1;obtain⟨m,rfl,hm,c,hc,bG⟩:=h;obtain⟨us,rfl,hs,fo,jq⟩:=hx.qO;have Ξ:=Em hc;have hr:=jq m Ξ;rw[vz hc]at hr;refine cj.mk (v:=us.getD m undef) ?_ bG hr;have bd:=(hT _ _ hj).lv w
     have fG:us[m]?=V (us.getD m undef):=by
      have:m<us.size:=by omega
      simp[this]
     have hp:=afG (w:=w) (hT _ _ hj) hg us m fG;simp[RA,asIntOf,run_underlying hu,hm,bd,h1,hp]
   .cases h
  .cases h
 .cases h
def xh(x:Option AV)(vx:Option Value)(w:World)(F:Nat->Prop)(β:Nat->Value):Prop:=
 match x,vx with
 |none,none=>True
 |some a,V v=>Rd w F β a v
 |_,_=>False
def uW{x:Option AV}{vx:Option Value}{d:Nat}{k:Nat->Prop}(hx:xh x vx w F β)(h:rW x d k):∃m,k m/\((vx=none/\m=d)\/∃kd,vx=V (.int kd (m:Int))):=by
 unfold rW at h;split at h
 .cases vx with
  |none=>exact⟨d,h,.inl ⟨rfl,rfl⟩⟩
  |some v=>exact hx.elim
 .cases vx with
  |none=>exact hx.elim
  |some v =>
   have:Rd w F β _ v:=hx;cases this.bK;obtain⟨m,rfl,hk⟩:=h;exact⟨m,hk,.inr ⟨_,rfl⟩⟩
 .cases h
def zk{lo hi:Option Value}{len cap l h:Nat}{is:Bool}(hl:(lo=none/\l=0)\/∃kd,lo=V (.int kd (l:Int)))(hh:(hi=none/\h=len)\/∃kd,hi=V (.int kd (h:Int)))
  (h1:l<=h) (h2:h<=len) (h3:len<=cap):(zN is len cap lo hi none).run P w=.ok (l,h,cap) w:=by
 rcases hl with⟨rfl,rfl⟩|⟨kl,rfl⟩<;>rcases hh with⟨rfl,rfl⟩|⟨kh,rfl⟩
 .simp[zN]
 .have:(h:Int)<=(cap:Int):=by omega
  simp[zN,run_sliceBound w kh h cap _ (by omega) (by omega)]
 .simp[zN,run_sliceBound w kl l h _ (by omega) (by omega)]
 .simp[zN,run_sliceBound w kl l h _ (by omega) (by omega),run_sliceBound w kh h cap _ (by omega) (by omega)]
def agS{t:Nat}{x:AV}{vx:Value}{lo hi:Option AV}{vlo vhi:Option Value}(hT:bL P T)(hx:Rd w F β x vx)(lh:xh lo vlo w F β)(lR:xh hi vhi w F β)
  (hI:Inv w F β H) (h:PS T t x lo hi none H k):cj P (l5 t vx vlo vhi none) w F β k:=by
 unfold PS at h;split at h
 .rename_i ti mx kG _;split at h
  .rename_i e rows hk;have hu:=(hT _ _ kG).slice hk;split at h
   .rename_i j hj;have bd:=(hT _ _ hj).lv w;obtain⟨l,h,hl⟩:=uW lh h;obtain⟨m,⟨HT,hm,hlen,r,rfl,bG⟩,hh⟩:=uW lR h
    have vB:∀v,(l5 t v vlo vhi none).run P w=(rM t v vlo vhi none).run P w:=by
     intro v;simp[l5,run_underlying hu]
    rcases hx.oX.sV with⟨rfl,a,rfl⟩|⟨b,off,c,K,v,hb,hc,j8,rfl,hK,hv⟩
    .simp at hm
     have rf:l=0:=by omega
     subst hm;subst rf;refine cj.mk (v:=.slice a 0 0) ?_ bG (.i (by simpa using bq.s0));rw[vB];have ql:(vhi=none/\(0:Nat)=0)\/∃kd,vhi=V (eb kd ((0:Nat):Int)):=hh;simp[rM,run_underlying hu,zk (P:=P) (w:=w) (is:=true) hl ql (bm _) (bm _) (bm 0),bd]
    .have ue:((rows.take m).drop l).length=m-l:=by simp;omega
     refine cj.mk (v:=.slice (V (if c=l then⟨b,off,none⟩else⟨b,off+l*j.cells,none⟩)) (m-l) (c-l)) ?_ bG (.i ?_)
     .rw[vB];have Dy:=zk (P:=P) (w:=w) (is:=true) hl hh HT hm hc
      have H8:(rM t (.slice (V ⟨b,off,none⟩) rows.length c) vlo vhi none).run P w=.ok (.slice (if c=l then V ⟨b,off,none⟩else V ⟨b,off+l*j.cells,none⟩) (m-l) (c-l)) w:=by
       simp[rM,run_underlying hu,Dy,bd,gr]
      rw[H8];split<;>rfl
     .by_cases cY:c=l
      .rw[if_pos cY]
       have:m-l=0:=by omega
       have pL:(rows.take m).drop l=[]:=by
        apply qI;omega
       rw[pL];have h0:bq w F (.s []) (.slice (V ⟨b,off,none⟩) ([]:List (List AV)).length (c-l)):=
        .s (k:=0) (u:=λ_ _=>undef) hb (by simp) (by omega) (λ_ h=>by simp at h) (λ_ _ h=>by simp at h) (λ_ _ h=>by simp at h) (λ_ _ h=>by simp at h)
       rw[this];exact h0
      .rw[if_neg cY,<-ue];refine .s (k:=j.cells) (u:=λq z=>v (l+q) z) hb (by omega) (by omega) (λq hq=>?_) (λq z hq hz=>?_) (λq z hq hz=>?_) λq z hq hz=>?_
       .rw[ue]at hq;have:=hlen (l+q) (by omega);simpa [bc,iN,fS,show l+q<m by omega]using this
       all_goals
        rw[ue]at hq
        have Du:K=j.cells:=by rw[<-hK (l+q) (by omega)];exact hlen (l+q) (by omega)
        have D1:=hv (l+q) z (by omega) (by omega)
       .rw[<-D1.1,Du,bM];congr 2;omega
       .exact D1.2.1
       .have h3:=D1.2.2;simpa [bc,iN,fS,show l+q<m by omega]using h3
   .cases h
  .rename_i e id hk;have hu:=(hT _ _ kG).slice hk;split at h
   .rename_i j hj;have bd:=(hT _ _ hj).lv w;split at h
    .rename_i E K rows hc;obtain⟨hK,h⟩:=cond_prop h;have qV:K=j.cells:=cT hK;obtain⟨l,⟨yi,bG⟩,hl⟩:=uW lh h;obtain⟨a,n,c,an,rfl⟩:=hx.ko
     have qn:n=rows.length/\n<=c:=by
      rcases sM (hI.holds _ _ (fk hc))with⟨rfl,a2,hv⟩|⟨g,cap,hv,_,jk⟩
      .rw[an]at hv;cases hv;exact⟨rfl,bm _⟩
      .rw[an]at hv;cases hv;exact⟨rfl,jk⟩
     have NN:vhi=none:=by
      cases vhi with
      |none=>rfl
      |some v=>exact lR.elim
     subst NN;have hb:=zk (P:=P) (w:=w) (is:=true) (hi:=none) (len:=n) (cap:=c) (l:=l) (h:=n) hl (.inl ⟨rfl,rfl⟩) (by omega) (bm _) (by omega);refine cj.mk (v:=.slice (if c=l then a else a.map (·.add (l*j.cells))) (n-l) (c-l)) ?_ bG ?_
     .simp[l5,rM,run_underlying hu,hb,bd]
     .refine .w an (by omega) λΞ=>?_;rw[if_neg (by omega),<-qV]
    .cases h
   .cases h
  .rename_i e id Kw d hk;have hu:=(hT _ _ kG).slice hk;split at h
   .rename_i j hj;have bd:=(hT _ _ hj).lv w;split at h
    .rename_i E K rows hc;obtain⟨hK,h⟩:=cond_prop h;simp only[bR]at hK;have qV:K=j.cells:=cT hK.1;have Mu:Kw=K:=cT hK.2;subst Mu;obtain⟨l,⟨yi,bG⟩,hl⟩:=uW lh h;obtain⟨a,a',n,c,an,hd,ha,rfl⟩:=hx.wQ
     have qn:n=rows.length/\n<=c:=by
      rcases sM (hI.holds _ _ (fk hc))with⟨rfl,a2,hv⟩|⟨g,cap,hv,_,jk⟩
      .rw[an]at hv;cases hv;exact⟨rfl,bm _⟩
      .rw[an]at hv;cases hv;exact⟨rfl,jk⟩
     have NN:vhi=none:=by
      cases vhi with
      |none=>rfl
      |some v=>exact lR.elim
     subst NN;have hb:=zk (P:=P) (w:=w) (is:=true) (hi:=none) (len:=n-d) (cap:=c-d) (l:=l) (h:=n-d) hl (.inl ⟨rfl,rfl⟩) (by omega) (bm _) (by omega);refine cj.mk (v:=.slice (if c-d=l then a' else a'.map (·.add (l*j.cells))) (n-d-l) (c-d-l)) ?_ bG ?_
     .simp[l5,rM,run_underlying hu,hb,bd]
     .have e1:n-d-l=n-(d+l):=by omega
      have e2:c-d-l=c-(d+l):=by omega
      rw[e1,e2];refine .w an (by omega) λΞ=>?_;rw[if_neg (by omega),ha (by omega),<-qV,Option.map_map];congr 1;funext ad;show(ad.add (d*Kw)).add (l*Kw)=_;rw[Addr.add_add,<-bM]
    .cases h
   .cases h
  .rename_i e hk;cases hx.bK;have hu:=(hT _ _ kG).slice hk;split at h
   .rename_i j hj;have bd:=(hT _ _ hj).lv w;obtain⟨l,h,hl⟩:=uW lh h;obtain⟨m,⟨HT,hm,bG⟩,hh⟩:=uW lR h
    have lS:m=0:=by omega
    have rf:l=0:=by omega
    subst lS;subst rf;have ql:(vhi=none/\(0:Nat)=0)\/∃kd,vhi=V (eb kd ((0:Nat):Int)):=hh;refine cj.mk (v:=.slice none 0 0) ?_ bG (.i (.v (.inl rfl)));simp[l5,rM,run_underlying hu,zk (P:=P) (w:=w) (is:=true) hl ql (bm _) (bm _) (bm 0),bd]
   .cases h
  .rename_i s hk;cases hx.bK;have hu:=(hT _ _ kG).str hk;obtain⟨l,h,hl⟩:=uW lh h;obtain⟨m,⟨HT,hm,r,rfl,bG⟩,hh⟩:=uW lR h;refine cj.mk (v:=.string (s.extract l m)) ?_ bG (.i (.v (.inl rfl)));simp[l5,rM,run_underlying hu,zk (P:=P) (w:=w) (is:=false) hl hh HT hm (bm _)]
  .cases h
 .cases h
def agP{x:AV}{vx:Value}(hx:Rd w F β x vx)(h:PQ x k):
  (∃r,k r/\Rd w F β r vx)/\((∃a,vx=.pointer (V a))\/∃g fs cs,vx=.func (.func g) fs cs):=by
 unfold PQ at h;split at h
 .obtain⟨fV,hb,rfl⟩:=hx.mP;exact⟨⟨_,h,hx⟩,.inl ⟨_,rfl⟩⟩
 .have hp:=hx.Bp;cases hp;exact⟨⟨_,h,hx⟩,.inl ⟨_,rfl⟩⟩
 .obtain⟨g,n,c,hb,rfl⟩:=hx.Al;exact⟨⟨_,h,hx⟩,.inl ⟨_,rfl⟩⟩
 .obtain⟨us,vs,rfl,_⟩:=hx.nG;exact⟨⟨_,h,hx⟩,.inr ⟨_,_,_,rfl⟩⟩
 .cases h
def agL{t ty:Nat}{x:AV}{vx:Value}(hT:bL P T)(hI:Inv w F β H)(hx:Rd w F β x vx)(h:lX T t x H k):cj P (uE #[t] ty #[vx]) w F β k:=by
 unfold lX at h;split at h
 .rename_i i hi;split at h
  .rename_i e rows hk;have hu:=(hT _ _ hi).slice hk;obtain⟨n,rfl,h⟩:=h
   rcases hx.oX.sV with⟨rfl,a,rfl⟩|⟨b,off,c,K,v,hb,hc,j8,rfl,hK,hv⟩
   .exact cj.mk (by simp[uE,run_underlying hu,goInt]) (h (by simp)) (.i (.v (.inl rfl)))
   .exact cj.mk (by simp[uE,run_underlying hu,goInt]) (h (by omega)) (.i (.v (.inl rfl)))
  .rename_i e hk;have hu:=(hT _ _ hi).slice hk;cases hx.bK;exact cj.mk (by simp[uE,run_underlying hu,goInt]) h (.i (.v (.inl rfl)))
  .rename_i e id hk;have hu:=(hT _ _ hi).slice hk;split at h
   .rename_i E K rows hc;obtain⟨n,rfl,h⟩:=h;obtain⟨a,n,c,an,rfl⟩:=hx.ko
    have hn:n=rows.length/\rows.length<=maxLen:=by
     rcases sM (hI.holds _ _ (fk hc))with⟨rfl,a',hv⟩|⟨g,cap,hv,hm,hn⟩
     .rw[an]at hv;cases hv;exact⟨rfl,by simp⟩
     .rw[an]at hv;cases hv;exact⟨rfl,by omega⟩
    obtain⟨rfl,hm⟩:=hn;exact cj.mk (by simp[uE,run_underlying hu,goInt]) (h hm) (.i (.v (.inl rfl)))
   .cases h
  .rename_i e id Kw d hk;have hu:=(hT _ _ hi).slice hk;split at h
   .rename_i E K rows hc;obtain⟨n,rfl,h⟩:=h;obtain⟨a,a',n,c,an,hd,ha,rfl⟩:=hx.wQ
    have hn:n=rows.length/\rows.length<=maxLen:=by
     rcases sM (hI.holds _ _ (fk hc))with⟨rfl,a2,hv⟩|⟨g,cap,hv,hm,hn⟩
     .rw[an]at hv;cases hv;exact⟨rfl,by simp⟩
     .rw[an]at hv;cases hv;exact⟨rfl,by omega⟩
    obtain⟨rfl,hm⟩:=hn;exact cj.mk (by simp[uE,run_underlying hu,goInt]) (h (by omega)) (.i (.v (.inl rfl)))
   .cases h
  .rename_i kt e id hk;have hu:=(hT _ _ hi).map hk;split at h
   .rename_i ag rows hc;obtain⟨n,rfl,h⟩:=h;obtain⟨b,an,rfl⟩:=hx.yJ;obtain⟨b',es,ck,jr,hh,_,hs,hm,_⟩:=hI.holds _ _ (fk hc);rw[an]at jr;cases jr;have hg:=ZS (P:=P) hh;exact cj.mk (v:=.int .i64 rows.length) (by simp[uE,run_underlying hu,goInt,hg,hs]) (h (by omega)) (.i (.v (.inl rfl)))
   .cases h
  .rename_i s hk;have hu:=(hT _ _ hi).str hk;cases hx.bK;obtain⟨n,rfl,h⟩:=h;exact cj.mk (by simp[uE,run_underlying hu,goInt]) h (.i (.v (.inl rfl)))
  .rename_i n e hk;have hu:=(hT _ _ hi).arr hk;exact cj.mk (by simp[uE,run_underlying hu,goInt]) h (.i (.v (.inl rfl)))
  .cases h
 .cases h
def X6{len cap h q:Nat}{kh km:IntKind}(h1:h<=q)(h2:q<=cap):(zN true len cap none (V (.int kh (h:Int))) (V (.int km (q:Int)))).run P w=.ok (0,h,q) w:=by
 simp[zN,run_sliceBound w km q cap _ (by omega) (by omega),run_sliceBound w kh h q _ (by omega) (by omega)]
def agR{t:Nat}{x hi mx:AV}{vx vhi vmx:Value}(hT:bL P T)(hx:Rd w F β x vx)(lR:Rd w F β hi vhi)(gA:Rd w F β mx vmx)
  (h:FE T t x none (V hi) mx k):cj P (l5 t vx none (V vhi) (V vmx)) w F β k:=by
 unfold FE at h;split at h
 .rename_i ti kh nh rows km nm kG _ ehi;cases ehi;split at h
  .rename_i e hk;have hu:=(hT _ _ kG).slice hk;split at h
   .rename_i j hj;have bd:=(hT _ _ hj).lv w;obtain⟨m,q,rfl,rfl,hmq,hq,hlen,r,rfl,bG⟩:=h;cases lR.bK;cases gA.bK
    have vB:∀v vlo vhi vm,(l5 t v vlo vhi vm).run P w=(rM t v vlo vhi vm).run P w:=by
     intro v _ _ _;simp[l5,run_underlying hu]
    rcases hx.oX.sV with⟨rfl,a,rfl⟩|⟨b,off,c,K,v,hb,hc,j8,rfl,hK,hv⟩
    .have U3:q=0:=by simpa using hq
     have lS:m=0:=by omega
     subst U3;subst lS;refine cj.mk (v:=.slice a 0 0) ?_ bG (.i (by simpa using bq.s0));rw[vB];have:=X6 (P:=P) (w:=w) (len:=0) (cap:=0) (h:=0) (q:=0) (kh:=kh) (km:=km) (bm _) (bm _);simp only[Int.natCast_zero]at this ⊢;simp[rM,run_underlying hu,this,bd]
    .have ue:(rows.take m).length=m:=by simp;omega
     refine cj.mk (v:=.slice (V ⟨b,off,none⟩) m q) ?_ bG (.i ?_)
     .rw[vB];have Dy:=X6 (P:=P) (w:=w) (len:=rows.length) (cap:=c) (h:=m) (q:=q) (kh:=kh) (km:=km) hmq (by omega);simp[rM,run_underlying hu,Dy,bd,gr]
     .have:=bq.s (w:=w) (F:=F) (rows:=rows.take m) (b:=b) (off:=off) (c:=q) (k:=j.cells) (u:=λq z=>v q z) hb (by omega) (by omega) (λq hq=>by
        rw[ue]at hq;have:=hlen q (by omega)
        simpa [bc,fS,show q<m by omega]using this) (λi z hi hz=>by
        rw[ue]at hi
        have Du:K=j.cells:=by rw[<-hK i (by omega)];exact hlen i (by omega)
        have D1:=hv i z (by omega) (by omega)
        rw[<-D1.1,Du]) (λi z hi hz=>by
        rw[ue]at hi
        have Du:K=j.cells:=by rw[<-hK i (by omega)];exact hlen i (by omega)
        exact(hv i z (by omega) (by omega)).2.1) (λi z hi hz=>by
        rw[ue]at hi
        have Du:K=j.cells:=by rw[<-hK i (by omega)];exact hlen i (by omega)
        have h3:=(hv i z (by omega) (by omega)).2.2
        simpa [bc,fS,show i<m by omega]using h3)
      rw[ue]at this;exact this
   .cases h
  .cases h
 .cases h
end
section
variable{P:Program}{T:TT}{w:World}{F:Nat->Prop}{β:Nat->Value}{H:Hp}{k:AV->Prop}
def rT(w:World)(F:Nat->Prop)(β:Nat->Value)(xs:List AV)(us:Array Value):Prop:=
 us.size=xs.length/\∀i,i<xs.length->(us.getD i undef).oneCell'=true/\Rd w F β (xs.getD i .Δ) (us.getD i undef)
def ae5{x:AV}(h:jH x=true):(∃cs,x=.a cs)\/(um x=true/\bx x=[x]):=by
 cases x<;>first|exact .inl ⟨_,rfl⟩|exact .inr ⟨h,rfl⟩
def py{x:AV}{u:Value}(h:Rd w F β x u)(hx:jH x=true):rT w F β (bx x) u.cells:=by
 rcases ae5 hx with⟨cs,rfl⟩|⟨hc,hl⟩
 .obtain⟨us,rfl,hs,h1,hr⟩:=h.qO;exact⟨hs,λi hi=>⟨h1 i hi,hr i hi⟩⟩
 .have h1:=ad' hc h
  have hc:u.cells=#[u]:=by cases u<;>simp[ak8]at h1<;>rfl
  rw[hc,hl];refine⟨rfl,λi hi=>?_⟩;simp at hi;subst hi;exact⟨h1,h⟩
def Tw(off:Nat):∀(l:List Value)(n:Nat)(cs:Array Value),off+n+l.length<=cs.size ->
  (l.zipIdx n).foldl (λcs x=>cs.setIfInBounds (off+x.2) x.1) cs=(cs.toList.take (off+n)++l++cs.toList.drop (off+n+l.length)).toArray:=by
 intro l;induction l with
 |nil=>intro n cs h;simp
 |cons x r ih =>
  intro n cs h;simp only[bV]at h;simp only[List.zipIdx_cons,List.foldl_cons];rw[ih (n+1) _ (by simp;omega)]
  have h1:off+n<cs.toList.length:=by simp;omega
  have e1:(cs.toList.set (off+n) x).take (off+(n+1))=cs.toList.take (off+n)++[x]:=by
   rw[show off+(n+1)=off+n+1 by omega,List.take_succ_eq_append_getElem (by simpa using h1)];rw[List.take_set,List.set_eq_of_length_le (by simp;omega)];simp
  have e2:(cs.toList.set (off+n) x).drop (off+(n+1)+r.length)=cs.toList.drop (off+n+(r.length+1)):=by
   rw[List.drop_set,if_pos (by omega),show off+(n+1)+r.length=off+n+(r.length+1) by omega]
  simp only[Array.toList_setIfInBounds,e1,e2,bV];simp
def Tq{WQ:Nat->Option (Nat×Nat)}{placeC:Nat->Option (Nat×Nat)}(hp:∀i x,WQ i=V x->placeC i=V x):
  ∀(parts:List (Nat×AV))(vs:List (Nat×Value))(cells xB:List AV)(us:Array Value),parts.length=vs.length ->
   (∀i,i<parts.length->(parts.getD i (0,.Δ)).1=(vs.getD i (0,undef)).1/\Rd w F β (parts.getD i (0,.Δ)).2 (vs.getD i (0,undef)).2) ->
   rT w F β cells us->Ap WQ parts cells=V xB->∃pX,uG placeC us vs=V pX/\rT w F β xB pX:=by
 intro parts;induction parts with
 |nil =>
  intro vs cells xB us hl _ hr h;cases vs with
  |nil=>simp[Ap]at h;subst h;exact⟨us,rfl,hr⟩
  |cons=>simp at hl
 |cons p r ih =>
  intro vs cells xB us hl hv hr h;cases vs with
  |nil=>simp at hl
  |cons q s =>
   obtain⟨i,x⟩:=p;obtain⟨i',u⟩:=q;have h0:=hv 0 (by simp);simp at h0;obtain⟨rfl,hu⟩:=h0;simp only[Ap]at h;split at h
   .cases h
   .rename_i off size rk;cases hb:(jH x&&(aM (bx x).length size&&p9 (off+size) cells.length))with
    |false=>rw[hb]at h;cases h
    |true =>
     rw[hb]at h;simp only[bR]at hb;obtain⟨bU,bd,hle⟩:=hb;have bd:(bx x).length=size:=cT bd
     have hle:off+size<=cells.length:=by simpa using hle
     obtain⟨aj,aX⟩:=py hu bU;have DC:=Tw off u.cells.toList 0 us (by simp;rw[aj,hr.1];omega);simp only[l8]at DC
     have hz:u.cells.zipIdx.foldl (λcs x=>cs.setIfInBounds (off+x.2) x.1) us=(us.toList.take off++u.cells.toList++us.toList.drop (off+u.cells.toList.length)).toArray:=by
      rw[<-DC,<-ZI,ZO]
     have cr:rT w F β (cells.take off++(bx x++cells.drop (off+size))) (us.toList.take off++u.cells.toList++us.toList.drop (off+u.cells.toList.length)).toArray:=by
      have fp:us.toList.length=cells.length:=by simpa using hr.1
      have akH:us.size=cells.length:=hr.1
      have cY:u.cells.toList.length=size:=by simp;rw[aj];exact bd
      refine⟨by simp only[lF,cZ,dq,nB];omega,λj hj=>?_⟩;simp only[cZ,dq,nB]at hj;have key:∀(d:Value),(us.toList.take off++u.cells.toList++us.toList.drop (off+u.cells.toList.length)).toArray.getD j d =
        if j<off then us.getD j d else if j<off+size then u.cells.getD (j-off) d else us.getD j d:=by
       intro d;simp only[lA,Z8,gV,cZ,dq,cY,fS,iN];by_cases h1:j<off
       .simp[h1,show j<min off us.size+size by omega,show j<min off us.size by omega]
       .by_cases h2:j<off+size
        .simp[h1,h2,show min off us.size=off by omega]
        .simp[h1,h2,show min off us.size=off by omega,show off+size+(j-(off+size))=j by omega]
      have yF:(cells.take off++(bx x++cells.drop (off+size))).getD j .Δ=if j<off then cells.getD j .Δ else if j<off+size then(bx x).getD (j-off) .Δ else cells.getD j .Δ:=by
       simp only[bc,gV,dq,bd,fS,iN];by_cases h1:j<off
       .simp[h1,show j<min off cells.length by omega]
       .by_cases h2:j<off+size
        .simp[h1,h2,show min off cells.length=off by omega,show j-off<size by omega]
        .simp[h1,h2,show min off cells.length=off by omega,show ¬j-off<size by omega,show off+size+(j-off-size)=j by omega]
      rw[key,yF];by_cases h1:j<off
      .rw[if_pos h1,if_pos h1];exact hr.2 j (by omega)
      .rw[if_neg h1,if_neg h1];by_cases h2:j<off+size
       .rw[if_pos h2,if_pos h2];exact aX (j-off) (by omega)
       .rw[if_neg h2,if_neg h2];exact hr.2 j (by omega)
     obtain⟨pX,hf,ads⟩:=ih s _ xB _ (by simpa using hl) (λm hm=>by have:=hv (m+1) (by simp;omega);simpa using this) cr h;refine⟨pX,?_,ads⟩;simp only[uG,hp _ _ rk];rw[if_neg ?_]
     .have g_:(Array.foldl (λcs(x:Value×Nat)=>cs.setIfInBounds (off+x.2) x.1) us u.cells.zipIdx)=(us.toList.take off++u.cells.toList++us.toList.drop (off+u.cells.toList.length)).toArray:=hz;exact(congrArg (λz=>uG placeC z s) g_).trans hf
     .simp only[s6,ne_eq,decide_eq_true_eq,not_or,decide_not,lC];rw[aj,bd,hr.1];simp;omega
def ae3{z:Value}{zs:List AV}(h:bZ z=.a zs):rT w F β zs z.cells:=by
 have hr:=oa w F z β;rw[h]at hr;obtain⟨us,rfl,hs,h1,h2⟩:=hr.qO;exact⟨hs,λi hi=>⟨h1 i hi,h2 i hi⟩⟩
def rT.agg{xs:List AV}{us:Array Value}(h:rT w F β xs us):Rd w F β (.a xs) (.agg us):=.a h.1 (λi hi=>(h.2 i hi).1) λi hi=>(h.2 i hi).2
def run_places(hT:bL P T):∀(fields:List Field),GN T (fields.map λf=>(f.offset,f.type))=true ->
  ∃ps:List (Nat×Nat),(List.mapM (λf:Field=>(do pure (f.offset,<-sizeOf f.type):Sem (Nat×Nat))) fields).run P w=.ok ps w /\
   ∀i x,EB T (fields.map λf=>(f.offset,f.type)) i=V x->ps[i]?=V x
 |[],_=>⟨[],by simp,λi x h=>by simp[EB]at h⟩
 |f::r,ha=>by
  simp only[fT,GN,bR]at ha;obtain⟨ps,hr,hp⟩:=run_places hT r ha.2;obtain⟨j,hj⟩:=Option.isSome_iff_exists.1 ha.1;have bd:=(hT _ _ hj).lv w;refine⟨(f.offset,j.cells)::ps,by rw[List.mapM_cons];simp only[kP,KY,mL,bd,hr],λi x h=>?_⟩;cases i with
  |zero =>
   simp[EB,hj]at h;simpa using h
  |succ i=>exact hp i x (by simpa [EB]using h)
def agA{t:Nat}{parts:List (Nat×AV)}{vs:Array (Nat×Value)}(hT:bL P T)(hl:parts.length=vs.size)
  (hv:∀i,i<parts.length->(parts.getD i (0,.Δ)).1=(vs.toList.getD i (0,undef)).1/\Rd w F β (parts.getD i (0,.Δ)).2 (vs.toList.getD i (0,undef)).2)
  (h:PE T t parts k):cj P (Ry t vs) w F β k:=by
 unfold PE at h;split at h
 .rename_i i hi;have hz:=(hT _ _ hi).sS w;split at h
  .rename_i zs iZ;have D_:=ae3 (w:=w) (F:=F) (β:=β) iZ;split at h
   .rename_i fs DD;obtain⟨dQ,h⟩:=cond_prop h;obtain⟨fields,hu,rfl⟩:=(hT _ _ hi).struct DD;split at h
    .rename_i cells hf;obtain⟨ps,hr,hp⟩:=run_places (w:=w) hT fields.toList dQ;obtain⟨pX,q7,cr⟩:=Tq (w:=w) (F:=F) (β:=β) (placeC:=λj=>ps.toArray[j]?) (λi x hx=>by simpa using hp i x hx) parts vs.toList zs cells i.zero.cells (by simpa using hl) hv D_ hf;refine cj.mk (v:=.agg pX) ?_ h cr.agg
     have hm:(fields.mapM (λf=>(do pure (f.offset,<-sizeOf f.type):Sem (Nat×Nat)))).run P w=.ok ps.toArray w:=by
      rw[Array.mapM_eq_mapM_toList];simp only[Sem.run_map,hr,mL]
     unfold Ry;simp only[kP,hz,mL,run_underlying hu,hm,q7,KY]
    .cases h
   .rename_i n e he;have hu:=(hT _ _ hi).arr he;split at h
    .rename_i j hj;have bd:=(hT _ _ hj).lv w;split at h
     .rename_i cells hf;obtain⟨pX,q7,cr⟩:=Tq (w:=w) (F:=F) (β:=β) (placeC:=λi=>V (i*j.cells,j.cells)) (λi x hx=>hx) parts vs.toList zs cells i.zero.cells (by simpa using hl) hv D_ hf;refine cj.mk (v:=.agg pX) ?_ h cr.agg;unfold Ry;simp only[kP,hz,mL,run_underlying hu,bd,q7,KY]
     .cases h
    .cases h
   .cases h
  .cases h
 .cases h
def X4{size:Nat}:∀{parts:List (Nat×AV)}{n:Nat}{rows:List (List AV)},rowsOf size n parts=V rows->rows.length=parts.length/\∀i,i<parts.length ->
  (parts.getD i (0,.Δ)).1=n+i/\jH (parts.getD i (0,.Δ)).2=true/\(bx (parts.getD i (0,.Δ)).2).length=size/\rows.getD i []=bx (parts.getD i (0,.Δ)).2
 |[],n,rows,h=>by simp[rowsOf]at h;subst h;exact⟨rfl,λi hi=>by simp at hi⟩
 |(m,x)::r,n,rows,h=>by
  simp only[rowsOf]at h;cases hb:(aM m n&&(jH x&&aM (bx x).length size))with
  |false=>rw[hb]at h;cases h
  |true =>
   rw[hb]at h;simp only[bR]at hb;obtain⟨hm,bU,hs⟩:=hb;have hm:m=n:=cT hm;have hs:(bx x).length=size:=cT hs;cases hr:rowsOf size (n+1) r with
   |none=>rw[hr]at h;cases h
   |some rs =>
    rw[hr]at h;simp only[cond_true,aag,Gx]at h;subst h;obtain⟨hl,hi⟩:=X4 hr;refine⟨by simp[hl],λi Ξ=>?_⟩;cases i with
    |zero=>exact⟨by simpa using hm,bU,hs,rfl⟩
    |succ i =>
     have:=hi i (by simpa using Ξ);simpa [Gw,Nat.add_comm 1 i]using this
def L9{size:Nat}:∀(rows:List (List AV))(i j:Nat),(∀i,i<rows.length->(rows.getD i []).length=size)->i<rows.length->j<size->rows.flatten.getD (i*size+j) .Δ=(rows.getD i []).getD j .Δ
 |[],i,j,_,hi,_=>by simp at hi
 |r::rs,i,j,h,hi,hj=>by
  have hr:r.length=size:=by simpa using h 0 (by simp)
  cases i with
  |zero=>simp[bc,gV,hr,hj]
  |succ i =>
   have ih:=L9 rs i j (λm hm=>by simpa using h (m+1) (by simpa using hm)) (by simpa using hi) hj
   have e:(i+1)*size+j=size+(i*size+j):=by rw[bM];omega
   rw[e];simpa [bc,gV,hr,show ¬size+(i*size+j)<size by omega]using ih
def Hi{size:Nat}:∀(rows:List (List AV)),(∀i,i<rows.length->(rows.getD i []).length=size)->rows.flatten.length=rows.length*size
 |[],_=>by simp
 |r::rs,h=>by
  have hr:r.length=size:=by simpa using h 0 (by simp)
  have ih:=Hi rs (λm hm=>by simpa using h (m+1) (by simpa using hm));simp[hr,ih,bM];omega
def ab_{size:Nat}(eO:0<size):∀(parts:List (Nat×AV))(vs:List (Nat×Value))(n:Nat)(rows:List (List AV))(done:List AV)(us:Array Value),parts.length=vs.length ->
  (∀i,i<parts.length->(parts.getD i (0,.Δ)).1=(vs.getD i (0,undef)).1/\Rd w F β (parts.getD i (0,.Δ)).2 (vs.getD i (0,undef)).2) ->
  rowsOf size n parts=V rows->done.length=n*size->us.size=(n+parts.length)*size ->
  (∀i,i<done.length->(us.getD i undef).oneCell'=true/\Rd w F β (done.getD i .Δ) (us.getD i undef)) ->
  ∃pX,uG (λi=>V (i*size,size)) us vs=V pX/\rT w F β (done++rows.flatten) pX:=by
 intro parts;induction parts with
 |nil =>
  intro vs n rows done us hl hv hr hd hu ML;cases vs with
  |cons=>simp at hl
  |nil =>
   simp[rowsOf]at hr;subst hr;refine⟨us,rfl,?_,λi hi=>?_⟩
   .simpa [hd]using hu
   .simpa using ML i (by simpa using hi)
 |cons p r ih =>
  intro vs n rows done us hl hv hr hd hu ML;cases vs with
  |nil=>simp at hl
  |cons q s =>
   obtain⟨m,x⟩:=p;obtain⟨m',u⟩:=q;have h0:=hv 0 (by simp);simp at h0;obtain⟨rfl,hxu⟩:=h0;simp only[rowsOf]at hr;cases hb:(aM m n&&(jH x&&aM (bx x).length size))with
   |false=>rw[hb]at hr;cases hr
   |true =>
    rw[hb]at hr;simp only[bR]at hb;obtain⟨hm,bU,hs⟩:=hb;obtain rfl:m=n:=cT hm;have hs:(bx x).length=size:=cT hs;cases oQ:rowsOf size (m+1) r with
    |none=>rw[oQ]at hr;cases hr
    |some rs =>
     rw[oQ]at hr;simp only[cond_true,aag,Gx]at hr;subst hr;obtain⟨aj,aX⟩:=py hxu bU
     have fp:us.size=m*size+(size+r.length*size):=by
      rw[hu];simp only[bV,bM];omega
     have cY:u.cells.toList.length=size:=by simp;rw[aj];exact hs
     have DC:=Tw (m*size) u.cells.toList 0 us (by rw[cY];omega);simp only[l8]at DC
     have hz:u.cells.zipIdx.foldl (λcs x=>cs.setIfInBounds (m*size+x.2) x.1) us=(us.toList.take (m*size)++u.cells.toList++us.toList.drop (m*size+u.cells.toList.length)).toArray:=by
      rw[<-DC,<-ZI,ZO]
     have key:∀j,j<(done++bx x).length->((us.toList.take (m*size)++u.cells.toList++us.toList.drop (m*size+u.cells.toList.length)).toArray.getD j undef)=if j<m*size then us.getD j undef else u.cells.getD (j-m*size) undef:=by
      intro j hj;simp only[cZ,hd,hs]at hj;simp only[lA,Z8,gV,cZ,dq,cY,fS,iN];by_cases h1:j<m*size
      .simp[h1,show j<min (m*size) us.size+size by omega,show j<min (m*size) us.size by omega]
      .simp[h1,show min (m*size) us.size=m*size by omega,show j<m*size+size by omega]
     obtain⟨pX,hf,cr⟩:=ih s (m+1) rs (done++bx x) (us.toList.take (m*size)++u.cells.toList++us.toList.drop (m*size+u.cells.toList.length)).toArray (by simpa using hl) (λi hi=>by have:=hv (i+1) (by simp;omega);simpa using this) oQ
      (by simp[hd,hs,bM])
      (by simp only[lF,cZ,dq,nB,cY,Array.length_toList,bM];omega)
      (λi hi=>by
       rw[key i hi];by_cases h1:i<m*size
       .rw[if_pos h1]
        have e:(done++bx x).getD i .Δ=done.getD i .Δ:=by simp[bc,gV,hd,h1]
        rw[e];exact ML i (by omega)
       .rw[if_neg h1]
        have br:i<m*size+size:=by simpa [hd,hs]using hi
        have e:(done++bx x).getD i .Δ=(bx x).getD (i-m*size) .Δ:=by simp[bc,gV,hd,h1]
        rw[e];exact aX _ (by omega))
     refine⟨pX,?_,by simpa using cr⟩;simp only[uG];rw[if_neg ?_]
     .exact(congrArg (λz=>uG (λi=>V (i*size,size)) z s) hz).trans hf
     .simp only[s6,ne_eq,decide_eq_true_eq,not_or,decide_not,lC];rw[aj,hs];simp;omega
def nY{x:AV}{u:Value}(hx:fx x=true)(h:Rd w F β x u):bq w F x u:=by
 cases x<;>first|(cases hx;done)|(cases h;assumption)
def Ig{x:AV}{u:Value}(hx:kH x=true)(h:Rd w F β x u):bq w F x u:=by
 have get:∀(l:List AV)(i:Nat),l.all fx=true->i<l.length->fx (l.getD i .Δ)=true:=λl i hl hi=>by
  have:=eo.1 hl (l.getD i .Δ) (by simp[bc,hi]);exact this
 cases x with
 |a cs =>
  obtain⟨us,rfl,hs,h1,hr⟩:=h.qO;exact .a hs h1 λi hi=>nY (get cs i hx hi) (hr i hi)
 |t cs =>
  obtain⟨us,rfl,hs,hr⟩:=h.B6;exact .t hs λi hi=>nY (get cs i hx hi) (hr i hi)
 |c fn fs cs =>
  simp only[kH,bR]at hx;obtain⟨us,vs,rfl,hs,dG,hr,cr⟩:=h.nG;exact .c hs dG (λi hi=>nY (get fs i hx.1 hi) (hr i hi)) λi hi=>nY (get cs i hx.2 hi) (cr i hi)
 |_=>exact nY hx h
def Tu{ag:Bool}{rows:List (Int×List AV)}{es:Array MapEntry}{ck:Nat}(cO:ZR es ck)(hs:es.size=rows.length)
  (hr:∀(i:Nat)(r:Int×List AV),rows[i]?=V r->∃e:MapEntry,es[i]?=V e/\e.key=.int .i64 r.1/\ae r.1/\bq w F (rG ag r.2) e.val) (n:Int) :
  (∀x∈es.toList,ZQ (.int .i64) x.key) /\
  ((ala (.int .i64) (.int .i64 n) es.toList 0=V none/\ei n rows=none/\(∀x∈es.toList,x.key≠.int .i64 n)) \/
   ∃(j:Nat) (e:MapEntry) (c:List AV),ala (.int .i64) (.int .i64 n) es.toList 0=V (V (j,e.val))/\es[j]?=V e/\e.key=.int .i64 n/\rows[j]?=V (n,c)/\ei n rows=V c/\bq w F (rG ag c) e.val /\
    ∀v,fh n v rows=rows.set j (n,v)):=by
 have mi:∀(i:Nat)(e:MapEntry),es[i]?=V e->∃r,rows[i]?=V r/\e.key=.int .i64 r.1/\bq w F (rG ag r.2) e.val:=λi e he=>by
  have Ξ:i<rows.length:=by have:=(lB.1 he).1;omega
  obtain⟨e',h1,h2,_,h4⟩:=hr i rows[i] (bD Ξ);rw[he]at h1;cases h1;exact⟨_,bD Ξ,h2,h4⟩
 have dQ:∀x∈es.toList,ZQ (.int .i64) x.key:=λx hx=>by
  obtain⟨i,hi⟩:=List.mem_iff_getElem?.1 hx;obtain⟨r,_,h2,_⟩:=mi i x (by simpa using hi);rw[h2];rfl
 refine⟨dQ,?_⟩;have vB:=Eo n ([]:List AV) rows
 rcases Go.MapKept.findNow_spec (d:=.int .i64) (k:=.int .i64 n) rfl es.toList 0 dQ with⟨h1,h2⟩|⟨j,e,h1,h2,h3⟩
 .refine .inl ⟨h1,?_,h2⟩
  rcases vB with⟨h,_,_⟩|⟨j,c,hj,_⟩
  .exact h
  .obtain⟨e,he,hk,_⟩:=hr j _ hj;exact(h2 e (by rw[<-Array.getElem?_toList]at he;exact fz he) hk).elim
 .have iT:es[j]?=V e:=by simpa using h2
  obtain⟨r,Nv,DV,hrv⟩:=mi j e iT
  have H8:r.1=n:=by rw[h3]at DV;cases DV;rfl
  obtain⟨rn,rc⟩:=r;dsimp only at H8;subst H8;refine .inr ⟨j,e,rc,by simpa using h1,iT,h3,Nv,?_⟩
  have uniq:∀(i:Nat)c,rows[i]?=V (rn,c)->i=j:=λi c hi=>by
   obtain⟨e',eN,bG,_⟩:=hr i _ hi;have cz:=cO.2.2
   have l1:(es.toList.map (·.key))[i]?=V (.int .i64 rn):=by rw[o_];simp[eN,bG]
   have l2:(es.toList.map (·.key))[j]?=V (.int .i64 rn):=by rw[o_];simp[iT,h3]
   have cz:=List.pairwise_iff_getElem.1 cz;obtain⟨a1,a2⟩:=eZ.1 l1;obtain⟨b1,b2⟩:=eZ.1 l2
   rcases Nat.lt_trichotomy i j with h|h|h
   .exact(cz i j a1 b1 h (by rw[a2,b2])).elim
   .exact h
   .exact(cz j i b1 a1 h (by rw[a2,b2])).elim
  rcases vB with⟨_,_,h⟩|⟨i,c,hi,hg,_,Ξ⟩
  .exact(h _ (fz Nv) rfl).elim
  .have eX:=uniq i c hi;subst eX;rw[Nv]at hi;cases hi;refine⟨hg,hrv,λv=>?_⟩
   rcases Eo rn v rows with⟨h,_,_⟩|⟨i',c',br,_,dG,_⟩
   .rw[hg]at h;cases h
   .rw[dG,uniq i' c' br]
def Wa{ag:Bool}{y:AV}{u:Value}{yc:List AV}(h:yK ag y=V yc)(hy:Rd w F β y u):bq w F (rG ag yc) u:=by
 cases ag with
 |true =>
  cases y<;>simp[yK]at h;rename_i cs;cases hc:cs.all fx with
  |false=>rw[hc]at h;cases h
  |true =>
   rw[hc]at h;cases h;exact Ig (x:=.a yc) (by simpa [kH]using hc) hy
 |false =>
  by_cases hc:∃fn,y=.c fn [] []
  .obtain⟨fn,rfl⟩:=hc;cases (show V [AV.c fn [] []]=V yc from h);obtain⟨us,vs,rfl,h1,h2,_,_⟩:=hy.nG
   exact .c h1 h2 (λi hi=>by simp at hi) λi hi=>by simp at hi
  have hi:fx y=true/\yc=[y]:=by
   cases y with
   |c fn fs cs =>
    cases fs with
    |cons a b=>simp[yK,fx]at h
    |nil=>cases cs with
     |cons a b=>simp[yK,fx]at h
     |nil=>exact(hc ⟨fn,rfl⟩).elim
   |_=>simp[yK,fx]at h ⊢<;>exact h.symm
  rw[hi.2];exact nY hi.1 hy
def Ou{x:AV}{u:Value}(h:bq w F x u):bq w F (nz x) u:=by
 unfold nz;split
 .cases h;exact .s0
 .exact h
def ae1{rows:List (List AV)}{u:Value}(hr:bq w F (.s rows) u):bq w F (.s (rows.map λr=>r.map nz)) u:=by
 cases hr with
 |s0=>exact .s0
 |@s _ b off c k u hb hc hm hk eT fo fE =>
  have hg:∀i,i<rows.length->(rows.map (λr=>r.map nz)).getD i []=(rows.getD i []).map nz:=λi hi=>by simp[bc,hi]
  have h2:=bq.s (w:=w) (F:=F) (rows:=rows.map (λr=>r.map nz)) (b:=b) (off:=off) (c:=c) (k:=k) (u:=u) hb (by simpa using hc) hm (λi hi=>by
   have hi:i<rows.length:=by simpa using hi
   rw[hg i hi,List.length_map];exact hk i hi) (λi j hi hj=>eT i j (by simpa using hi) hj) (λi j hi hj=>fo i j (by simpa using hi) hj) (λi j hi hj=>by
   have hi:i<rows.length:=by simpa using hi
   rw[hg i hi];have re:=hk i hi
   have:((rows.getD i []).map nz).getD j .Δ=nz ((rows.getD i []).getD j .Δ):=by
    have jF:j<(rows.getD i []).length:=by omega
    simp only[gk,o_]at jF ⊢;rw[bD jF];rfl
   rw[this];exact Ou (fE i j hi hj))
  simpa using h2
def ahP{ag:Bool}{zc:List AV}{u:Value}(h:bq w F (rG ag zc) u):bq w F (rG ag (zc.map nz)) u:=by
 cases ag with
 |true =>
  cases h with
  |a hs h1 h =>
   refine .a (by simpa using hs) (λi hi=>h1 i (by simpa using hi)) λi hi=>?_
   have hi:i<zc.length:=by simpa using hi
   have:(zc.map nz).getD i .Δ=nz (zc.getD i .Δ):=by simp[bc,hi]
   rw[this];exact Ou (h i hi)
 |false =>
  show bq w F ((zc.map nz).getD 0 .Δ) u;have h:bq w F (zc.getD 0 .Δ) u:=h;cases zc with
  |nil=>exact h
  |cons x r=>exact Ou h
def agN{t:Nat}{m i:AV}{c:Bool}{vm vi:Value}(hT:bL P T)(hI:Inv w F β H)(hm:Rd w F β m vm)(hi:Rd w F β i vi)(h:PM T t m i c H k):cj P (KJ t vm vi c) w F β k:=by
 unfold PM at h;split at h
 .rename_i ti kG;split at h
  .rename_i kt e hk;have hu:=(hT _ _ kG).map hk;split at h
   .rename_i ik ie nP tZ;split at h
    .rename_i id n re;have hd:=(hT _ _ nP).int re;cases hi.bK;split at h
     .rename_i ag rows zc hc hz;obtain⟨sf,r,db,h⟩:=cond_prop h
      have sf:ag=qd ie.kind:=by simpa using sf
      obtain⟨b,an,rfl⟩:=hm.yJ;obtain⟨b',es,ck,jr,hh,cO,hs,gA,vP⟩:=hI.holds _ _ (fk hc);rw[an]at jr;cases jr;have hg:=ZS (P:=P) hh;have eU:=Go.MapKept.run_checkKey (P:=P) (w:=w) (k:=.int .i64 n) hd rfl es.isEmpty 9999;obtain⟨_,hf⟩:=Tu cO hs vP n;have hzero:=(hT _ _ tZ).sS w
      have vO:∃v ok,(KJ t (.map (V b)) (.int .i64 n) c).run P w=.ok (if c then .tuple #[v,.bool ok]else v) w/\bq w F (rG ag r) v/\ok=(ei n rows).isSome:=by
       rcases hf with⟨h1,h2,_⟩|⟨j,e',c',h1,_,_,_,h2,h3,_⟩
       .have x_:=Gl (P:=P) (w:=w) hd h1;refine⟨ie.zero,false,?_,?_,by rw[h2];rfl⟩
        .simp[KJ,run_underlying hu,hg,eU,x_,hzero]
        .rw[<-db,h2,Option.getD_none,sf];exact ahP (Wa hz (oa w F ie.zero β))
       .have x_:=Gl (P:=P) (w:=w) hd h1;refine⟨e'.val,true,?_,?_,by rw[h2];rfl⟩
        .simp[KJ,run_underlying hu,hg,eU,x_]
        .rw[<-db,h2,KV];exact h3
      obtain⟨v,ok,bf,hv,bU⟩:=vO;cases c with
      |true =>
       obtain⟨b2,me,bG⟩:=h;refine cj.mk bf bG (.i (.t rfl λi hi=>?_))
       match i,hi with
       |0,_=>exact hv
       |1,_ =>
        show bq w F (.v (.bool b2)) (.bool ok);rw[bU,me];exact .v (.inl rfl)
      |false=>exact cj.mk bf h (.i hv)
     .cases h
    .cases h
   .cases h
  .cases h
 .cases h
end
section
variable{P:Program}{T:TT}{w:World}{F:Nat->Prop}{β:Nat->Value}{H:Hp}{k:AV->Prop}
def uV(w:World)(o:Obj):Below w.heap.size w (w.alloc o):=(Below.refl _ _).alloc (bm _) _
def PA{t len:Nat}{parts:List (Nat×AV)}{vs:Array (Nat×Value)}(hT:bL P T)(hl:parts.length=vs.size)
  (hv:∀i,i<parts.length->(parts.getD i (0,.Δ)).1=(vs.toList.getD i (0,undef)).1/\Rd w F β (parts.getD i (0,.Δ)).2 (vs.toList.getD i (0,undef)).2)
  {K:List (List AV)->Nat->Nat->Prop} (h:zn T t len parts K) :
  ∃rows e size us,K rows e size/\T t=V ⟨.slice e,(((T t).map (·.cells)).getD 0),(((T t).map (·.bytes)).getD 0),(((T t).map (·.zero)).getD undef)⟩/\0<size/\rows.length=len/\(∀i,i<rows.length->(rows.getD i []).length=size) /\
   rT w F β rows.flatten us/\us.size=len*size/\(Rz t len vs).run P w=.ok (.slice (V ⟨w.heap.size,0,none⟩) len len) (w.alloc (.cells us e))/\len<=16777216:=by
 unfold zn at h;split at h
 .rename_i i hi;split at h
  .rename_i e he;split at h
   .rename_i j hj;split at h
    .rename_i rows U_;obtain⟨hb,hk⟩:=cond_prop h;simp only[bR]at hb;obtain⟨h1,h2,h3⟩:=hb;have h1:parts.length=len:=cT h1
     have h2:len*j.cells<=16777216:=by simpa using h2
     have h3:0<j.cells:=by
      rcases Nat.eq_zero_or_pos j.cells with h0|h0
      .rw[h0]at h3;cases h3
      .exact h0
     obtain⟨nT,hri⟩:=X4 U_;have hu:=(hT _ _ hi).slice he;have bd:=(hT _ _ hj).lv w;have hz:=(hT _ _ hj).sS w;let zs:Array Value:=(nw (len*j.cells)).map (j.zero.cells[· % j.zero.cells.size]!);obtain⟨us,hf,fG⟩:=ab_ (w:=w) (F:=F) (β:=β) h3 parts vs.toList 0 rows [] zs (by simpa using hl) hv U_ (by simp) (by simp[zs,h1]) (λi hi=>by simp at hi);simp only[List.nil_append]at fG
     have lV:∀i,i<rows.length->(rows.getD i []).length=j.cells:=λi hi=>by
      obtain⟨_,_,hs,hr⟩:=hri i (by omega);rw[hr];exact hs
     have MT:=Hi rows lV;refine⟨rows,e,j.cells,us,hk,?_,h3,by omega,lV,fG,by rw[fG.1,MT,nT,h1],?_,?_⟩
     .rw[hi];simp;rw[<-he]
     .unfold Rz;simp only[kP,run_underlying hu,mL,bd];rw[if_neg (by omega)];by_cases rf:len*j.cells=0
      .have ada:len=0:=by rcases Nat.mul_eq_zero.1 rf with h|h;exact h;omega
       subst ada;have hp:parts=[]:=qI h1;subst hp;have jG:vs.toList=[]:=qI (by simpa using hl.symm);rw[if_pos rf]
       have iZ:zs=#[]:=by simp[zs]
       have NK:us=#[]:=by
        rw[jG,iZ]at hf;simpa [uG]using hf.symm
       subst NK;have db:nw 0=#[]:=s4 (by simp);simp[jG,uG,newRow,db]
      .rw[if_neg rf];simp only[kP,hz,mL,KY];have q7:uG (λi=>V (i*j.cells,j.cells)) ((nw (len*j.cells)).map (j.zero.cells[· % j.zero.cells.size]!)) vs.toList=V us:=hf;rw[q7];simp[newRow]
     .exact dZ (Nat.le_mul_of_pos_right len h3) h2
    .cases h
   .cases h
  .cases h
 .cases h
def agn{rows:List (List AV)}{size b cap:Nat}{us:Array Value}{e:TypeId}{fr:Nat×Nat}(lV:∀i,i<rows.length->(rows.getD i []).length=size)(fG:∀i,i<rows.flatten.length->(us.getD i undef).oneCell'=true/\bq w F (rows.flatten.getD i .Δ) (us.getD i undef))
  (bd:rows.flatten.length<=us.size) (hb:F b) (hh:w.heap[b]?=V (.cells us e fr)) (hc:rows.length<=cap) (hm:cap<=maxLen):bq w F (.s rows) (.slice (V ⟨b,0,none⟩) rows.length cap):=by
 have MT:=Hi rows lV
 have Ξ:∀i j,i<rows.length->j<size->i*size+j<rows.flatten.length:=λi j hi hj=>by
  rw[MT]
  calc i*size+j<i*size+size:=by omega
   _=(i+1)*size:=by rw[bM];omega
   _<=rows.length*size:=cC _ hi
 refine .s (k:=size) (u:=λi j=>us.getD (i*size+j) undef) hb hc hm lV (λi j hi hj=>?_) (λi j hi hj=>(fG _ (Ξ i j hi hj)).1) λi j hi hj=>?_
 .rw[cell_of_row w b _ us e fr hh,j3];have:=Ξ i j hi hj
  have h2:i*size+j<us.size:=by omega
  simp[h2]
 .have:=(fG _ (Ξ i j hi hj)).2;rwa [L9 rows i j lV hi hj]at this
def Vw{rows:List (List AV)}{us:Array Value}(hi:rows.all (λr=>r.all fx)=true)(h:rT w F β rows.flatten us):
  ∀i,i<rows.flatten.length->(us.getD i undef).oneCell'=true/\bq w F (rows.flatten.getD i .Δ) (us.getD i undef):=by
 intro i Ξ;refine⟨(h.2 i Ξ).1,nY ?_ (h.2 i Ξ).2⟩
 have hm:rows.flatten.getD i .Δ∈rows.flatten:=by
  rw[gk,bD Ξ];exact eA Ξ
 obtain⟨r,hr,hx⟩:=List.mem_flatten.1 hm;exact eo.1 (eo.1 hi r hr) _ hx
def agz{t len:Nat}{parts:List (Nat×AV)}{vs:Array (Nat×Value)}(hT:bL P T)(hI:Inv w F β H)(hl:parts.length=vs.size)
  (hv:∀i,i<parts.length->(parts.getD i (0,.Δ)).1=(vs.toList.getD i (0,undef)).1/\Rd w F β (parts.getD i (0,.Δ)).2 (vs.toList.getD i (0,undef)).2)
  (h:zn T t len parts λrows _ _=>bif rows.all (λr=>r.all fx)then k (.s (rows.map λr=>r.map nz))else False):cj P (Rz t len vs) w F β k:=by
 obtain⟨rows,e,size,us,hk,_,hs,nT,lV,fG,bd,bf,hlen⟩:=PA hT hl hv h;obtain⟨hi,hk⟩:=cond_prop hk;have hb:=uV w (.cells us e);have hF:=hI.cH;refine⟨_,_,_,bf,hb,hk,.i (ae1 ?_)⟩;have iv:=Vw hi fG;rw[<-nT];refine agn (size:=size) (e:=e) (fr:=(0,0)) lV (λi hi=>⟨(iv i hi).1,((iv i hi).2.frame (Below.agree hb hF) λ_ h=>.inl h)⟩) (by rw[fG.1];exact bm _)
  (.inr ⟨bm _,by simp⟩) (heap_alloc_new w _) (bm _) (by rw[nT];unfold maxLen;omega)
def Yb{mn:Bool}{xs:List AV}{vs:List Value}(hl:vs.length=xs.length)(hv:∀i,i<xs.length->Rd w F β (xs.getD i .Δ) (vs.getD i undef))(h:JV mn xs k)(ts:Array TypeId)(ty:TypeId):
  cj P (if mn then alb ts ty vs.toArray else alc ts ty vs.toArray) w F β k:=by
 unfold JV at h;split at h
 .rename_i kx a ky b;obtain⟨hb,r,rfl,hk⟩:=cond_prop h;obtain rfl:=Sv hb
  match vs,hl with
  |[u,v],_ =>
   have h0:=(hv 0 (by simp)).bK;have h1:=(hv 1 (by simp)).bK;simp at h0 h1;subst h0;subst h1;cases mn with
   |true =>
    refine cj.mk (v:=.int kx (min a b)) ?_ hk (.i (.v (.inl rfl)));simp[alb,Builtin.min2];split<;>congr 2<;>omega
   |false =>
    refine cj.mk (v:=.int kx (max a b)) ?_ hk (.i (.v (.inl rfl)));simp[alc,Builtin.max2];split<;>congr 2<;>omega
 .cases h
def agC{b:Builtin}{ts:List Nat}{xs:List AV}{vs:List Value}(hT:bL P T)(hI:Inv w F β H)(hl:vs.length=xs.length)
  (hv:∀i,i<xs.length->Rd w F β (xs.getD i .Δ) (vs.getD i undef)) (h:JT T b ts xs H k) (ty:TypeId) (cs:Array Bool) :
  tn P (builtin b ts.toArray ty cs vs.toArray) w λv w'=>∃r,k r/\Rd w' (fK F w w') β r v:=by
 unfold JT at h;split at h
 .rename_i t x
  match vs,hl with
  |[u],_ =>
   exact(agL hT hI (by simpa using hv 0 (by simp)) h).out
 .rename_i t
  match vs,hl with
  |[u],_ =>
   have NH:Rd w F β (.v (.slice none 0 0)) u:=by simpa using hv 0 (by simp)
   cases NH.bK;split at h
   .rename_i i hi;split at h
    .rename_i e he;have hu:=(hT _ _ hi).slice he;exact(cj.mk (s:=ald #[t] ty #[.slice none 0 0]) (by simp[ald,run_underlying hu,goInt]) h (.i (.v (.inl rfl)))).out
    .cases h
   .cases h
 .exact(Yb (mn:=true) hl hv h ts.toArray ty).out
 .exact(Yb (mn:=false) hl hv h ts.toArray ty).out
 .cases h
def agE{f:AV}{vf:Value}{xs:List AV}{vs:Array Value}(hI:Inv w F β H)(hf:Rd w F β f vf)(hl:vs.size=xs.length)
  (hv:∀i,i<xs.length->Rd w F β (xs.getD i .Δ) (vs.getD i undef)) (h:JU P f xs H k) :
  tn P (do let d <-mw vf vs;invoke d.target d.args) w λv w'=>∃r,k r/\Rd w' (fK F w w') β r v:=by
 unfold JU at h;split at h
 .rename_i g fs cs;obtain⟨r,⟨⟨fn,c,dR,dM,xR⟩,hp⟩,hk⟩:=h;obtain⟨us,ws,rfl,hs,dG,hu,hw⟩:=hf.nG;refine .inr ⟨g,us++vs++ws,?_,?_⟩
  .have ri:¬ fn.name = "runtime.NumGoroutine":=by simpa using dM
   simp[mw,invoke,callFunc,dR,ri,xR]
  .refine(hp w F β (us++vs++ws) hI ?_ λi hi=>?_).mono ?_
   .simp[hs,hl,dG]
   .simp only[cZ]at hi
    have e1:(fs++(xs++cs)).getD i .Δ=if i<fs.length then fs.getD i .Δ else if i<fs.length+xs.length then xs.getD (i-fs.length) .Δ else cs.getD (i-fs.length-xs.length) .Δ:=by
     simp only[bc,gV];by_cases h1:i<fs.length
     .simp[h1]
     .by_cases h2:i<fs.length+xs.length
      .simp[h1,h2,show i-fs.length<xs.length by omega]
      .simp[h1,h2,show ¬i-fs.length<xs.length by omega]
    have e2:(us++vs++ws).getD i undef=if i<fs.length then us.getD i undef else if i<fs.length+xs.length then vs.getD (i-fs.length) undef else ws.getD (i-fs.length-xs.length) undef:=by
     simp only[lA,pZ,s5,hs,hl];by_cases h1:i<fs.length
     .simp[h1,show i<fs.length+xs.length by omega]
     .by_cases h2:i<fs.length+xs.length
      .simp[h1,h2]
      .simp[h1,h2,Nat.sub_sub]
    rw[e1,e2];by_cases h1:i<fs.length
    .rw[if_pos h1,if_pos h1];exact hu i h1
    .rw[if_neg h1,if_neg h1];by_cases h2:i<fs.length+xs.length
     .rw[if_pos h2,if_pos h2];exact hv _ (by omega)
     .rw[if_neg h2,if_neg h2];exact hw _ (by omega)
   .rintro e w' ⟨v,rfl,hb,hr⟩;exact⟨v,rfl,hb,r,hk,.i hr⟩
 .cases h
def agB{b:Builtin}{args:Array Operand}{argTypes:Array TypeId}{ρ:Operand->AV}{a:Act}{type:TypeId}(hT:bL P T)(hI:Inv w F β H)
  (mW:∀i,i<(args.toList.map ρ).length->Rd w F β ((args.toList.map ρ).getD i .Δ) ((args.map a.eval).getD i undef)) (h:JT T b argTypes.toList (args.toList.map ρ) H k) :
  tn P (do let d <-resolve a.eval { callee:=.builtin b,args:=args,argTypes:=argTypes } type;invoke d.target d.args) w λv w'=>∃r,k r/\Rd w' (fK F w w') β r v:=by
 have h1:=agC (P:=P) (ts:=argTypes.toList) (vs:=(args.map a.eval).toList) hT hI (by simp) (λi hi=>by simpa using mW i hi) h type (args.map λ|.const _=>true|_=>false);have e:(do let d <-resolve a.eval { callee:=.builtin b,args:=args,argTypes:=argTypes } type;invoke d.target d.args:Sem Next)=builtin b argTypes type (args.map λ|.const _=>true|_=>false) (args.map a.eval):=rfl;rw[e];exact h1
def agD{f:Operand}{args:Array Operand}{argTypes:Array TypeId}{ρ:Operand->AV}{a:Act}{type:TypeId}(hI:Inv w F β H)(hf:Rd w F β (ρ f) (a.eval f))
  (mW:∀i,i<(args.toList.map ρ).length->Rd w F β ((args.toList.map ρ).getD i .Δ) ((args.map a.eval).getD i undef)) (h:JU P (ρ f) (args.toList.map ρ) H k) :
  tn P (do let d <-resolve a.eval { callee:=.value f,args:=args,argTypes:=argTypes } type;invoke d.target d.args) w λv w'=>∃r,k r/\Rd w' (fK F w w') β r v:=by
 have e:(do let d <-resolve a.eval { callee:=.value f,args:=args,argTypes:=argTypes } type;invoke d.target d.args:Sem Next)=(do let d <-mw (a.eval f) (args.map a.eval);invoke d.target d.args):=rfl;rw[e];exact agE hI hf (by simp) mW h
def IZ(ρ:Operand->AV)(e:Operand->Value)(parts:Array (Nat×Operand)):(parts.toList.map λq=>(q.1,ρ q.2)).length=(parts.map λx=>(x.1,e x.2)).size:=by simp
def I1{ρ:Operand->AV}{e:Operand->Value}{parts:Array (Nat×Operand)}(h:∀x,(∃i,(i,x)∈parts)->Rd w F β (ρ x) (e x))(i:Nat)(hi:i<(parts.toList.map λq=>(q.1,ρ q.2)).length):
  ((parts.toList.map λq=>(q.1,ρ q.2)).getD i (0,.Δ)).1=((parts.map λx=>(x.1,e x.2)).toList.getD i (0,undef)).1 /\
   Rd w F β ((parts.toList.map λq=>(q.1,ρ q.2)).getD i (0,.Δ)).2 ((parts.map λx=>(x.1,e x.2)).toList.getD i (0,undef)).2:=by
 simp at hi;have:=h parts[i].2 ⟨parts[i].1,Array.getElem_mem hi⟩;simpa [bc,hi]using this
def Bk{x:AV}{u:Value}(h:bq w F x u):bq w F (nz x) u:=by
 unfold nz;split
 .cases h;exact .s0
 .exact h
def V3{z:Array Value}{n q:Nat}(h:q<n):((nw n).map (z[· % z.size]!)).getD q undef=z[q % z.size]!:=by simp[h]
def agO{t:Nat}{l c:AV}{vl vc:Value}(hT:bL P T)(hI:Inv w F β H)(hl:Rd w F β l vl)(hc:Rd w F β c vc)(h:PN T t l c k):cj P (uH t vl vc) w F β k:=by
 unfold PN at h;split at h
 .rename_i i kl nl kc nc hi;cases hl.bK;cases hc.bK;split at h
  .rename_i e he;have hu:=(hT _ _ hi).slice he;split at h
   .rename_i j hj;obtain⟨hb,n,m,rfl,rfl,dM,hm,kY,R,rfl,hk⟩:=cond_prop h;simp only[bR]at hb;obtain⟨bU,hlen,iv⟩:=hb;have hlen:(bx (bZ j.zero)).length=j.cells:=cT hlen;have hz:=py (oa w F j.zero β) bU
    have iZ:j.zero.cells.size=j.cells:=by rw[hz.1,hlen]
    obtain⟨inf,pI,hzero,eO,nL⟩:=(hT _ _ hj).info;have qs:IntKind.i64.wrap (n:Int)=(n:Int):=wZ _ (by omega);have yy:IntKind.i64.wrap (m:Int)=(m:Int):=wZ _ (by omega)
    have hbm:(inf.bytes:Int)*(m:Int)<=140737488355328:=by
     have h5:((m*j.bytes:Nat):Int)=(j.bytes:Int)*(m:Int):=by rw[Int.natCast_mul,Int.mul_comm]
     rw[nL,<-h5];omega
    have bf:(uH t (.int kl (n:Int)) (.int kc (m:Int))).run P w=.ok (.slice (V ⟨w.heap.size,0,none⟩) n m) (w.alloc (.cells ((nw (m*j.cells)).map (j.zero.cells[· % j.zero.cells.size]!)) e)):=by
     have h1:¬((m:Int)<0):=by omega
     have h2:¬(281474976710656<(inf.bytes:Int)*(m:Int)):=by omega
     have h3:¬((n:Int)<0):=by omega
     have h4:¬((m:Int)<(n:Int)):=by omega
     by_cases h0:m*j.cells=0
     .have db:nw (m*j.cells)=#[]:=by rw[h0];exact s4 (by simp)
      simp[uH,run_underlying hu,asInt,asIntOf,typeInfo,pI,qs,yy,h1,h2,h3,h4,sizeOf,eO,h0,newRow];rw[h0]at db;simp[db]
     .simp[uH,run_underlying hu,asInt,asIntOf,typeInfo,pI,qs,yy,h1,h2,h3,h4,sizeOf,eO,h0,newRow,zeroValue,hzero]
    let w':=w.alloc (.cells ((nw (m*j.cells)).map (j.zero.cells[· % j.zero.cells.size]!)) e);have vC:=uV w (.cells ((nw (m*j.cells)).map (j.zero.cells[· % j.zero.cells.size]!)) e)
    have MW:w'.heap[w.heap.size]?=V (.cells ((nw (m*j.cells)).map (j.zero.cells[· % j.zero.cells.size]!)) e (0,0)):=by
     show(w.heap.push _)[w.heap.size]?=_;exact Array.getElem?_push_size
    refine⟨_,_,_,bf,vC,hk,.i ?_⟩;have:=bq.s (w:=w') (F:=fK F w w') (rows:=ia n ((bx (bZ j.zero)).map nz)) (b:=w.heap.size) (off:=0) (c:=m) (k:=j.cells) (u:=λq z=>((nw (m*j.cells)).map (j.zero.cells[· % j.zero.cells.size]!)).getD (q*j.cells+z) undef)
     (.inr ⟨bm _,by simp[w']⟩) (by simpa using dM) (by unfold maxLen;omega) (λq hq=>by simp at hq;simp[bc,hq,hlen]) (λq z hq g_=>?_) (λq z hq g_=>?_) (λq z hq g_=>?_)
    .simpa using this
    all_goals
     simp only[List.length_replicate]at hq
     have Ξ:q*j.cells+z<m*j.cells:=by
      calc q*j.cells+z<q*j.cells+j.cells:=by omega
       _=(q+1)*j.cells:=by rw[bM];omega
       _<=m*j.cells:=cC _ (by omega)
    .rw[cell_of_row _ _ _ _ _ _ MW,j3];simp[Ξ]
    all_goals
     rw[V3 Ξ,iZ]
     have e1:(q*j.cells+z) % j.cells=z:=by rw[Nat.mul_comm,Nat.mul_add_mod];exact Nat.mod_eq_of_lt g_
     rw[e1];have h2:=hz.2 z (by omega)
     have e2:j.zero.cells[z]! = j.zero.cells.getD z undef:=by
      have:z<j.zero.cells.size:=by omega
      simp[this]
     rw[e2]
    .exact h2.1
    .have e3:((ia n ((bx (bZ j.zero)).map nz)).getD q []).getD z .Δ=nz ((bx (bZ j.zero)).getD z .Δ):=by
      have yA:z<(bx (bZ j.zero)).length:=by omega
      simp[bc,hq,yA]
     rw[e3];refine(Bk (nY (eo.1 iv _ ?_) h2.2)).frame (Below.agree vC hI.cH) λ_ h=>.inl h;rw[gk,bD (show z<(bx (bZ j.zero)).length by omega)];exact eA _
   .cases h
  .cases h
 .cases h
def Kf{o:Oper}{ρ:Operand->AV}{a:Act}(hT:bL P T)(hI:Inv w F β H)(bI:∀x,x∈o.op.operands->Rd w F β (ρ x) (a.eval x))
  (h:nr P T o ρ H k):tn P (execOp a.eval o) w λv w'=>∃r,k r/\Rd w' (fK F w w') β r v:=by
 obtain⟨dst,op,type,pos,after,guard⟩:=o;cases op<;>simp only[nr]at h<;>simp only[Op.operands]at bI<;>simp only[execOp]
 case move x=>exact .inl ⟨_,w,rfl,Below.refl _ _,_,h,(bI x (by simp)).here⟩
 case assign x=>exact .inl ⟨_,w,rfl,Below.refl _ _,_,h,(bI x (by simp)).here⟩
 case pick c x y=>exact agQ (bI c (by simp)) (bI x (by simp)) (bI y (by simp)) h
 case extract t i=>exact(agH (bI t (by simp)) h).out
 case unOp op t x=>exact(agT (bI x (by simp)) h).out
 case binOp op t x y t'=>exact(agy hT (bI x (by simp)) (bI y (by simp)) x y h).out
 case convert s d x=>exact(agF hT (bI x (by simp)) h).out
 case fieldAddr t x f=>exact(agI hT (bI x (by simp)) h).out
 case load t x=>exact(agM hT hI (bI x (by simp)) h).out
 case indexAddr t x i=>exact(agJ hT hI (bI x (by simp)) (bI i (by simp)) h).out
 case lookup t x i c=>exact(agN hT hI (bI x (by simp)) (bI i (by simp)) h).out
 case index t x i=>exact(agK hT (bI x (by simp)) (bI i (by simp)) h).out
 case slice t x lo hi mx =>
  cases mx with
  |some m =>
   cases lo with
   |some l=>unfold FE at h;split at h<;>first|exact h.elim|simp_all
   |none=>cases hi with
    |none=>unfold FE at h;split at h<;>first|exact h.elim|simp_all
    |some l=>exact(agR hT (bI x (by simp)) (bI l (by simp)) (bI m (by simp)) h).out
  |none =>
   refine(agS (vlo:=lo.map a.eval) (vhi:=hi.map a.eval) hT (bI x (by simp)) ?_ ?_ hI h).out
   .cases lo with
    |none=>exact True.intro
    |some l=>exact bI l (by simp)
   .cases hi with
    |none=>exact True.intro
    |some l=>exact bI l (by simp)
 case build t parts =>
  exact(agA hT (IZ ρ a.eval parts) (I1 λx hx=>bI x (by simpa using hx)) h).out
 case buildSlice t n parts =>
  exact(agz hT hI (IZ ρ a.eval parts) (I1 λx hx=>bI x (by simpa using hx)) h).out
 case makeFunc fn fs cs =>
  refine .inl ⟨_,w,rfl,Below.refl _ _,_,h,?_⟩;refine .c (by simp) (by simp) (λi hi=>?_) λi hi=>?_
  .simp at hi;have:=bI (fs[i]) (by simp);simpa [bc,hi]using this.here
  .simp at hi;have:=bI (cs[i]) (by simp);simpa [bc,hi]using this.here
 case nilCheck x =>
  obtain⟨⟨r,hk,hr⟩,hs⟩:=agP (bI x (by simp)) h;generalize a.eval x=vx at hr hs ⊢
  rcases hs with⟨a,rfl⟩|⟨g,fs,cs,rfl⟩
  iterate 2 exact .inl ⟨_,w,rfl,Below.refl _ _,_,hk,hr.here⟩
 case makeSlice t l c=>exact(agO hT hI (bI l (by simp)) (bI c (by simp)) h).out
 case call c =>
  obtain⟨callee,args,argTypes⟩:=c
  have mW:∀i,i<(args.toList.map ρ).length->Rd w F β ((args.toList.map ρ).getD i .Δ) ((args.map a.eval).getD i undef):=λi hi=>by
   simp at hi;have:=bI args[i] (by simp[Call.operands]);simpa [bc,hi]using this
  cases callee with
  |builtin b=>exact agB hT hI mW h
  |value f=>exact agD hI (bI f (by simp[Call.operands])) mW h
  |invoke r m=>cases h
 all_goals cases h
end
def sb(z:AV):Nat->Nat->AV->AV
 |n,id,x=>match x with
  |.b i o=>bif aM i id then .Δ else .b i o
  |.o i=>bif aM i id then z else .o i
  |.e i K m j=>bif aM i id then .Δ else .e i K m j
  |.w i K d=>bif aM i id then .Δ else .w i K d
  |.m i=>bif aM i id then .Δ else .m i
  |.a cs=>match n with
   |0=>.Δ
   |n+1=>.a (cs.map (sb z n id))
  |.t cs=>match n with
   |0=>.Δ
   |n+1=>.t (cs.map (sb z n id))
  |.c fn fs cs=>match n with
   |0=>.Δ
   |n+1=>.c fn (fs.map (sb z n id)) (cs.map (sb z n id))
  |.v x=>.v x
  |.s r=>.s r
  |.p c=>.p c
  |.z=>.z
  |.Δ=>.Δ
abbrev er(n id:Nat)(x:AV):AV:=sb .Δ n id x
def pC(id:Nat):Chunk->Chunk
 |.box cells=>.box (cells.map (er 1 id))
 |.own E k rows=>.own E k rows
 |.mp ag rows=>.mp ag rows
 |.lp l e R L=>.lp l e R (L.map λp=>(p.1,er 2 id p.2))
 |.si s pos=>.si s pos
def iq(id:Nat):Hp->Hp
 |[]=>[]
 |(i,c)::r=>bif aM i id then iq id r else(i,pC id c)::iq id r
def ej(f:Nat->AV)(d:Nat)(x:AV):Nat->AV:=λt=>bif aM t d then x else f t
section
variable{w:World}{F:Nat->Prop}{β ay:Nat->Value}
def Hh{id i:Nat}{x:AV}{u:Value}(h:i≠id->Rd w F ay x u):Rd w F ay (bif aM i id then .Δ else x) u:=by
 cases hb:aM i id with
 |true=>exact .Δ
 |false=>exact h λe=>by rw[e,jv]at hb;cases hb
def agV{z:AV}{id i:Nat}{x:AV}{u:Value}(hz:i=id->Rd w F ay z u)(h:i≠id->Rd w F ay x u):Rd w F ay (bif aM i id then z else x) u:=by
 cases hb:aM i id with
 |true=>exact hz (cT hb)
 |false=>exact h λe=>by rw[e,jv]at hb;cases hb
def rC{z:AV}{id:Nat}(hz:∀u,Rd w F β (.o id) u->Rd w F ay z u)(an:∀i,i≠id->ay i=β i):∀(n:Nat){x:AV}{u:Value},Rd w F β x u->Rd w F ay (sb z n id x) u:=by
 have Su:∀{i o:Nat}{u:Value},Rd w F β (.b i o) u->Rd w F ay (bif aM i id then .Δ else .b i o) u:=λh=>Hh λhi=>by
  obtain⟨fV,h1,rfl⟩:=h.mP;exact .b ((an _ hi).trans h1)
 have Wl:∀{i:Nat}{u:Value},Rd w F β (.o i) u->Rd w F ay (bif aM i id then z else .o i) u:=λh=>agV (λe=>hz _ (e▸h)) λhi=>by
  obtain⟨a,n,c,h1,rfl⟩:=h.ko;exact .o ((an _ hi).trans h1)
 have Tc:∀{i K m j:Nat}{u:Value},Rd w F β (.e i K m j) u->Rd w F ay (bif aM i id then .Δ else .e i K m j) u:=λh=>Hh λhi=>by
  obtain⟨g,n,c,h1,rfl⟩:=h.Al;exact .e ((an _ hi).trans h1)
 have V2:∀{i:Nat}{u:Value},Rd w F β (.m i) u->Rd w F ay (bif aM i id then .Δ else .m i) u:=λh=>Hh λhi=>by
  obtain⟨b,h1,rfl⟩:=h.yJ;exact .m ((an _ hi).trans h1)
 have Y1:∀{i K d:Nat}{u:Value},Rd w F β (.w i K d) u->Rd w F ay (bif aM i id then .Δ else .w i K d) u:=λh=>Hh λhi=>by
  obtain⟨a,a',n,c,h1,h2,h3,rfl⟩:=h.wQ;exact .w ((an _ hi).trans h1) h2 h3
 have YZ:∀{x u:Value},Rd w F β (.v x) u->Rd w F ay (.v x) u:=λh=>by cases h;exact .i (by assumption)
 intro n;induction n with
 |zero =>
  intro x u h;cases x with
  |v x=>exact YZ h
  |s r=>exact .i h.oX
  |p c=>exact .i h.Bp
  |Δ=>exact .Δ
  |a cs=>exact .Δ
  |t cs=>exact .Δ
  |c fn fs cs=>exact .Δ
  |b i o=>exact Su h
  |o i=>exact Wl h
  |e i K m j=>exact Tc h
  |w i K d=>exact Y1 h
  |m i=>exact V2 h
  |z=>obtain⟨a,rfl⟩:=h.zK;exact .i .z
 |succ n ih =>
  have get:∀(l:List AV)(i:Nat),i<l.length->(l.map (sb z n id)).getD i .Δ=sb z n id (l.getD i .Δ):=λl i hi=>by simp[bc,hi]
  intro x u h;cases x with
  |v x=>exact YZ h
  |s r=>exact .i h.oX
  |p c=>exact .i h.Bp
  |Δ=>exact .Δ
  |a cs =>
   show Rd w F ay (.a (cs.map (sb z n id))) u;obtain⟨us,rfl,hs,h1,hr⟩:=h.qO;refine .a (by simpa using hs) (λi hi=>h1 i (by simpa using hi)) λi hi=>?_
   have hi:i<cs.length:=by simpa using hi
   rw[get cs i hi];exact ih (hr i hi)
  |t cs =>
   show Rd w F ay (.t (cs.map (sb z n id))) u;obtain⟨us,rfl,hs,hr⟩:=h.B6;refine .t (by simpa using hs) λi hi=>?_
   have hi:i<cs.length:=by simpa using hi
   rw[get cs i hi];exact ih (hr i hi)
  |c fn fs cs =>
   show Rd w F ay (.c fn (fs.map (sb z n id)) (cs.map (sb z n id))) u;obtain⟨us,vs,rfl,hs,dG,hr,cr⟩:=h.nG;refine .c (by simpa using hs) (by simpa using dG) (λi hi=>?_) λi hi=>?_
   .have hi:i<fs.length:=by simpa using hi
    rw[get fs i hi];exact ih (hr i hi)
   .have hi:i<cs.length:=by simpa using hi
    rw[get cs i hi];exact ih (cr i hi)
  |b i o=>exact Su h
  |o i=>exact Wl h
  |e i K m j=>exact Tc h
  |w i K d=>exact Y1 h
  |m i=>exact V2 h
  |z=>obtain⟨a,rfl⟩:=h.zK;exact .i .z
def rZ{id:Nat}(an:∀i,i≠id->ay i=β i)(n:Nat){x:AV}{u:Value}(h:Rd w F β x u):Rd w F ay (er n id x) u:=rC (λ_ _=>.Δ) an n h
def iH{id:Nat}:∀{H:Hp}{i:Nat}{c:Chunk},(i,c)∈iq id H->i≠id/\∃c',(i,c')∈H/\c=pC id c'
 |[],_,_,h=>by cases h
 |(j,c')::r,i,c,h=>by
  simp only[iq]at h;cases hb:aM j id with
  |true =>
   rw[hb]at h;obtain⟨h1,c2,h2,h3⟩:=iH (H:=r) h;exact⟨h1,c2,cw _ h2,h3⟩
  |false =>
   rw[hb]at h;simp only[cond_false,bp,Prod.mk.injEq]at h
   rcases h with⟨rfl,rfl⟩|h
   .exact⟨λe=>(by rw[e,jv]at hb;cases hb),c',by simp,rfl⟩
   .obtain⟨h1,c2,h2,h3⟩:=iH (H:=r) h;exact⟨h1,c2,cw _ h2,h3⟩
def C8{id:Nat}:∀{H:Hp},(H.map (·.1)).Nodup->((iq id H).map (·.1)).Nodup
 |[],_=>by simp[iq]
 |(j,c)::r,h=>by
  simp only[fT,iO]at h;simp only[iq];cases hb:aM j id with
  |true=>exact C8 h.2
  |false =>
   simp only[cond_false,fT,iO];refine⟨λhm=>?_,C8 h.2⟩;obtain⟨x,hx,jU⟩:=cL.1 hm;obtain⟨i,c'⟩:=x;obtain⟨_,c2,h2,_⟩:=iH hx;exact h.1 (cL.2 ⟨(i,c2),h2,jU⟩)
def HY{id i:Nat}{c:Chunk}(hi:i≠id)(an:∀i,i≠id->ay i=β i)(h:c.holds w F β i):(pC id c).holds w F ay i:=by
 cases c with
 |box cells =>
  obtain⟨b,cs,e,hb,hh,hs,h1,hr⟩:=h;refine⟨b,cs,e,(an i hi).trans hb,hh,by simpa using hs,λj hj=>h1 j (by simpa using hj),λj hj=>?_⟩
  have hj:j<cells.length:=by simpa using hj
  have:(cells.map (er 1 id)).getD j .Δ=er 1 id (cells.getD j .Δ):=by simp[bc,hj]
  rw[this];exact rZ an 1 (hr j hj)
 |own E k rows =>
  unfold pC Chunk.holds at *;rw[an i hi];exact h
 |mp ag rows =>
  unfold pC Chunk.holds at *;rw[an i hi];exact h
 |si s pos =>
  unfold pC Chunk.holds at *;rw[an i hi];exact h
 |lp l e R L =>
  obtain⟨fn,tmps,D,hb,hh,hn,hr⟩:=h;refine⟨fn,tmps,D,(an i hi).trans hb,hh,hn,λp hp=>?_⟩;obtain⟨q,hq,rfl⟩:=cL.1 hp;exact rZ an 2 (hr q hq)
def pM{w':World}{F':Nat->Prop}{i:Nat}{c:Chunk}(ha:gn F w w')(hF:∀b,F b->F' b)(hb:∀b,bP (β i)=V b->w'.heap[b]?=w.heap[b]?)(h:c.holds w F β i):c.holds w' F' β i:=by
 cases c with
 |box cells =>
  obtain⟨b,cs,e,an,hh,hs,h1,hr⟩:=h;exact⟨b,cs,e,an,by rw[hb b (by rw[an];rfl)];exact hh,hs,h1,λj hj=>(hr j hj).frame ha hF⟩
 |mp ag rows =>
  obtain⟨b,es,ck,an,hh,cO,hs,hm,hr⟩:=h;refine⟨b,es,ck,an,by rw[hb b (by rw[an];rfl)];exact hh,cO,hs,hm,λi r hi=>?_⟩;obtain⟨e,h1,h2,h3,h4⟩:=hr i r hi;exact⟨e,h1,h2,h3,h4.frame ha hF⟩
 |lp l e R L =>
  obtain⟨fn,tmps,D,an,hh,hn,hr⟩:=h;exact⟨fn,tmps,D,an,by rw[hb l (by rw[an];rfl)];exact hh,hn,λp hp=>(hr p hp).frame ha hF⟩
 |si s pos =>
  obtain⟨b,an,hh⟩:=h;exact⟨b,an,by rw[hb b (by rw[an];rfl)];exact hh⟩
 |own E k rows =>
  rcases h with h|⟨g,cap,cur,hv,hc,hg,hn,hm,hs,hk,hr⟩
  .exact .inl h
  .have h0:aM cap 0=false:=by cases cap<;>first|rfl|omega
   refine .inr ⟨g,cap,cur,hv,hc,by rw[hb g (by rw[hv];simp[bP,h0])];exact hg,hn,hm,hs,hk,λi j hi hj=>⟨(hr i j hi hj).1,(hr i j hi hj).2.frame ha hF⟩⟩
def vq{st:ak}{w':World}(hI:Inv w F β st.H)(hb:Below w.heap.size w w'):Ext w F β st w' (fK F w w') β st where
 os:=hb.os
 tape:=hb.tape
 output:=hb.output
 size:=hb.size
 block _ h _:=hb.block _ h
 mono _ h:=.inl h
 new _ h:=h.elim .inl λh=>.inr (.inl h.1)
 owned _ h:=.inr h
 keep _ _ h:=h.later hb hI.cH
 inv:={
  cH:=λb h=>h.elim (λh=>ou (hI.cH b h) hb.size) λh=>h.2
  holds:=λid c hm=>pM (Below.agree hb hI.cH) (λ_ h=>.inl h) (λb kX=>hb.block b (hI.gg ⟨id,c,hm,kX⟩)) (hI.holds id c hm)
  keys:=hI.keys
  apart:=λb ho h=>h.elim (hI.apart b ho) λh=>absurd (hI.gg ho) (mJ.2 h.1)
  eD:=hI.eD
  fC:=hI.fC.frame (Below.agree hb hI.cH) λ_ h=>.inl h }
 gC _ _:=rfl
def qg{st:ak}{w':World}{d:Nat}{c:Chunk}{v:Value}(hd:d<1000)(hI:Inv w F β st.H)(ug:w'.os=w.os)(NC:jL w w')(sF:w'.output=w.output)(eO:w.heap.size<=w'.heap.size)
  (AF:∀b,b<w.heap.size->¬bH β st.H b->w'.heap[b]?=w.heap[b]?)
  (adr:∀i c' b,i≠d->(i,c')∈st.H->bP (β i)=V b->w'.heap[b]?=w.heap[b]?)
  (eY:∀b,bP v=V b->w.heap.size<=b\/∃c',(d,c')∈st.H/\bP (β d)=V b)
  (hc:c.holds w' F (λi=>if i=d then v else β i) d) :
  Ext w F β st w' F (λi=>if i=d then v else β i) ⟨λt=>er 2 d (st.f t),(d,c)::iq d st.H⟩:=by
 have an:∀i,i≠d->(λi=>if i=d then v else β i) i=β i:=λi hi=>if_neg hi;have ha:gn F w w':=λb hb=>AF b (hI.cH b hb) λho=>hI.apart b ho hb
 have dB:∀b,bH (λi=>if i=d then v else β i) ((d,c)::iq d st.H) b->w.heap.size<=b\/bH β st.H b:=by
  rintro b ⟨i,c',hm,hb⟩
  rcases bp.1 hm with hm|hm
  .cases hm;simp only[if_true]at hb
   rcases eY b hb with h|⟨c',h1,h2⟩
   .exact .inl h
   .exact .inr ⟨d,c',h1,h2⟩
  .obtain⟨hi,c2,h2,_⟩:=iH hm;simp only[if_neg hi]at hb;exact .inr ⟨i,c2,h2,hb⟩
 refine⟨ug,NC,sF,eO,AF,λ_ h=>h,λ_ h=>.inl h,dB,λt u h=>rZ an 2 (h.frame ha λ_ h=>h),?_,λi hi=>an i (by omega)⟩;refine⟨λb hb=>ou (hI.cH b hb) eO,?_,?_,?_,?_,hI.fC.at ha⟩
 .intro i c' hm
  rcases bp.1 hm with hm|hm
  .cases hm;exact hc
  .obtain⟨hi,c2,h2,rfl⟩:=iH hm;exact HY hi an (pM ha (λ_ h=>h) (λb hb=>adr i c2 b hi h2 hb) (hI.holds i c2 h2))
 .simp only[fT,iO];refine⟨λhm=>?_,C8 hI.keys⟩;obtain⟨x,hx,jU⟩:=cL.1 hm;obtain⟨i,c'⟩:=x;exact(iH hx).1 jU
 .intro b ho hF
  rcases dB b ho with h|h
  .exact absurd (hI.cH b hF) (mJ.2 h)
  .exact hI.apart b h hF
 .have key:∀i c' b,(i,c')∈iq d st.H->bP (β i)=V b->bP v=V b->False:=by
   intro i c' b hm hb hv;obtain⟨hi,c2,h2,_⟩:=iH hm
   rcases eY b hv with h|⟨c3,h3,h4⟩
   .exact absurd (hI.gg ⟨i,c2,h2,hb⟩) (mJ.2 h)
   .exact hi (hI.eD i c2 d c3 b h2 h3 hb h4)
  intro i c1 i' pn b hm bN hb aN
  rcases bp.1 hm with hm|hm<;>rcases bp.1 bN with bN|bN
  .cases hm;cases bN;rfl
  .cases hm;simp only[if_true]at hb;have br:=(iH bN).1;simp only[if_neg br]at aN;exact(key i' pn b bN aN hb).elim
  .cases bN;simp only[if_true]at aN;have hi:=(iH hm).1;simp only[if_neg hi]at hb;exact(key i c1 b hm hb aN).elim
  .obtain⟨hi,c2,h2,_⟩:=iH hm;obtain⟨br,z_,iT,_⟩:=iH bN;simp only[if_neg hi]at hb;simp only[if_neg br]at aN;exact hI.eD i c2 i' z_ b h2 iT hb aN
end
end
end Go.Cat
