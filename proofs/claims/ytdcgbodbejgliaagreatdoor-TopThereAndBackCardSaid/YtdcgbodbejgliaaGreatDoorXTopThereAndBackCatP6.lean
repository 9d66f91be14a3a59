/- The logic that the walks are in, piece P6. No condition. -/
import Derived.Test.YtdcgbodbejgliaaGreatDoorXTopThereAndBackCatP5
import Derived.Laws.AppendOwn
import Derived.Shelf.SlIterI.Nil
import Derived.Shelf.SortM.Plain
import Derived.Shelf.SortM.SortNone
import Derived.RangeFuncBox
import Derived.RangeFuncWrites
import Derived.RangeFuncLeaves
open Option renaming some->V
open Array renaming eq_empty_of_size_eq_zero->s4,getElem?_append->pZ,getD->wV
open Bool renaming and_eq_true->bR,not_eq_true'->lC
open Go.RowKit.Below renaming heap_alloc->Ru
open Go.Target.collected renaming injEq->aln
open Go.World renaming putObj_size->kz,putObj_heap_other->qa,putObj_heap_same->K3,alloc_heap_new->aaq
open List renaming length_map->au,mem_cons->bp,mem_cons_of_mem->cw,getD->bc,mem_singleton->cV,mem_map->cL,pairwise_cons->e9,mem_append->ep,all_eq_true->eo,getElem_mem->eA,not_mem_nil->fu,map_cons->fT,mem_cons_self->kr,nodup_cons->iO,range->gM,eq_nil_of_length_eq_zero->qI,any_eq_false->qG,nodup_nil->qK,mem_iff_getElem->CA,perm_cons->alm
open Nat renaming mul_le_mul_right->cC,eq_of_beq_eq_true->cT,le_refl->bm,beq->aM,eq_zero_or_pos->pf,blt->eS,blt_eq->gW,beq_refl->jv,lt_of_lt_of_le->ou,mul_comm->ow,not_lt->mJ,le_of_ble_eq_true->zT,ble->p9,not_lt_zero->alk
open Option.some renaming inj->iP,injEq->Gx
namespace Go.Cat
set_option linter.all false
section
open Go.RowKit
variable[M:cD][G:ed][R:eF]
section
variable{P:Program}
def Fz.w{H:Hp}{id E K d:Nat}{rows:List (List AV)}(h:dP id H=V (.own E K rows)):Fz H (.w id K d) (.s (rows.drop d)):=λw F β u hI hr=>by
 obtain⟨a,a',n,c,an,hd,ha,rfl⟩:=hr.wQ;have hm:=fk h
 rcases hI.holds _ _ hm with⟨rfl,a2,hv⟩|⟨g,cap,cur,hv,hc,hg,hn,gA,hs,hK,hr⟩
 .rw[an]at hv;cases hv
  have:d=0:=by omega
  subst this;exact .s0
 .rw[an]at hv;cases hv
  have h0:aM c 0=false:=by cases c<;>first|rfl|omega
  have eT:=(IQ (hI.holds _ _ hm) an).2.2.2;obtain⟨u,hu⟩:=eT
  have hlen:(rows.drop d).length=rows.length-d:=by simp
  by_cases hdc:d<c
  .have ha:=ha hdc;subst ha
   have e:(Option.map (·.add (d*K)) (V (⟨g,0,none⟩:Addr)))=V ⟨g,d*K,none⟩:=by simp[Addr.add_lit]
   rw[e,<-hlen]
   have kF:∀i,i<(rows.drop d).length->(rows.drop d).getD i []=rows.getD (d+i) []:=λi hi=>by simp[bc,List.getElem?_drop]
   refine .s (off:=d*K) (k:=K) (u:=λi j=>u (d+i) j) (.inr ⟨id,_,hm,by rw[an];simp[bP,h0]⟩) (by omega) (by omega) (λi hi=>?_) (λi j hi hj=>?_) (λi j hi hj=>?_) λi j hi hj=>?_
   .rw[kF i hi];exact hK _ (by omega)
   .have:=(hu (d+i) j (by omega) hj).1;rw[<-this];congr 2;rw[Nat.add_mul];omega
   .exact(hu (d+i) j (by omega) hj).2.1
   .rw[kF i hi];exact(hu (d+i) j (by omega) hj).2.2.frame (λ_ _=>rfl) λ_ h=>.inl h
  .have xU:rows.length-d=0:=by omega
   have aj:c-d=0:=by omega
   have:rows.drop d=[]:=qI (by omega);rw[xU,aj,this];exact .s0
def Fz.wm{α:Type}{f:α->List AV}{l:List α}{H:Hp}{id E K d:Nat}(h:dP id H=V (.own E K (l.map f))):Fz H (.w id K d) (.s ((l.drop d).map f)):=by
 rw[List.map_drop];exact Fz.w h
end
section
variable{P:Program}
def aat(P:Program)(g k1:Nat):Prop:=∀(b:Nat)(w:World),
 Calls P g #[.map (V b)] w λe w'=>e=.returned (.func (.func k1) #[] #[.pointer (V ⟨w.heap.size,0,none⟩)])/\∃T,w'=w.alloc (.cells #[.map (V b)] T)
def Ω.keys{g k1 id D:Nat}{ag:Bool}{rows:List (Int×List AV)}{st:ak}{k:AV->ak->Prop}(hS:aat P g k1)(hE:qb P g)(hc:dP id st.H=V (.mp ag rows))(hD:eS D 1000=true)(aI:aM id D=false)
  (hk:k (.c (.func k1) [] [.b D 0]) (ij st D (.box [.m id]))):Ω P g [.m id] st k:=by
 refine⟨hE,λw F β vs hI hs hv=>?_⟩
 have ac5:id≠D:=λe=>by rw[e,jv]at aI;cases aI
 obtain⟨b,an,hv0⟩:=(hv 0 (by simp)).yJ
 have jG:vs=#[.map (V b)]:=by
  apply Array.ext
  .simpa using hs
  .intro i h1 h2;have h2:i<1:=h2
   have:i=0:=by omega
   subst this;simpa [wV,h1]using hv0
 subst jG;refine(hS b w).mono ?_;rintro e w' ⟨rfl,T,rfl⟩;have hb:=uV w (.cells #[.map (V b)] T);have eY:(w.alloc (.cells #[.map (V b)] T)).heap[w.heap.size]?=V (.cells #[.map (V b)] T):=(Go.MapKept.heap_alloc w _).1
 refine⟨_,rfl,_,_,F,λq=>if q=D then .pointer (V ⟨w.heap.size,0,none⟩)else β q,hk,.c rfl rfl (λi hi=>by simp at hi) (λi hi=>?_),qg (v:=.pointer (V ⟨w.heap.size,0,none⟩)) (by simpa using hD) hI hb.os hb.tape hb.output hb.size (λb aN _=>hb.block b aN)
  (λi c' b _ hm aN=>hb.block b (hI.gg ⟨i,c',hm,aN⟩)) (λb aN=>.inl ?_) ?_⟩
 .have hi:i<1:=by simpa using hi
  have:i=0:=by omega
  subst this;exact .b (by simp)
 .simp[bP]at aN;omega
 .refine⟨w.heap.size,#[.map (V b)],T,by simp,eY,rfl,λi hi=>?_,λi hi=>?_⟩
  .have hi:i<1:=by simpa using hi
   have:i=0:=by omega
   subst this;rfl
  .have hi:i<1:=by simpa using hi
   have:i=0:=by omega
   subst this;exact .m (by simp[ac5,an])
end
end
section
open Go.RowKit Go.Proofs Go.Shelf Go.Maps Go.Sort
open Go.WideElems (Fit rg)
end
section
variable[M:cD][G:ed][R:eF]
end
section
open Go.RowKit
variable[M:cD][G:ed][R:eF]
def cU:List (Nat×Nat)->Nat->Option Nat
 |[],_=>none
 |(i,j)::r,x=>bif aM x i then V j else cU r x
def at_mem{i j:Nat}:∀{m:List (Nat×Nat)},cU m i=V j->(i,j)∈m
 |[],h=>by cases h
 |(a,b)::r,h=>by
  simp only[cU]at h;cases hb:aM i a with
  |true=>rw[hb]at h;cases h;rw[cT hb];simp
  |false=>rw[hb]at h;exact cw _ (at_mem h)
def GR{i j:Nat}:∀{m:List (Nat×Nat)},(m.map (·.1)).Nodup->(i,j)∈m->cU m i=V j
 |[],_,h=>by cases h
 |(a,b)::r,hn,h=>by
  simp only[fT,iO]at hn;simp only[cU]
  rcases bp.1 h with h|h
  .cases h;rw[jv];rfl
  .have:aM i a=false:=by
    cases hb:aM i a with
    |false=>rfl
    |true=>exact absurd (cL.2 ⟨_,h,cT hb⟩) hn.1
   rw[this];exact GR hn.2 h
def rl(φ:Nat->Option Nat):Nat->AV->AV
 |n,x=>match x with
  |.b i o=>match φ i with
   |some j=>.b j o
   |none=>.Δ
  |.o i=>match φ i with
   |some j=>.o j
   |none=>.Δ
  |.e i K m o=>match φ i with
   |some j=>.e j K m o
   |none=>.Δ
  |.w i K d=>match φ i with
   |some j=>.w j K d
   |none=>.Δ
  |.m i=>match φ i with
   |some j=>.m j
   |none=>.Δ
  |.a cs=>match n with
   |0=>.Δ
   |n+1=>.a (cs.map (rl φ n))
  |.t cs=>match n with
   |0=>.Δ
   |n+1=>.t (cs.map (rl φ n))
  |.c fn fs cs=>match n with
   |0=>.Δ
   |n+1=>.c fn (fs.map (rl φ n)) (cs.map (rl φ n))
  |.v x=>.v x
  |.s r=>.s r
  |.p c=>.p c
  |.z=>.z
  |.Δ=>.Δ
def Px(φ:Nat->Option Nat):Chunk->Chunk
 |.box cells=>.box (cells.map (rl φ 2))
 |.own E k rows=>.own E k rows
 |.mp ag rows=>.mp ag rows
 |.lp l e R L=>.lp l e R (L.map λp=>(p.1,rl φ 2 p.2))
 |.si s pos=>.si s pos
def iA(φ:Nat->Option Nat):Hp->Hp
 |[]=>[]
 |(i,c)::r=>match φ i with
  |some j=>(j,Px φ c)::iA φ r
  |none=>iA φ r
section
variable{P:Program}{T:TT}{w:World}{F:Nat->Prop}{β ay:Nat->Value}
def zh{φ:Nat->Option Nat}(an:∀i j,φ i=V j->ay j=β i):∀(n:Nat){x:AV}{u:Value},Rd w F β x u->Rd w F ay (rl φ n x) u:=by
 have one:∀{i:Nat}{f:Nat->AV}{u:Value},(∀j,φ i=V j->Rd w F ay (f j) u)->Rd w F ay (match φ i with|some j=>f j|none=>.Δ) u:=λh=>by
  split
  .exact h _ (by assumption)
  .exact .Δ
 have leaf:∀{n:Nat}{x:AV}{u:Value},Rd w F β x u->(∀cs,x≠.a cs)->(∀cs,x≠.t cs)->(∀g fs cs,x≠.c g fs cs)->Rd w F ay (rl φ n x) u:=by
  intro n x u h h1 h2 h3;cases x with
  |v x=>cases h with|i h=>cases h;cases n<;>exact .i (.v (by assumption))
  |s r=>cases n<;>exact .i h.oX
  |p c=>cases n<;>exact .i h.Bp
  |z=>obtain⟨a,rfl⟩:=h.zK;cases n<;>exact .i .z
  |Δ=>cases n<;>exact .Δ
  |a cs=>exact absurd rfl (h1 cs)
  |t cs=>exact absurd rfl (h2 cs)
  |c g fs cs=>exact absurd rfl (h3 g fs cs)
  |b i o =>
   obtain⟨fV,hb,rfl⟩:=h.mP;cases n<;>exact one λj hj=>.b ((an i j hj).trans hb)
  |o i =>
   obtain⟨a,k,c,hb,rfl⟩:=h.ko;cases n<;>exact one λj hj=>.o ((an i j hj).trans hb)
  |e i K m o =>
   obtain⟨g,k,c,hb,rfl⟩:=h.Al;cases n<;>exact one λj hj=>.e ((an i j hj).trans hb)
  |w i K d =>
   obtain⟨a,a',k,c,hb,hd,ha,rfl⟩:=h.wQ;cases n<;>exact one λj hj=>.w ((an i j hj).trans hb) hd ha
  |m i =>
   obtain⟨b,hb,rfl⟩:=h.yJ;cases n<;>exact one λj hj=>.m ((an i j hj).trans hb)
 intro n;induction n with
 |zero =>
  intro x u h;cases x with
  |a cs=>exact .Δ
  |t cs=>exact .Δ
  |c g fs cs=>exact .Δ
  |_=>exact leaf h (by simp) (by simp) (by simp)
 |succ n ih =>
  have get:∀(l:List AV)(i:Nat),i<l.length->(l.map (rl φ n)).getD i .Δ=rl φ n (l.getD i .Δ):=λl i hi=>by simp[bc,hi]
  intro x u h;cases x with
  |a cs =>
   show Rd w F ay (.a (cs.map (rl φ n))) u;obtain⟨us,rfl,hs,h1,hr⟩:=h.qO;refine .a (by simpa using hs) (λi hi=>h1 i (by simpa using hi)) λi hi=>?_
   have hi:i<cs.length:=by simpa using hi
   rw[get cs i hi];exact ih (hr i hi)
  |t cs =>
   show Rd w F ay (.t (cs.map (rl φ n))) u;obtain⟨us,rfl,hs,hr⟩:=h.B6;refine .t (by simpa using hs) λi hi=>?_
   have hi:i<cs.length:=by simpa using hi
   rw[get cs i hi];exact ih (hr i hi)
  |c g fs cs =>
   show Rd w F ay (.c g (fs.map (rl φ n)) (cs.map (rl φ n))) u;obtain⟨us,vs,rfl,hs,dG,hr,cr⟩:=h.nG;refine .c (by simpa using hs) (by simpa using dG) (λi hi=>?_) λi hi=>?_
   .have hi:i<fs.length:=by simpa using hi
    rw[get fs i hi];exact ih (hr i hi)
   .have hi:i<cs.length:=by simpa using hi
    rw[get cs i hi];exact ih (cr i hi)
  |_=>exact leaf h (by simp) (by simp) (by simp)
def rlC_holds{φ:Nat->Option Nat}(an:∀i j,φ i=V j->ay j=β i){i j:Nat}(eX:φ i=V j){c:Chunk}(h:c.holds w F β i):(Px φ c).holds w F ay j:=by
 cases c with
 |box cells =>
  obtain⟨b,cs,e,hb,hh,hs,h1,hr⟩:=h;refine⟨b,cs,e,(an i j eX).trans hb,hh,by simpa using hs,λq hq=>h1 q (by simpa using hq),λq hq=>?_⟩
  have hq:q<cells.length:=by simpa using hq
  have:(cells.map (rl φ 2)).getD q .Δ=rl φ 2 (cells.getD q .Δ):=by simp[bc,hq]
  rw[this];exact zh an 2 (hr q hq)
 |own E k rows=>exact pN (c:=.own E k rows) rfl (λ_ h=>h) (an i j eX) h
 |mp ag rows=>exact pN (c:=.mp ag rows) rfl (λ_ h=>h) (an i j eX) h
 |si s pos=>exact pN (c:=.si s pos) rfl (λ_ h=>h) (an i j eX) h
 |lp l e R L =>
  obtain⟨fn,tmps,D,hb,hh,hn,hr⟩:=h;refine⟨fn,tmps,D,(an i j eX).trans hb,hh,hn,λp hp=>?_⟩;obtain⟨q,hq,rfl⟩:=cL.1 hp;exact zh an 2 (hr q hq)
def nk{φ:Nat->Option Nat}{j:Nat}{c:Chunk}:∀{H:Hp},(j,c)∈iA φ H->∃i c0,(i,c0)∈H/\φ i=V j/\c=Px φ c0
 |[],h=>by cases h
 |(i,c0)::r,h=>by
  simp only[iA]at h;split at h
  .rename_i j' hj
   rcases bp.1 h with h|h
   .cases h;exact⟨i,c0,by simp,hj,rfl⟩
   .obtain⟨i',c',h1,h2⟩:=nk h;exact⟨i',c',cw _ h1,h2⟩
  .obtain⟨i',c',h1,h2⟩:=nk h;exact⟨i',c',cw _ h1,h2⟩
def Ln(m:List (Nat×Nat))(x y:AV):Prop:=∀(w:World)(F:Nat->Prop)(β dv:Nat->Value)(u:Value),(∀i j,cU m i=V j->dv i=β j)->Rd w F β x u->Rd w F dv y u
inductive jx(m:List (Nat×Nat)):List AV->List AV->Prop where
 |nil:jx m [] []
 |cons {x y:AV} {xs ys:List AV} (h:Ln m x y) (t:jx m xs ys):jx m (x::xs) (y::ys)
def jx.spec{m:List (Nat×Nat)}{xs ys:List AV}(h:jx m xs ys):xs.length=ys.length/\∀i,i<xs.length->Ln m (xs.getD i .Δ) (ys.getD i .Δ):=by
 induction h with
 |nil=>exact⟨rfl,λi hi=>by simp at hi⟩
 |cons h t ih =>
  refine⟨by simp[ih.1],λi hi=>?_⟩;cases i with
  |zero=>simpa using h
  |succ i=>simpa using ih.2 i (by simpa using hi)
section
variable{m:List (Nat×Nat)}
def Ln.cP{x:AV}(h:kH x=true):Ln m x x:=λ_ _ _ _ _ _ hr=>.i (Ig h hr)
def Ln.Δ{x:AV}:Ln m x .Δ:=λ_ _ _ _ _ _ _=>.Δ
def Ln.nil:Ln m (.v (.slice none 0 0)) (.s []):=λ_ _ _ _ _ _ hr=>by rw[hr.bK];exact .i .s0
def Ln.z:Ln m .z (.s []):=λ_ _ _ _ _ _ hr=>by obtain⟨a,rfl⟩:=hr.zK;exact .i .s0
def Ln.b{i j off:Nat}(h:cU m i=V j):Ln m (.b j off) (.b i off):=λ_ _ _ _ _ an hr=>by
 obtain⟨fV,h1,rfl⟩:=hr.mP;exact .b ((an i j h).trans h1)
def Ln.o{i j:Nat}(h:cU m i=V j):Ln m (.o j) (.o i):=λ_ _ _ _ _ an hr=>by
 obtain⟨a,n,c,h1,rfl⟩:=hr.ko;exact .o ((an i j h).trans h1)
def Ln.mm{i j:Nat}(h:cU m i=V j):Ln m (.m j) (.m i):=λ_ _ _ _ _ an hr=>by
 obtain⟨b,h1,rfl⟩:=hr.yJ;exact .m ((an i j h).trans h1)
def Ln.a{xs ys:List AV}(h:jx m xs ys):Ln m (.a xs) (.a ys):=λ_ _ _ _ _ an hr=>by
 obtain⟨us,rfl,hs,h1,hu⟩:=hr.qO;obtain⟨hl,hz⟩:=h.spec;exact .a (by omega) (λi hi=>h1 i (by omega)) λi hi=>hz i (by omega) _ _ _ _ _ an (hu i (by omega))
def Ln.t{xs ys:List AV}(h:jx m xs ys):Ln m (.t xs) (.t ys):=λ_ _ _ _ _ an hr=>by
 obtain⟨us,rfl,hs,hu⟩:=hr.B6;obtain⟨hl,hz⟩:=h.spec;exact .t (by omega) λi hi=>hz i (by omega) _ _ _ _ _ an (hu i (by omega))
def Ln.c{fn:Fn}{fs Db cs CW:List AV}(h:jx m fs Db)(h':jx m cs CW):Ln m (.c fn fs cs) (.c fn Db CW):=λ_ _ _ _ _ an hr=>by
 obtain⟨us,vs,rfl,hs,dG,hu,hv⟩:=hr.nG;obtain⟨hl,hz⟩:=h.spec;obtain⟨ub,g_⟩:=h'.spec;exact .c (by omega) (by omega) (λi hi=>hz i (by omega) _ _ _ _ _ an (hu i (by omega))) λi hi=>g_ i (by omega) _ _ _ _ _ an (hv i (by omega))
end
def GJ(m:List (Nat×Nat)):List (Nat×AV)->List (Nat×AV)->Prop
 |[],[]=>True
 |(t,x)::a,(t',y)::b=>t=t'/\Ln m x y/\GJ m a b
 |_,_=>False
def GJ.mem{m:List (Nat×Nat)}:∀{a b:List (Nat×AV)},GJ m a b->∀p,p∈b->∃x,(p.1,x)∈a/\Ln m x p.2
 |[],[],_,_,h=>by cases h
 |(t,x)::a,(t',y)::b,hh,p,h=>by
  obtain⟨rfl,h1,h2⟩:=hh
  rcases bp.1 h with h|h
  .subst h;exact⟨x,kr ..,h1⟩
  .obtain⟨x',h3,h4⟩:=h2.mem p h;exact⟨x',cw _ h3,h4⟩
 |[],_::_,hh,_,_=>hh.elim
 |_::_,[],hh,_,_=>hh.elim
inductive Cn(m:List (Nat×Nat)):Chunk->Chunk->Prop where
 |refl {c:Chunk} (h:Ae c=true):Cn m c c
 |box {a b:List AV} (h:jx m a b):Cn m (.box a) (.box b)
 |lp {l:Nat} {e e':LS} {R:RF} {a b:List (Nat×AV)} (he:e=e') (h:GJ m a b):Cn m (.lp l e R a) (.lp l e' R b)
def Cn.holds{m:List (Nat×Nat)}{c c0:Chunk}{i j:Nat}(h:Cn m c c0)(an:∀i j,cU m i=V j->ay i=β j)(eX:cU m i=V j)(hc:c.holds w F β j):c0.holds w F ay i:=by
 cases h with
 |refl h=>exact pN h (λ_ h=>h) (an i j eX) hc
 |box h =>
  obtain⟨b,cs,e,hb,hh,hs,h1,hr⟩:=hc;obtain⟨hl,hz⟩:=h.spec;exact⟨b,cs,e,(an i j eX).trans hb,hh,by omega,λq hq=>h1 q (by omega),λq hq=>hz q (by omega) _ _ _ _ _ an (hr q (by omega))⟩
 |lp he h =>
  subst he;obtain⟨fn,tmps,D,hb,hh,hn,hr⟩:=hc;refine⟨fn,tmps,D,(an i j eX).trans hb,hh,hn,λp hp=>?_⟩;obtain⟨x,hx,hz⟩:=h.mem p hp;exact hz _ _ _ _ _ an (hr _ hx)
def uR(m:List (Nat×Nat))(H:Hp):Hp->Prop
 |[]=>True
 |(i,c0)::r=>(∃j c,cU m i=V j/\dP j H=V c/\Cn m c c0)/\uR m H r
def uR.mem{m:List (Nat×Nat)}{H:Hp}:∀{H0:Hp},uR m H H0->∀i c0,(i,c0)∈H0->∃j c,cU m i=V j/\(j,c)∈H/\Cn m c c0
 |[],_,_,_,h=>by cases h
 |(i,c0)::r,hh,i',c',h=>by
  rcases bp.1 h with h|h
  .cases h;obtain⟨j,c,h1,h2,h3⟩:=hh.1;exact⟨j,c,h1,fk h2,h3⟩
  .exact hh.2.mem i' c' h
def tK:List (Nat×Nat)->AV->AV
 |[],x=>x
 |p::r,x=>tK r (er 2 p.2 x)
def C7:List (Nat×Nat)->Chunk->Chunk
 |[],c=>c
 |p::r,c=>C7 r (pC p.2 c)
def kM(m n:List (Nat×Nat)):Hp->Hp
 |[]=>[]
 |(i,c)::r=>bif (m.any λp=>aM p.2 i)||(n.any λp=>aM p.2 i)then kM m n r else(i,C7 n c)::kM m n r
def Tm:∀{n:List (Nat×Nat)}{β:Nat->Value},(∀j,(∀p,p∈n->p.2≠j)->ay j=β j)->∀{x:AV}{u:Value},Rd w F β x u->Rd w F ay (tK n x) u
 |[],β,an,x,u,h=>by
  have:ay=β:=funext λj=>an j λp hp=>by cases hp
  rw[this];exact h
 |p::r,β,an,x,u,h=>by
  refine Tm (n:=r) (x:=er 2 p.2 x) (β:=λj=>if j=p.2 then ay j else β j) (λj hj=>?_) (rZ (id:=p.2) (λi hi=>if_neg hi) 2 h);show _=if j=p.2 then ay j else β j;by_cases yf:j=p.2
  .rw[if_pos yf]
  .rw[if_neg yf];exact an j λq hq=>by
    rcases bp.1 hq with rfl|hq
    .exact λe=>yf e.symm
    .exact hj q hq
def erCL_holds{i:Nat}:∀{n:List (Nat×Nat)}{β:Nat->Value},(∀j,(∀p,p∈n->p.2≠j)->ay j=β j)->(∀p,p∈n->p.2≠i)->∀{c:Chunk},c.holds w F β i->(C7 n c).holds w F ay i
 |[],β,an,_,c,h=>by
  have:ay=β:=funext λj=>an j λp hp=>by cases hp
  rw[this];exact h
 |p::r,β,an,hi,c,h=>by
  refine erCL_holds (n:=r) (c:=pC p.2 c) (β:=λj=>if j=p.2 then ay j else β j) (λj hj=>?_) (λq hq=>hi q (cw _ hq)) (HY (id:=p.2) (λe=>hi p (by simp) e.symm) (λi hi=>if_neg hi) h);show _=if j=p.2 then ay j else β j;by_cases yf:j=p.2
  .rw[if_pos yf]
  .rw[if_neg yf];exact an j λq hq=>by
    rcases bp.1 hq with rfl|hq
    .exact λe=>yf e.symm
    .exact hj q hq
def Pw{m n:List (Nat×Nat)}{i:Nat}{c:Chunk}:∀{H:Hp},(i,c)∈kM m n H->∃c0,(i,c0)∈H/\c=C7 n c0/\(∀p,p∈m->p.2≠i)/\∀p,p∈n->p.2≠i
 |[],h=>by cases h
 |(k,c0)::r,h=>by
  simp only[kM]at h;cases hb:((m.any λp=>aM p.2 k)||(n.any λp=>aM p.2 k))with
  |true =>
   rw[hb]at h;obtain⟨c1,h1,h2⟩:=Pw (H:=r) h;exact⟨c1,cw _ h1,h2⟩
  |false =>
   rw[hb]at h
   rcases bp.1 h with h|h
   .cases h;simp only[Bool.or_eq_false_iff,qG]at hb;refine⟨c0,by simp,rfl,λp hp e=>?_,λp hp e=>?_⟩
    .exact hb.1 p hp (by rw[e];exact jv _)
    .exact hb.2 p hp (by rw[e];exact jv _)
   .obtain⟨c1,h1,h2⟩:=Pw (H:=r) h;exact⟨c1,cw _ h1,h2⟩
def sK:List Nat->Bool
 |[]=>true
 |x::r=>!(r.any λy=>aM y x)&&sK r
def Bj:∀{l:List Nat},sK l=true->l.Nodup
 |[],_=>qK
 |x::r,h=>by
  simp only[sK,bR,lC,qG]at h;rw[iO];exact⟨λhm=>h.1 x hm (jv _),Bj h.2⟩
def B7(m n:List (Nat×Nat)):Bool:=
 (m.all λp=>p9 1000 p.1)&&(sK (m.map (·.1))&&(sK (m.map (·.2))&&((n.all λp=>eS p.2 1000)&&sK (n.map (·.2)))))
def kL(m n:List (Nat×Nat)):List (Nat×Nat):=(m.filter λp=>!(n.any λq=>aM q.2 p.2))++n
def Ql{i i' j:Nat}:∀{m:List (Nat×Nat)},(m.map (·.2)).Nodup->(i,j)∈m->(i',j)∈m->i=i'
 |[],_,h,_=>by cases h
 |p::r,hm,h1,h2=>by
  simp only[fT,iO]at hm
  rcases bp.1 h1 with h1|h1<;>rcases bp.1 h2 with h2|h2
  .rw[<-h2]at h1;cases h1;rfl
  .exact absurd (cL.2 ⟨_,h2,by rw[<-h1]⟩) hm.1
  .exact absurd (cL.2 ⟨_,h1,by rw[<-h2]⟩) hm.1
  .exact Ql hm.2 h1 h2
def TL{xs ys:List AV}{st:ak}{H0:Hp}{m n:List (Nat×Nat)}
  (hx:jx m xs ys) (hH:uR m st.H H0) (lf:jV H0=true) (ht:B7 m n=true) {vs:Array Value} (hI:Inv w F β st.H) (hv:∀i,i<xs.length->Rd w F β (xs.getD i .Δ) (vs.getD i undef)) :
  xs.length=ys.length/\∃dv,Inv w F dv H0/\(∀i,i<ys.length->Rd w F dv (ys.getD i .Δ) (vs.getD i undef)) /\
   ∀(w':World)(F':Nat->Prop)(ay:Nat->Value)(f':Nat->AV)(H1:Hp),jV (iA (cU (kL m n)) H1++kM m n st.H)=true->Ext w F dv ⟨aR,H0⟩ w' F' ay ⟨f',H1⟩ ->
    ∃bW,(∀i j,cU (kL m n) i=V j->bW j=ay i)/\Ext w F β st w' F' bW ⟨λt=>tK n (st.f t),iA (cU (kL m n)) H1++kM m n st.H⟩:=by
 obtain⟨hl,hz⟩:=hx.spec;simp only[B7,bR,eo]at ht;obtain⟨lS,jR,yl,AT,lU⟩:=ht;have jR:=Bj jR;have yl:=Bj yl;have lU:=Bj lU
 obtain⟨dv,A_⟩:∃dv:Nat->Value,∀i j,cU m i=V j->dv i=β j:=by
  refine⟨λi=>match cU m i with|some j=>β j|none=>undef,λi j eX=>?_⟩;simp only[eX]
 have bn:=λi c0 hm=>hH.mem i c0 hm
 have dB:∀b,bH dv H0 b->∃i c0 j c,(i,c0)∈H0/\cU m i=V j/\(j,c)∈st.H/\bP (β j)=V b:=by
  rintro b ⟨i,c0,h1,hb⟩;obtain⟨j,c,h2,h3,_⟩:=bn i c0 h1;exact⟨i,c0,j,c,h1,h2,h3,by rw[<-A_ i j h2];exact hb⟩
 have HZ:∀b,bH dv H0 b->bH β st.H b:=λb hb=>by
  obtain⟨_,_,j,c,_,_,h3,h4⟩:=dB b hb;exact⟨j,c,h3,h4⟩
 have MY:∀i i' j,cU m i=V j->cU m i'=V j->i=i':=λi i' j h1 h2=>Ql yl (at_mem h1) (at_mem h2)
 have tQ:Inv w F dv H0:=by
  refine⟨hI.cH,λi c0 h1=>?_,yG lf,λb hb=>hI.apart b (HZ b hb),λi c i' c' b h1 h2 hb aN=>?_,hI.fC⟩
  .obtain⟨j,c,h2,h3,h4⟩:=bn i c0 h1;exact h4.holds A_ h2 (hI.holds j c h3)
  .obtain⟨j,c,h3,h4,_⟩:=bn i c h1;obtain⟨j',c',h5,h6,_⟩:=bn i' c' h2;rw[A_ i j h3]at hb;rw[A_ i' j' h5]at aN;have:=hI.eD j _ j' _ b h4 h6 hb aN;subst this;exact MY i i' j h3 h5
 refine⟨hl,dv,tQ,λi hi=>hz i (by omega) w F β dv _ A_ (hv i (by omega)),?_⟩;intro w' F' ay f' H1 ek he
 obtain⟨bW,ado,DN⟩:∃bW:Nat->Value,(∀i j,(i,j)∈n->bW j=ay i)/\∀j,(∀p,p∈n->p.2≠j)->bW j=β j:=by
  refine⟨λj=>match cU (n.map λp=>(p.2,p.1)) j with|some i=>ay i|none=>β j,λi j eX=>?_,λj hj=>?_⟩
  .have:cU (n.map λp=>(p.2,p.1)) j=V i:=GR (by rw[List.map_map];exact lU) (cL.2 ⟨_,eX,rfl⟩);simp only[this]
  .cases ha:cU (n.map λp=>(p.2,p.1)) j with
   |none=>simp only[ha]
   |some i =>
    obtain⟨p,hp,e⟩:=cL.1 (at_mem ha);cases e;exact absurd rfl (hj p hp)
 have hq:∀i j,cU (kL m n) i=V j->bW j=ay i:=λi j eX=>by
  have eX:=at_mem eX;simp only[kL,ep,List.mem_filter,lC,qG]at eX
  rcases eX with⟨h1,h2⟩|h1
  .have h3:1000<=i:=by simpa using lS _ h1
   rw[he.gC i h3,A_ i j (GR jR h1)];exact DN j λp hp e=>h2 p hp (by rw[e];exact jv _)
  .exact ado i j h1
 have hblk:∀b,b<w.heap.size->(∀i c0 j c,(i,c0)∈H0->cU m i=V j->(j,c)∈st.H->bP (β j)≠V b)->w'.heap[b]?=w.heap[b]?:=λb hb bu=>he.block b hb λho=>by
  obtain⟨i,c0,j,c,h1,h2,h3,h4⟩:=dB b ho;exact bu i c0 j c h1 h2 h3 h4
 have hF:gn F w w':=λb hb=>hblk b (hI.cH b hb) λi c0 j c _ _ h3 h4=>hI.apart b ⟨j,c,h3,h4⟩ hb
 have nS:∀j c,(j,c)∈kM m n st.H->∃c0,(j,c0)∈st.H/\c=C7 n c0/\(∀i,cU m i≠V j)/\bW j=β j/\∀p,p∈n->p.2≠j:=λj c hc=>by
  obtain⟨c0,h1,h2,h3,h4⟩:=Pw hc;exact⟨c0,h1,h2,λi hi=>h3 _ (at_mem hi) rfl,DN j h4,h4⟩
 have UX:∀b,bH ay H1 b->w.heap.size<=b\/bH dv H0 b:=λb hb=>he.owned b hb
 have uh:∀b,bH bW (iA (cU (kL m n)) H1++kM m n st.H) b->bH ay H1 b\/∃j c0,(j,c0)∈st.H/\(∀i,cU m i≠V j)/\bP (β j)=V b:=by
  rintro b ⟨j,c,hc,hb⟩
  rcases ep.1 hc with hc|hc
  .obtain⟨i,c0,h1,h2,_⟩:=nk hc;exact .inl ⟨i,c0,h1,by rw[<-hq i j h2];exact hb⟩
  .obtain⟨c0,h1,_,h2,h3,_⟩:=nS j c hc;exact .inr ⟨j,c0,h1,h2,by rw[<-h3];exact hb⟩
 refine⟨bW,hq,?_⟩;refine⟨he.os,he.tape,he.output,he.size,λb hb bu=>he.block b hb λho=>bu (HZ b ho),he.mono,λb hb=>(he.new b hb).imp id λh=>h.imp id (HZ b),λb hb=>?_,λt u hu=>?_,?_,λi hi=>DN i λp hp e=>?_⟩
 .rcases uh b hb with h1|⟨j,c0,h1,_,h2⟩
  .exact(UX b h1).imp id (HZ b)
  .exact .inr ⟨j,c0,h1,h2⟩
 .exact Tm DN (hu.frame hF he.mono)
 .refine⟨he.inv.cH,λj c hc=>?_,yG ek,λb hb xO=>?_,λj c j' c' b hc fZ hb aN=>?_,he.inv.fC⟩
  .rcases ep.1 hc with hc|hc
   .obtain⟨i,c0,h1,h2,rfl⟩:=nk hc;exact rlC_holds hq h2 (he.inv.holds i c0 h1)
   .obtain⟨c0,h1,rfl,h2,h3,h4⟩:=nS j c hc
    exact erCL_holds DN h4 (pM hF he.mono (λb hb=>hblk b (hI.gg ⟨j,c0,h1,hb⟩) λi Lx j' c' h5 h6 h7 h8=>by
     have:=hI.eD j _ j' _ b h1 h7 hb h8;subst this
     exact h2 i h6) (hI.holds j c0 h1))
  .rcases uh b hb with h1|⟨j,c0,h1,h2,h3⟩
   .exact he.inv.apart b h1 xO
   .rcases he.new b xO with h4|h4|h4
    .exact hI.apart b ⟨j,c0,h1,h3⟩ h4
    .exact absurd (hI.gg ⟨j,c0,h1,h3⟩) (mJ.2 h4)
    .obtain⟨i,_,j',c',_,h6,h7,h8⟩:=dB b h4;have:=hI.eD j _ j' _ b h1 h7 h3 h8;subst this;exact h2 i h6
  .have SN:∀i c0 j c1,(i,c0)∈H1->bP (ay i)=V b->(j,c1)∈st.H->(∀i,cU m i≠V j)->bP (β j)=V b->False:=λi c0 j c1 h1 h2 h3 h4 h5=>by
    rcases UX b ⟨i,c0,h1,h2⟩with h6|h6
    .exact absurd (hI.gg ⟨j,c1,h3,h5⟩) (mJ.2 h6)
    .obtain⟨i',_,j',c',_,h7,h8,h9⟩:=dB b h6;have:=hI.eD j _ j' _ b h3 h8 h5 h9;subst this;exact h4 i' h7
   rcases ep.1 hc with hc|hc<;>rcases ep.1 fZ with fZ|fZ
   .obtain⟨i,c0,h1,h2,_⟩:=nk hc;obtain⟨i',Lx,nJ,iT,_⟩:=nk fZ;rw[hq i j h2]at hb;rw[hq i' j' iT]at aN;have:=he.inv.eD i _ i' _ b h1 nJ hb aN;subst this;rw[h2]at iT;exact iP iT
   .obtain⟨i,c0,h1,h2,_⟩:=nk hc;obtain⟨c1,h3,_,h4,h5,_⟩:=nS j' c' fZ;rw[hq i j h2]at hb;rw[h5]at aN;exact(SN i c0 j' c1 h1 hb h3 h4 aN).elim
   .obtain⟨i,c0,h1,h2,_⟩:=nk fZ;obtain⟨c1,h3,_,h4,h5,_⟩:=nS j c hc;rw[hq i j' h2]at aN;rw[h5]at hb;exact(SN i c0 j c1 h1 aN h3 h4 hb).elim
   .obtain⟨c1,h3,_,h4,h5,_⟩:=nS j c hc;obtain⟨pn,h3',_,h4',h5',_⟩:=nS j' c' fZ;rw[h5]at hb;rw[h5']at aN;exact hI.eD j _ j' _ b h3 h3' hb aN
 .have:p.2<1000:=by simpa [gW]using AT p hp
  omega
def Ω.gen{g:Tg}{xs ys:List AV}{st:ak}{H0 H1:Hp}{r:AV}{k:AV->ak->Prop}{m n:List (Nat×Nat)}(h:Ω P g ys ⟨aR,H0⟩ λx s=>x=r/\s.H=H1)
  (hx:jx m xs ys) (hH:uR m st.H H0) (lf:jV H0=true) (ht:B7 m n=true) (ek:jV (iA (cU (kL m n)) H1++kM m n st.H)=true)
  (hk:k (rl (cU (kL m n)) 3 r) ⟨λt=>tK n (st.f t),iA (cU (kL m n)) H1++kM m n st.H⟩):Ω P g xs st k:=by
 refine⟨h.1,λw F β vs hI hs hv=>?_⟩;obtain⟨hl,dv,tQ,ν,sl⟩:=TL hx hH lf ht hI hv;refine(h.2 w F dv vs tQ (by omega) ν).mono ?_;rintro e w' ⟨v,rfl,x,s,F',ay,⟨rfl,DY⟩,hr,he⟩;obtain⟨bW,hq,j7⟩:=sl w' F' ay s.f H1 ek (by rw[<-DY];exact he);exact⟨v,rfl,rl (cU (kL m n)) 3 x,_,F',bW,hk,zh hq 3 hr,j7⟩
def afL{g n:Nat}{fn:Func}{c:Code}{args:List AV}{H0 H1:Hp}{r:AV}(hT:bL P T)(dR:P.funcs[g]?=V fn) (dM:(fn.name == "runtime.NumGoroutine")=false) (hb:fn.body=V c) (hn:fn.ntmps=n) (hle:args.length <= n)
  (h:Ok P n c ⟨lq args,H0⟩ (r_ T fn.results.toList λx s=>Wk ⟨ej aR 0 x,s.H⟩ ⟨Ψ [(0,r)],H1⟩)):Ω P g args ⟨aR,H0⟩ λx s=>x=r/\s.H=H1:=by
 refine⟨⟨fn,c,dR,dM,hb⟩,λw F β vs hI hs hv=>?_⟩;refine(G1 hT dR hb hn hle h hI hs hv).mono ?_;rintro e w' ⟨v,rfl,x,st,F',ay,hW,hx,he⟩
 obtain⟨F2,bW,_,_,hf,h2⟩:=hW ⟨w,F,β,H0,1,none,.inl rfl,[]⟩ { tmps:=#[v],defers:=[] } w' ⟨F',ay,rfl,trivial,λt=>by
  show Rd w' F' ay (bif aM t 0 then x else aR t) _;cases t with
  |zero=>exact hx
  |succ t=>exact .Δ,⟨he,λd hd=>(fu hd).elim,qK,⟨[],rfl⟩⟩⟩
 exact⟨v,rfl,r,⟨aR,H1⟩,F2,bW,⟨rfl,rfl⟩,hf 0,h2.x⟩
def Ext.chunks{w0:World}{F0:Nat->Prop}{oZ:Nat->Value}{oY:ak}{H H':Hp}(h:Ext w0 F0 oZ oY w F β ⟨aR,H⟩)(bn:∀i c,(i,c)∈H'->(∃c0,(i,c0)∈H)/\c.holds w F β i)(hk:(H'.map (·.1)).Nodup):Ext w0 F0 oZ oY w F β ⟨aR,H'⟩ where
 os:=h.os
 tape:=h.tape
 output:=h.output
 size:=h.size
 block:=h.block
 mono:=h.mono
 new:=h.new
 owned b hb:=h.owned b (by obtain⟨i,c,hm,hb⟩:=hb;obtain⟨⟨c0,h0⟩,_⟩:=bn i c hm;exact⟨i,c0,h0,hb⟩)
 keep _ _ _:=.Δ
 inv:=⟨h.inv.cH,λi c hm=>(bn i c hm).2,hk,
  λb ⟨i,c,hm,hb⟩=>by obtain⟨⟨c0,h0⟩,_⟩:=bn i c hm;exact h.inv.apart b ⟨i,c0,h0,hb⟩,
  λi c i' c' b hm bN hb aN=>by
   obtain⟨⟨c0,h0⟩,_⟩:=bn i c hm;obtain⟨⟨c1,h1⟩,_⟩:=bn i' c' bN
   exact h.inv.eD i c0 i' c1 b h0 h1 hb aN,h.inv.fC⟩
 gC:=h.gC
def XM.chunks{C:Ctx}{ds:List Deferred}{H H':Hp}(h:XM C ds w F β H)(bn:∀i c,(i,c)∈H'->(∃c0,(i,c0)∈H)/\c.holds w F β i)(hk:(H'.map (·.1)).Nodup):XM C ds w F β H':=
 h.trans ((Ext.refl (st:=⟨aR,H⟩) h.inv).chunks bn hk)
def uq(i d:Nat):Nat->Option Nat:=λx=>bif aM x i then V d else bif aM x d then none else V x
def Wk.mv{st:ak}{i d:Nat}(hd:eS d 1000=true)(aI:aM d i=false)(hk:jV (iA (uq i d) st.H)=true):Wk st ⟨λt=>rl (uq i d) 2 (st.f t),iA (uq i d) st.H⟩:=λC a w hr=>by
 obtain⟨F,β,hs,MK,hf,he⟩:=hr
 have hd:d<1000:=by simpa [gW]using hd
 have aI:d≠i:=λe=>by rw[e,jv]at aI;cases aI
 let ay:Nat->Value:=λx=>if x=d then β i else β x
 have an:∀x y,uq i d x=V y->ay y=β x:=λx y h=>by
  unfold uq at h;cases h1:aM x i with
  |true=>rw[h1]at h;cases h;rw[cT h1];exact if_pos rfl
  |false =>
   rw[h1]at h;cases h2:aM x d with
   |true=>rw[h2]at h;cases h
   |false =>
    rw[h2]at h;cases h
    exact if_neg λe=>by rw[e,jv]at h2;cases h2
 have MY:∀x x' y,uq i d x=V y->uq i d x'=V y->x=x':=λx x' y h h'=>by
  unfold uq at h h';cases h1:aM x i<;>cases nJ:aM x' i<;>rw[h1]at h<;>rw[nJ]at h'<;>simp only[cond_true,cond_false]at h h'
  .cases h2:aM x d<;>cases iT:aM x' d<;>rw[h2]at h<;>rw[iT]at h'<;>simp_all
  .cases h2:aM x d<;>rw[h2]at h<;>simp_all
  .cases iT:aM x' d<;>rw[iT]at h'<;>simp_all
  .rw[cT h1,cT nJ]
 have dB:∀b,bH ay (iA (uq i d) st.H) b->bH β st.H b:=by
  rintro b ⟨j,c,hc,hb⟩;obtain⟨x,c0,h1,h2,_⟩:=nk hc;exact⟨x,c0,h1,by rw[<-an x j h2];exact hb⟩
 refine⟨F,ay,hs,MK,λt=>zh an 2 (hf t),he.trans (f:=aR) (f':=aR) ⟨rfl,jL.refl _,rfl,bm _,λ_ _ _=>rfl,λ_ h=>h,λ_ h=>.inl h,λb hb=>.inr (dB b hb),λ_ _ _=>.Δ,?_,λx hx=>if_neg (by omega)⟩⟩
 .refine⟨he.inv.cH,λj c hc=>?_,yG hk,λb hb=>he.inv.apart b (dB b hb),λj c j' c' b hc fZ hb aN=>?_,he.inv.fC⟩
  .obtain⟨x,c0,h1,h2,rfl⟩:=nk hc;exact rlC_holds an h2 (he.inv.holds x c0 h1)
  .obtain⟨x,c0,h1,h2,_⟩:=nk hc;obtain⟨x',Lx,nJ,iT,_⟩:=nk fZ;rw[an x j h2]at hb;rw[an x' j' iT]at aN;have:=he.inv.eD x _ x' _ b h1 nJ hb aN;subst this;rw[h2]at iT;exact iP iT
def Wk.Wt{st:ak}{b q id E K:Nat}{cells:List AV}(Ξ:eS id 1000=true)(hb:dP b (iq id st.H)=V (.box cells))(hq:cells[q]?=V (.v (.slice none 0 0))):
  Wk st ⟨λt=>er 2 id (st.f t),(id,.own E K [])::fQ b (.box (cells.set q (.o id))) (iq id st.H)⟩:=λC a w hr=>by
 obtain⟨F,β,hs,hd,hf,he⟩:=hr
 have pJ:id<1000:=by simpa using Ξ
 have qX:Below w.heap.size w w:=Below.refl _ _;have hx:=L4 (st:=⟨aR,st.H⟩) (w':=w) (F':=F) (c:=.own E K []) (v:=.slice none 0 0) pJ he.inv qX (λ_ h=>h) (λ_ h=>.inl h) (λb hb=>by cases hb) (.inl ⟨rfl,none,by simp⟩);have an:∀i,i≠id->(λi=>if i=id then Value.slice none 0 0 else β i) i=β i:=λi hi=>if_neg hi;have h2:=(he.trans hx).Oq;have M_:(b,Chunk.box cells)∈iq id st.H:=fk hb;refine⟨F,_,hs,hd,λt=>rZ an 2 (hf t),h2.chunks (λi c hm=>?_) ?_⟩
 .rcases bp.1 hm with hm|hm
  .cases hm;exact⟨⟨_,kr⟩,h2.inv.holds _ _ kr⟩
  .rcases nn hm with⟨rfl,rfl,c0,h0⟩|⟨_,h0⟩
   .refine⟨⟨c0,cw _ h0⟩,?_⟩;obtain⟨fV,cs,e,h1,hh,bd,fo,fE⟩:=h2.inv.holds i _ (cw _ M_);refine⟨fV,cs,e,h1,hh,by simpa using bd,λj hj=>fo j (by simpa using hj),λj hj=>?_⟩
    have jF:j<cells.length:=by simpa using hj
    by_cases UD:j=q
    .subst UD
     have e1:(cells.set j (.o id)).getD j .Δ=.o id:=by simp[bc,jF]
     have e2:=fE j jF;rw[List.getD_eq_getElem?_getD,hq,Option.getD_some]at e2;rw[e1,e2.bK];exact .o (by simp)
    .have e1:(cells.set q (.o id)).getD j .Δ=cells.getD j .Δ:=by simp[bc,List.getElem?_set_ne (Ne.symm UD)]
     rw[e1];exact fE j jF
   .exact⟨⟨c,cw _ h0⟩,h2.inv.holds _ _ (cw _ h0)⟩
 .have:=h2.inv.keys;simp only[ij,fT]at this ⊢;rw[zp];exact this
end
end
section
open Go.RowKit Go.Sort Go.Proofs Go.Shelf
section
variable{P:Program}
end
variable[M:cD][G:ed][R:eF]
section
variable{P:Program}
def Sr{vs:Array Value}(h:vs.size=1):vs=#[vs.getD 0 undef]:=by
 apply Array.ext
 .simp[h]
 .intro i h1 h2
  have:i=0:=by simp at h2;omega
  subst this;simp[h]
end
end
section
end
end Go.Cat
set_option linter.all false
namespace Go.CatSeq
open Go Go.RowKit Go.Proofs Go.Shelf Go.Maps Go.Sort
end Go.CatSeq
namespace Go.Cat
open Go.RowKit Go.Proofs Go.Shelf Go.Maps Go.Sort
variable[M:cD][G:ed][R:eF]{P:Program}
end Go.Cat
namespace Go.Cat
set_option linter.all false
section
open Go.Sort
class CL{α:Type}(c:α->α->Option Int):Prop where
 ex:∃cf,rQ c cf
def yD{α:Type}(c:α->α->Option Int)(x:α):List α->Option (List α)
 |[]=>V [x]
 |y::r=>match c x y,c y x with
  |some a,V b=>if a<0 then(if b<0 then none else V (x::y::r))else if b<0 then(match yD c x r with|some t=>V (y::t)|none=>none)else none
  |_,_=>none
def ux{α:Type}(c:α->α->Option Int):List α->Option (List α)
 |[]=>V []
 |x::r=>match ux c r with
  |some t=>yD c x t
  |none=>none
section
variable{α:Type}{c:α->α->Option Int}{cf:α->α->Int}
def Vz(h:rQ c cf)(x:α):∀{l r:List α},yD c x l=V r->r.Perm (x::l)/\(l.Pairwise (λx y=>cf x y<0)->r.Pairwise (λx y=>cf x y<0))
 |[],r,e=>by cases e;exact⟨.refl _,λ_=>List.pairwise_singleton _ _⟩
 |y::l,r,e=>by
  simp only[yD,h.1]at e;by_cases h1:cf x y<0
  .rw[if_pos h1]at e;by_cases h2:cf y x<0
   .rw[if_pos h2]at e;cases e
   .rw[if_neg h2]at e;cases e;refine⟨.refl _,λhp=>e9.2 ⟨λz hz=>?_,hp⟩⟩
    rcases bp.1 hz with rfl|hz
    .exact h1
    .have h3:=(e9.1 hp).1 z hz;have:=h.2.trans x y z (decide_eq_true h1) (decide_eq_true h3);simpa using this
  .rw[if_neg h1]at e;by_cases h2:cf y x<0
   .rw[if_pos h2]at e;cases ht:yD c x l with
    |none=>rw[ht]at e;cases e
    |some t =>
     rw[ht]at e;cases e;obtain⟨h3,h4⟩:=Vz h x ht;refine⟨((alm y).2 h3).trans (.swap x y l),λhp=>?_⟩;have iJ:=e9.1 hp;refine e9.2 ⟨λz hz=>?_,h4 iJ.2⟩
     rcases bp.1 (h3.mem_iff.1 hz)with rfl|hz
     .exact h2
     .exact iJ.1 z hz
   .rw[if_neg h2]at e;cases e
def Kd(h:rQ c cf):∀{l r:List α},ux c l=V r->r.Perm l/\r.Pairwise (λx y=>cf x y<0)
 |[],r,e=>by cases e;exact⟨.refl _,.nil⟩
 |x::l,r,e=>by
  simp only[ux]at e;cases ht:ux c l with
  |none=>rw[ht]at e;cases e
  |some t =>
   rw[ht]at e;obtain⟨h1,h2⟩:=Kd h ht;obtain⟨h3,h4⟩:=Vz h x e;exact⟨h3.trans ((alm x).2 h1),h4 h2⟩
end
def FT{α:Type}(c:α->α->Option Int)[CL c](l:List α):Option (List α):=χ (l.length<=140737488355328) (ux c l)
def ahe{α:Type}{c:α->α->Option Int}[hc:CL c]{l r:List α}(h:FT c l=V r):l.length<=140737488355328/\∃cf,rQ c cf/\ux c l=V r:=by
 obtain⟨hl,h⟩:=aq h;exact⟨hl,hc.ex.choose,hc.ex.choose_spec,h⟩
def ahd{α:Type}{c:α->α->Option Int}[hc:CL c]{l r:List α}(hl:l.length<=140737488355328)(h:ux c l=V r):FT c l=V r:=by
 unfold FT;rw[dW hl,h]
end
section
open Go.RowKit
variable[M:cD][G:ed]
def JW:List (Nat×AV)->(Nat->AV)->Nat->AV
 |[],f=>f
 |(t,x)::r,f=>JW r (ej f t x)
section
variable[R:eF]{P:Program}{w:World}{F:Nat->Prop}{β ay:Nat->Value}
def Yc:∀(ps:List Nat)(xs:List AV)(vs:List Value)(f:Nat->AV)(tmps:Array Value),ps.length=xs.length->vs.length=xs.length->(∀t,t∈ps->t<tmps.size) ->
  (∀i,i<xs.length->Rd w F β (xs.getD i .Δ) (vs.getD i undef))->(∀t,Rd w F β (f t) (tmps.getD t undef)) ->
  ((ps.zip vs).foldl (λT p=>T.setIfInBounds p.1 p.2) tmps).size=tmps.size/\∀t,Rd w F β (JW (ps.zip xs) f t) (((ps.zip vs).foldl (λT p=>T.setIfInBounds p.1 p.2) tmps).getD t undef)
 |[],[],[],f,tmps,_,_,_,_,hf=>⟨rfl,hf⟩
 |p::ps,x::xs,v::vs,f,tmps,h1,h2,h3,h4,hf=>by
  have:=Yc ps xs vs (ej f p x) (tmps.setIfInBounds p v) (by simpa using h1) (by simpa using h2) (λt ht=>by simpa using h3 t (by simp[ht])) (λi hi=>h4 (i+1) (by simpa using hi)) λt=>by
   unfold ej;cases hb:aM t p with
   |true =>
    obtain rfl:=cT hb;have:=h3 t (by simp);simpa [this]using h4 0 (by simp)
   |false =>
    have aI:p≠t:=λe=>by rw[e,jv]at hb;cases hb
    simpa [Array.getElem?_setIfInBounds_ne aI]using hf t
  refine⟨by simpa using this.1,λt=>?_⟩;have:=this.2 t;exact this
 |[],_::_,_,_,_,h1,_,_,_,_=>by cases h1
 |_::_,[],_,_,_,h1,_,_,_,_=>by cases h1
 |_,[],_::_,_,_,_,h2,_,_,_=>by cases h2
 |_,_::_,[],_,_,_,h2,_,_,_=>by cases h2
def Ax(i:Nat):Option Nat:=bif p9 1000 i then V i else none
def acm(an:∀i,1000<=i->ay i=β i){x:AV}{u:Value}(hx:rl Ax 2 x=x)(h:Rd w F β x u):Rd w F ay x u:=by
 rw[<-hx];refine zh (λi j eX=>?_) 2 h;unfold Ax at eX;cases hb:p9 1000 i with
 |true=>rw[hb]at eX;cases eX;exact an i (zT hb)
 |false=>rw[hb]at eX;cases eX
def X2(k:LS->ak->Prop):Exit->ak->Prop
 |.normal,s=>k .jb s
 |.ret,s=>k .ret s
 |.exit i,s=>k (.ex i) s
 |_,_=>False
def asg(P:Program)(R0:RF)(k:LS->ak->Prop):Exit->ak->Prop:=λe s=>match e with
 |.normal=>Ok P R0.n R0.body s (X2 k)
 |_=>False
def ad_{i:Nat}{c:Chunk}{H:Hp}(h:Inv w F β ((i,c)::H)):Inv w F β H:=
 h.sub (λx hx=>cw _ hx) (iO.1 h.keys).2
def NZ{H:Hp}{l:Nat}{o:Obj}(hI:Inv w F β H)(hF:¬F l)(ho:¬bH β H l):Inv (w.putObj l o) F β H:=
 have ha:gn F w (w.putObj l o):=λb hb=>qa λe=>hF (e▸hb)
 ⟨λb hb=>by rw[kz];exact hI.cH b hb,λi c hm=>pM ha (λ_ h=>h) (λb hb=>qa λe=>ho (e▸⟨i,c,hm,hb⟩)) (hI.holds i c hm),hI.keys,hI.apart,hI.eD,hI.fC.at ha⟩
end
section
variable{P:Program}
def akc{l lid:Nat}{R0:RF}{L:List (Nat×AV)}{H H1:Hp}{xs:List AV}{e0:LS}(No:R0.ps.toList.length=xs.length)(hpn:(R0.ps.toList.all λt=>eS t R0.n)=true)
  (hL:(L.map λp=>(p.1,rl Ax 2 p.2))=L) (HS:p9 1000 lid=true) (ek:jV ((lid,.lp l e0 R0 L)::H1)=true)
  (h:Ok (R:=eF.yes) P R0.n R0.assign ⟨JW (R0.ps.toList.zip xs) (Ψ L),H⟩ (asg (R:=eF.yes) P R0 λe s=>e=e0/\Wk (R:=eF.yes) ⟨aR,s.H⟩ ⟨Ψ [],H1⟩)) :
  Ω P (.y l) xs ⟨aR,(lid,.lp l .jb R0 L)::H⟩ λx s=>x=.v (.bool e0.vV)/\s.H=(lid,.lp l e0 R0 L)::H1:=by
 letI:eF:=eF.yes
 have HS:1000<=lid:=zT HS;refine⟨trivial,λw F β vs hI hs hv=>?_⟩;obtain⟨fn,tmps,D,an,hh,hn,hr⟩:=hI.holds lid _ (kr ..);have Ξ:=kS hh;have Mt:=ad_ hI;have AP:¬F l:=hI.apart l ⟨lid,_,kr ..,by rw[an];rfl⟩
 have ud:¬bH β H l:=λ⟨i,c,hm,hb⟩=>by
  have:=hI.eD i c lid _ l (cw _ hm) (kr ..) hb (by rw[an];rfl);subst this;exact(iO.1 hI.keys).1 (cL.2 ⟨_,hm,rfl⟩)
 have hz:(R0.ps.zip vs).foldl (λtmps(x:Nat×Value)=>tmps.setIfInBounds x.1 x.2) tmps=(R0.ps.toList.zip vs.toList).foldl (λT p=>T.setIfInBounds p.1 p.2) tmps:=by
  rw[<-Array.foldl_toList,Array.toList_zip]
 have adL:∀t,Rd w F β (Ψ L t) (tmps.getD t undef):=by
  have key:∀L':List (Nat×AV),(∀p,p∈L'->p∈L)->∀t,Rd w F β (Ψ L' t) (tmps.getD t undef):=by
   intro L';induction L' with
   |nil=>intro _ t;exact .Δ
   |cons p r ih =>
    intro hp t;obtain⟨d,x⟩:=p;simp only[Ψ];cases hb:aM t d with
    |true =>
     obtain rfl:=cT hb;exact hr (t,x) (hp _ (by simp))
    |false=>exact ih (λp iJ=>hp p (by simp[iJ])) t
  exact key L λ_ h=>h
 obtain⟨bd,fE⟩:=Yc R0.ps.toList xs vs.toList (Ψ L) tmps No (by simpa using hs) (λt ht=>by
  have:=eo.1 hpn t ht
  rw[hn];simpa [gW]using this) (λi hi=>by simpa using hv i hi) adL
 have hy:=run_yield (P:=P) (args:=vs) hh (by simpa [hs]using No.symm);refine⟨fn,_,R0.assign,R0.body,hy,roundIn_of_wpIn (F:=Fence.wide) trivial ?_⟩;let C1:Ctx:=⟨w,F,β,H,R0.n,V l,.inr trivial,[]⟩;have jo:Rel C1 ⟨JW (R0.ps.toList.zip xs) (Ψ L),H⟩ { tmps:=(R0.ps.zip vs).foldl (λtmps(x:Nat×Value)=>tmps.setIfInBounds x.1 x.2) tmps,defers:=[] } w:=
  ⟨F,β,by rw[hz,bd,hn],trivial,λt=>by rw[hz];exact fE t,⟨Ext.refl Mt,λd hd=>(fu hd).elim,qK,⟨[],rfl⟩⟩⟩
 refine wpIn_mono (h.h C1 rfl _ w jo) ?_;rintro e a1 w1 ⟨s1,⟨F1,dv,g1,g2,g3,g4⟩,hq⟩;cases e with
 |normal =>
  have hq:Ok (R:=eF.yes) P R0.n R0.body s1 (X2 _):=hq;have yi:w1.heap[l]?=V (.loop { state:=LS.jb.st,pending:=LS.jb.yN,fn,tmps,params:=R0.ps,assign:=R0.assign,body:=R0.body,defers:=D }):=(g4.x.block l Ξ ud).trans hh
  have UK:¬F1 l:=λhF=>by
   rcases g4.x.new l hF with h|h|h
   .exact AP h
   .exact absurd Ξ (mJ.2 h)
   .exact ud h
  have ac_:¬bH dv s1.H l:=λho=>by
   rcases g4.x.owned l ho with h|h
   .exact absurd Ξ (mJ.2 h)
   .exact ud h
  obtain⟨ob,AX⟩:∃ob:Obj,ob=.loop { state:=.busy,pending:=none,fn,tmps,params:=R0.ps,assign:=R0.assign,body:=R0.body,defers:=D }:=⟨_,rfl⟩;refine⟨w1.putObj l ob,by rw[AX];exact run_beginRound yi rfl,?_⟩;let C2:Ctx:=⟨w.putObj l ob,F,β,H,R0.n,V l,.inr trivial,[]⟩;have Mr:Inv (w1.putObj l ob) F1 dv s1.H:=NZ g4.inv UK ac_
  have ar:Ext C2.w C2.F C2.β ⟨aR,C2.H⟩ (w1.putObj l ob) F1 dv ⟨aR,s1.H⟩:=by
   refine⟨g4.x.os,g4.x.tape,g4.x.output,by show(w.putObj l ob).heap.size<=_;rw[kz,kz];exact g4.x.size,λb hb ho=>?_,g4.x.mono,λb hb=>(g4.x.new b hb).imp id λh=>h.imp (λh=>by show(w.putObj l ob).heap.size<=b;rw[kz];exact h) id,λb hb=>(g4.x.owned b hb).imp (λh=>by show(w.putObj l ob).heap.size<=b;rw[kz];exact h) id,λ_ _ _=>.Δ,Mr,g4.x.gC⟩
   have hb:b<w.heap.size:=by have hb:b<(w.putObj l ob).heap.size:=hb;rwa [kz]at hb
   show _=(w.putObj l ob).heap[b]?;by_cases e:b=l
   .subst e;rw[K3 Ξ,K3 (ou Ξ g4.x.size)]
   .rw[qa e,qa e];exact g4.x.block b hb ho
  have Dw:gn F1 w1 (w1.putObj l ob):=λb hb=>qa λe=>UK (e▸hb)
  have Nt:Rel C2 s1 a1 (w1.putObj l ob):=⟨F1,dv,g1,trivial,λt=>(g3 t).frame Dw λ_ h=>h,⟨ar,λd hd=>by
   obtain⟨D',q1,q2,q3,q4,q5⟩:=g4.m d hd;refine⟨D',q1,by show(w.putObj l ob).heap.size<=D';rw[kz];exact q2,(qa λe=>?_).trans q3,q4,q5⟩;have q2:w.heap.size<=D':=q2
   omega,g4.nd,g4.sp⟩⟩
  refine wpIn_mono (hq.h C2 rfl a1 _ Nt) ?_;rintro e a3 w3 ⟨s3,adv,qp⟩;have fin:∀(jump:Option Code)(e:LS),e.st=(if jump.isNone then .ready else .done)->e.yN=jump->jump.isNone=e.vV->(e=e0/\Wk (R:=eF.yes) ⟨aR,s3.H⟩ ⟨Ψ [],H1⟩) ->
    ∃v w',(Instr.endRound l jump).run P w3=.ok v w'/\∃v',Ending.returned v=.returned v'/\∃r ax F' ay,(r=.v (.bool e0.vV)/\ax.H=(lid,Chunk.lp l e0 R0 L)::H1)/\Rd w' F' ay r v'/\Ext w F β ⟨aR,(lid,Chunk.lp l .jb R0 L)::H⟩ w' F' ay ax:=by
   rintro jump e cW j7 qZ ⟨rfl,hW⟩;obtain⟨F3,qD,k1,k2,k3,k4⟩:=adv;obtain⟨F4,Cu,_,_,_,k5⟩:=hW C2 a3 w3 ⟨F3,qD,k1,k2,λ_=>.Δ,k4⟩;have hx:=k5.x
   have adJ:w.heap.size<=w3.heap.size:=by have:=hx.size;have h2:(w.putObj l ob).heap.size<=w3.heap.size:=this;rwa [kz]at h2
   have Ny:∀b,b<w.heap.size->¬bH β H b->w3.heap[b]?=(w.putObj l ob).heap[b]?:=λb hb ho=>hx.block b (by show b<(w.putObj l ob).heap.size;rw[kz];exact hb) ho;have UQ:∀b,F4 b->F b\/w.heap.size<=b\/bH β H b:=λb hb=>(hx.new b hb).imp id λh=>h.imp (λh=>by have h2:(w.putObj l ob).heap.size<=b:=h;rwa [kz]at h2) id;have UY:∀b,bH Cu H1 b->w.heap.size<=b\/bH β H b:=λb hb=>(hx.owned b hb).imp (λh=>by have h2:(w.putObj l ob).heap.size<=b:=h;rwa [kz]at h2) id
   have sz:w3.heap[l]?=V ob:=by rw[Ny l Ξ ud];exact K3 Ξ
   rw[AX]at sz;have sl:=run_endRound (P:=P) jump sz;have ac':=kS sz
   have UL:¬F4 l:=λhF=>by
    rcases UQ l hF with h|h|h
    .exact AP h
    .exact absurd Ξ (mJ.2 h)
    .exact ud h
   have M5:¬bH Cu H1 l:=λho=>by
    rcases UY l ho with h|h
    .exact absurd Ξ (mJ.2 h)
    .exact ud h
   refine⟨_,_,sl,_,rfl,_,⟨aR,(lid,Chunk.lp l e R0 L)::H1⟩,F4,Cu,⟨rfl,rfl⟩,by rw[qZ];exact .i (.v (.inl rfl)),?_⟩;have Ms:=k5.inv;generalize nU:w3.putObj l _=w4
   have iw:∀b,b≠l->w4.heap[b]?=w3.heap[b]?:=λb hb=>by rw[<-nU];exact qa hb
   have Dt:Inv w4 F4 Cu H1:=by rw[<-nU];exact NZ Ms UL M5
   have Ie:Cu lid=.pointer (V ⟨l,0,none⟩):=(hx.gC lid HS).trans an
   have haF:gn F w w4:=λb hb=>by
    have aI:b≠l:=λe=>AP (e▸hb);rw[iw b aI,Ny b (Mt.cH b hb) (λho=>Mt.apart b ho hb),qa aI]
   have ug:w4.os=w.os:=by rw[<-nU];exact hx.os
   have NG:jL w w4:=by rw[<-nU];exact hx.tape
   have hou:w4.output=w.output:=by rw[<-nU];exact hx.output
   have adK:w.heap.size<=w4.heap.size:=by rw[<-nU,kz];exact adJ
   refine⟨ug,NG,hou,adK,λb hb ho=>?_,hx.mono,λb hb=>(UQ b hb).imp id λh=>h.imp id λ⟨i,c,hm,hb⟩=>⟨i,c,cw _ hm,hb⟩,λb ⟨i,c,hm,hb⟩=>?_,λ_ _ _=>.Δ,⟨Dt.cH,λi c hm=>?_,yG ek,λb ⟨i,c,hm,hb⟩ xO=>?_,λi c i' c' b hm bN hb aN=>?_,Dt.fC⟩,hx.gC⟩
   .have aI:b≠l:=λe=>ho ⟨lid,_,kr ..,by rw[an,e];rfl⟩;rw[iw b aI,Ny b hb (λ⟨i,c,hm,hb⟩=>ho ⟨i,c,cw _ hm,hb⟩),qa aI]
   .rcases bp.1 hm with hm|hm
    .cases hm;exact .inr ⟨lid,_,kr ..,by have h9:Cu lid=β lid:=hx.gC lid HS;rw[<-h9];exact hb⟩
    .exact(UY b ⟨i,c,hm,hb⟩).imp id λ⟨i,c,hm,hb⟩=>⟨i,c,cw _ hm,hb⟩
   .rcases bp.1 hm with hm|hm
    .cases hm;refine⟨fn,tmps,D,Ie,?_,hn,λp hp=>?_⟩
     .rw[<-nU,K3 ac',cW,j7]
     .have hpe:rl Ax 2 p.2=p.2:=by
       have key:∀L':List (Nat×AV),(L'.map λp=>(p.1,rl Ax 2 p.2))=L'->∀p,p∈L'->rl Ax 2 p.2=p.2:=by
        intro L';induction L' with
        |nil=>intro _ p hp;cases hp
        |cons q r ih =>
         intro he p hp;rw[fT,List.cons.injEq]at he
         rcases bp.1 hp with rfl|hp
         .exact congrArg Prod.snd he.1
         .exact ih he.2 p hp
       exact key L hL p hp
      exact acm (λi hi=>hx.gC i hi) hpe ((hr p hp).frame haF hx.mono)
    .exact Dt.holds i c hm
   .rcases bp.1 hm with hm|hm
    .cases hm;rw[Ie]at hb;cases hb;exact UL xO
    .exact Dt.apart b ⟨i,c,hm,hb⟩ xO
   .rcases bp.1 hm with hm|hm<;>rcases bp.1 bN with bN|bN
    .cases hm;cases bN;rfl
    .cases hm;rw[Ie]at hb;cases hb;exact(M5 ⟨i',c',bN,aN⟩).elim
    .cases bN;rw[Ie]at aN;cases aN;exact(M5 ⟨i,c,hm,hb⟩).elim
    .exact Dt.eD i c i' c' b hm bN hb aN
  cases e with
  |normal=>exact fin none .jb rfl rfl rfl qp
  |ret=>exact fin (V .ret) .ret rfl rfl rfl qp
  |exit i=>exact fin (V (.exit i)) (.ex i) rfl rfl rfl qp
  |goto t=>exact qp.elim
  |panic ch=>exact qp.elim
  |outgrown=>exact qp.elim
 |exit id=>exact hq.elim
 |goto t=>exact hq.elim
 |ret=>exact hq.elim
 |panic ch=>exact hq.elim
 |outgrown=>exact hq.elim
def sQ(n:Nat):Code->List RF
 |.seq a b=>sQ n a++sQ n b
 |.cond _ a b=>sQ n a++sQ n b
 |.block _ c=>sQ n c
 |.loop c=>sQ n c
 |.scope c=>sQ n c
 |.rangeFunc _ ps a b=>⟨ps,a,b,n⟩::(sQ n a++sQ n b)
 |_=>[]
def FD(e:LS)(s:ak)(Q:Exit->ak->Prop):Prop:=match e with
 |.jb=>Q .normal s
 |.ret=>Q .ret s
 |.ex i=>Q (.exit i) s
 |.Lw=>False
section
variable{ρ:Type}{X Y:Option ρ}{r:ρ}{e:LS}{s:ak}{Q:Exit->ak->Prop}
def agh(h:(if e=.jb then X else Y)=V r)(y:X=V r->Q .normal s)(n:Y=V r->FD e s Q):FD e s Q:=by
 by_cases he:e=.jb
 .rw[if_pos he]at h;subst he;exact y h
 .rw[if_neg he]at h;exact n h
def agi(h:(if e=.ret then X else Y)=V r)(y:X=V r->Q .ret s)(n:Y=V r->FD e s Q):FD e s Q:=by
 by_cases he:e=.ret
 .rw[if_pos he]at h;subst he;exact y h
 .rw[if_neg he]at h;exact n h
end
def uQ.mem{f:Nat->AV}:∀{L:List (Nat×AV)},uQ f L->∀p,p∈L->Le (f p.1) p.2
 |[],_,_,h=>by cases h
 |(t,x)::r,hh,p,h=>by
  rcases bp.1 h with h|h
  .subst h;exact hh.1
  .exact hh.2.mem p h
def Ok.rangeFunc{n lid gf:Nat}{g:Operand}{ps:Array Tmp}{assign body:Code}{R0:RF}{cs:List AV}{L:List (Nat×AV)}{st:ak}{Q:Exit->ak->Prop}(hR0:R0=⟨ps,assign,body,n⟩)
  (pJ:eS lid 1000=true) (hg:ev (λt=>er 2 lid (st.f t)) g=.c (.func gf) [] cs) (hL:uQ (λt=>er 2 lid (st.f t)) L)
  (h:∀l,Ω P (.f gf) (.c (.yield l) [] []::cs) ⟨λt=>er 2 lid (st.f t),(lid,.lp l .jb R0 L)::iq lid st.H⟩ λ_ s=>∃e R' L',dP lid s.H=V (.lp l e R' L')/\FD e ⟨s.f,oE lid s.H⟩ Q) :
  Ok (R:=eF.no) P n (.rangeFunc g ps assign body) st Q:=by
 letI:eF:=eF.no
 refine⟨λC hn a w jo=>?_⟩
 have pJ:lid<1000:=by simpa using pJ
 have DW:C.ro=none:=C.DW.resolve_right λh=>h;obtain⟨F,β,hs,_,hf,he⟩:=jo;refine wpIn_rangeFunc λfn _=>?_;have adw:(fW C.ro).round=none:=DW;rw[adw];obtain⟨W1,jB⟩:∃W1,(w.alloc (.deferred (V []))).alloc (.loop { state:=.ready,pending:=none,fn,tmps:=a.tmps,params:=ps,assign,body,defers:=w.heap.size })=W1:=⟨_,rfl⟩
 have Mv:W1.heap[w.heap.size+1]?=V (.loop { state:=.ready,pending:=none,fn,tmps:=a.tmps,params:=ps,assign,body,defers:=w.heap.size }):=by
  rw[<-jB];have:=aaq (w.alloc (.deferred (V []))) (.loop { state:=.ready,pending:=none,fn,tmps:=a.tmps,params:=ps,assign,body,defers:=w.heap.size });rwa [World.size_alloc]at this
 have qV:W1.heap[w.heap.size]?=V (.deferred (V [])):=by
  rw[<-jB];exact(Ru _ _ _ (by simp)).trans (aaq w _)
 have hold:∀b,b<w.heap.size->W1.heap[b]?=w.heap[b]?:=λb hb=>by
  rw[<-jB];exact(Ru _ _ _ (by simp;omega)).trans (Ru _ _ _ hb)
 have akF:W1.heap.size=w.heap.size+2:=by rw[<-jB];simp
 let bW:Nat->Value:=λi=>if i=lid then .pointer (V ⟨w.heap.size+1,0,none⟩)else β i;have hI:=he.inv;have Dw:gn F w W1:=λb hb=>hold b (hI.cH b hb);have yB:∀i,i≠lid->bW i=β i:=λi hi=>if_neg hi;have Nr:∀t,Rd W1 F bW (er 2 lid (st.f t)) (a.tmps.getD t undef):=λt=>rZ yB 2 ((hf t).frame Dw λ_ h=>h)
 have me:Ext w F β ⟨st.f,st.H⟩ W1 F bW ⟨λt=>er 2 lid (st.f t),(lid,.lp (w.heap.size+1) .jb R0 L)::iq lid st.H⟩:=by
  refine qg pJ hI (by rw[<-jB];rfl) (by rw[<-jB];exact⟨rfl,λ_=>bm _⟩) (by rw[<-jB];rfl) (by omega) (λb hb _=>hold b hb) (λi c' b _ hm hb=>hold b (hI.gg ⟨i,c',hm,hb⟩)) (λb hb=>.inl ?_) ?_
  .simp only[bP,Gx]at hb;omega
  .rw[hR0];exact⟨fn,a.tmps,w.heap.size,if_pos rfl,Mv,by show a.tmps.size=n;rw[hs,hn],λp hp=>hL.mem p hp _ _ _ _ (Nr p.1)⟩
 have hIb:=me.inv
 have hgv:Rd W1 F bW (.c (.func gf) [] cs) (a.eval g):=by rw[<-hg];exact Ao Nr g
 obtain⟨us,ws,eW,fG,NP,_,hwr⟩:=hgv.nG;have e1:us=#[]:=s4 (by simpa using fG);subst e1;have hc:=h (w.heap.size+1);obtain⟨⟨fn0,c0,dR,dM,xR⟩,acF⟩:=hc
 have ri:¬ fn0.name = "runtime.NumGoroutine":=by simpa using dM
 refine⟨w.heap.size+1,[{ target:=.collected w.heap.size,args:=#[] }],W1,{ target:=.fn (.func gf) ws,args:=#[.func (.yield (w.heap.size+1)) #[] #[]] },W1,gf,#[.func (.yield (w.heap.size+1)) #[] #[]]++ws,W1,?_,?_,λ_ _=>trivial,?_,λh=>(by cases h),?_⟩
 .rw[<-jB];exact run_enterLoop_outer _ _ _ _ _
 .simp only[resolve,eW];simp[go_sem]
 .simp[invoke,callFunc,dR,ri,xR]
 refine uZ (Calls.mono (acF W1 F bW _ hIb (by simp[NP];omega) λi hi=>?_) ?_)
 .cases i with
  |zero =>
   have h0:(#[Value.func (Fn.yield (w.heap.size+1)) #[] #[]]++ws).getD 0 undef=.func (.yield (w.heap.size+1)) #[] #[]:=by simp[pZ]
   rw[h0];exact .i (.c rfl rfl (λi hi=>absurd hi (alk _)) (λi hi=>absurd hi (alk _)))
  |succ i =>
   have hi:i<cs.length:=by simpa using hi
   have h2:i<ws.size:=by omega
   have:=hwr i hi;simpa [pZ,h2,bc]using this
 rintro e w' ⟨v,rfl,r,s,F',ay,⟨e,R',L',ac0,hq⟩,hr,hx⟩;have hm:=fk ac0;obtain⟨Tv,YK,D',jr,ql,_,_⟩:=hx.inv.holds lid _ hm
 have aI:e.st≠.busy:=by cases e<;>first|(intro h;cases h;done)|exact hq.elim
 have sl:=run_endLoop (P:=P) ql aI;obtain⟨ob,AX⟩:∃ob:Obj,w'.putObj (w.heap.size+1) ob=w'.putObj (w.heap.size+1) (.loop { state:=.exhausted,pending:=e.yN,fn:=Tv,tmps:=YK,params:=R'.ps,assign:=R'.assign,body:=R'.body,defers:=D' }):=⟨_,rfl⟩;have sA:=kS ql;have ud:bH ay s.H (w.heap.size+1):=⟨lid,_,hm,by rw[jr];rfl⟩;have AP:¬F' (w.heap.size+1):=hx.inv.apart _ ud
 have MI:∀b,bH ay (oE lid s.H) b->bH ay s.H b/\b≠w.heap.size+1:=λb ⟨i,c,lj,hb⟩=>by
  obtain⟨h1,h2⟩:=vk.1 lj;exact⟨⟨i,c,h1,hb⟩,λe=>h2 (hx.inv.eD i c lid _ b h1 hm hb (by rw[jr,e];rfl))⟩
 generalize nU:w'.putObj (w.heap.size+1) (.loop { state:=.exhausted,pending:=e.yN,fn:=Tv,tmps:=YK,params:=R'.ps,assign:=R'.assign,body:=R'.body,defers:=D' })=w4
 have acW:(Instr.endLoop (w.heap.size+1)).run P w'=.ok e.yN w4:=by rw[sl,<-nU]
 have iw:∀b,b≠w.heap.size+1->w4.heap[b]?=w'.heap[b]?:=λb hb=>by rw[<-nU];exact qa hb
 have Ms:Inv w4 F' ay (oE lid s.H):=by rw[<-nU];exact NZ (hx.inv.oE lid) AP λho=>(MI _ ho).2 rfl
 have ha4:gn F' w' w4:=λb hb=>iw b λe=>AP (e▸hb);have hd4:Ext w' F' ay ⟨aR,s.H⟩ w4 F' ay ⟨aR,oE lid s.H⟩:=
  ⟨by rw[<-nU];rfl,by rw[<-nU];exact⟨rfl,λ_=>bm _⟩,by rw[<-nU];rfl,by rw[<-nU,kz];exact bm _,λb _ ho=>iw b λe=>ho (e▸ud),λ_ h=>h,λ_ h=>.inl h,λb ho=>.inr (MI b ho).1,λ_ _ _=>.Δ,Ms,λ_ _=>rfl⟩
 have oL:=((he.trans me).trans hx.no).trans hd4
 have Mp:¬bH bW ((lid,Chunk.lp (w.heap.size+1) .jb R0 L)::iq lid st.H) w.heap.size:=λ⟨i,c,lj,hb⟩=>by
  rcases bp.1 lj with lj|lj
  .cases lj;rw[show bW lid=.pointer (V ⟨w.heap.size+1,0,none⟩)from if_pos rfl]at hb;simp only[bP,Gx]at hb;omega
  .obtain⟨h1,c1,h2,_⟩:=iH lj;rw[yB i h1]at hb;exact absurd (hI.gg ⟨i,c1,h2,hb⟩) (Nat.lt_irrefl _)
 have Nu:Rel C ⟨s.f,oE lid s.H⟩ { a with defers:=[{ target:=.collected w.heap.size,args:=#[] }]++a.defers } w4:=by
  have j9:C.ms ([{ target:=.collected w.heap.size,args:=#[] }]++a.defers)=[{ target:=.collected w.heap.size,args:=#[] }]++C.ms a.defers:=Ctx.aeN he.sp;refine⟨F',ay,hs,trivial,λt=>((hx.keep t _ (Nr t)).frame ha4 λ_ h=>h),oL.x,λd hd=>?_,?_,?_⟩
  .rw[j9]at hd
   rcases ep.1 hd with hd|hd
   .obtain rfl:=cV.1 hd;refine⟨w.heap.size,rfl,he.x.size,?_,λhF=>?_,λho=>?_⟩
    .rw[iw _ (by omega),hx.block _ (by omega) Mp,qV]
    .rcases hx.new _ hF with h|h|h
     .exact absurd (hI.cH _ h) (Nat.lt_irrefl _)
     .omega
     .exact Mp h
    .rcases hx.owned _ (MI _ ho).1 with h|h
     .omega
     .exact Mp h
   .exact oL.m d hd
  .rw[j9];refine List.nodup_append.2 ⟨by simp,he.nd,λx Θ y hy e=>?_⟩;obtain rfl:=cV.1 Θ;subst e;obtain⟨D2,q1,_,q3,_⟩:=he.m _ hy;have:=kS q3;simp only[Deferred.mk.injEq,aln]at q1;omega
  .obtain⟨l,hl⟩:=he.sp;exact⟨_::l,by rw[hl];rfl⟩
 refine⟨e.yN,w4,acW,?_⟩;cases e with
 |jb=>exact⟨_,Nu,hq⟩
 |ret=>exact wpIn_ret ⟨_,Nu,hq⟩
 |ex i=>exact wpIn_exit ⟨_,Nu,hq⟩
 |Lw=>exact hq.elim
end
end
section
open Go.RowKit
def R0{α:Type}{x:Option α}:dA x x:=dA.refl x
def I0{α:Type}{p:Prop}[Decidable p]{x y x' y':Option α}(h:dA x y)(h':dA x' y'):dA (if p then x else x') (if p then y else y'):=dA.ite h h'
def lr{a:AV}:Le a a:=λ_ _ _ _ h=>h
def Q0:True:=True.intro
def Q1{a:AV}:Le a a/\True:=⟨lr,Q0⟩
def Q2{a b:AV}:Le a a/\Le b b/\True:=⟨lr,Q1⟩
def Q3{a b c:AV}:Le a a/\Le b b/\Le c c/\True:=⟨lr,Q2⟩
def Q4{a b c d:AV}:Le a a/\Le b b/\Le c c/\Le d d/\True:=⟨lr,Q3⟩
def Q5{a b c d e:AV}:Le a a/\Le b b/\Le c c/\Le d d/\Le e e/\True:=⟨lr,Q4⟩
def Q6{a b c d e f:AV}:Le a a/\Le b b/\Le c c/\Le d d/\Le e e/\Le f f/\True:=⟨lr,Q5⟩
def Q7{a b c d e f g:AV}:Le a a/\Le b b/\Le c c/\Le d d/\Le e e/\Le f f/\Le g g/\True:=⟨lr,Q6⟩
def Q8{a b c d e f g h:AV}:Le a a/\Le b b/\Le c c/\Le d d/\Le e e/\Le f f/\Le g g/\Le h h/\True:=⟨lr,Q7⟩
def hr{c:Chunk}:∃c0,V c=V c0/\iQ c0 c:=⟨_,rfl,.refl _⟩
def J1{a:Chunk}:(∃c0,V a=V c0/\iQ c0 a)/\True:=⟨⟨_,rfl,.refl _⟩,Q0⟩
def J2{a b:Chunk}:(∃c0,V a=V c0/\iQ c0 a)/\(∃c0,V b=V c0/\iQ c0 b)/\True:=⟨⟨_,rfl,.refl _⟩,J1⟩
def J3{a b c:Chunk}:(∃c0,V a=V c0/\iQ c0 a)/\(∃c0,V b=V c0/\iQ c0 b)/\(∃c0,V c=V c0/\iQ c0 c)/\True:=⟨⟨_,rfl,.refl _⟩,J2⟩
def J4{a b c d:Chunk}:(∃c0,V a=V c0/\iQ c0 a)/\(∃c0,V b=V c0/\iQ c0 b)/\(∃c0,V c=V c0/\iQ c0 c)/\(∃c0,V d=V c0/\iQ c0 d)/\True:=⟨⟨_,rfl,.refl _⟩,J3⟩
def sj{α:Type}{a b:α}(h:V a=V b):b=a:=(iP h).symm
section
variable[M:cD][G:ed][R:eF]
variable{P:Program}{n:Nat}{st:ak}{Q:Exit->ak->Prop}{T:TT}
def wT{c:Code}(L:List (Nat×AV))(H':Hp)(a:uQ st.f L)(b:xi st.H H')(k:jV H'=true)(h:Ok P n c ⟨Ψ L,H'⟩ Q):Ok P n c st Q:=Ok.wk (Wk.tab a b k) h
def Sg{id:Nat}{ops:Array Oper}{y:Code}(hT:bL P T)(h:ju P T n ops ops.toList st (nx P n y Q .normal)):Ok P n (.seq (.region id ops false) y) st Q:=Ok.seq (Ok.region hT h)
def cn{x y:Code}{ρ:Type}{X Y:Option ρ}{r:ρ}(d:Nat)(b:Bool)(hb:st.f d=.v (.bool b))(h:(if b=true then X else Y)=V r)(yes:b=true->X=V r->Ok P n x st Q)(no:b=false->Y=V r->Ok P n y st Q):Ok P n (.cond (.tmp d) x y) st Q:=Ok.cond hb h yes no
def sq{x y:Code}(h:Ok P n x st (nx P n y Q)):Ok P n (.seq x y) st Q:=Ok.seq h
def bl{id:Nat}{c:Code}(h:Ok P n c st (bk id Q)):Ok P n (.block id c) st Q:=Ok.block h
def sk(h:Q .normal st):Ok P n .skip st Q:=Ok.skip h
def rt(h:Q .ret st):Ok P n .ret st Q:=Ok.ret h
def xt{id:Nat}(h:Q (.exit id) st):Ok P n (.exit id) st Q:=Ok.exit h
def wt{L:List (Nat×AV)}{H':Hp}(hL:uQ st.f L)(hH:xi st.H H')(hk:jV H'=true):Wk st ⟨Ψ L,H'⟩:=Wk.tab hL hH hk
def po{g:Nat}{fn:Func}{args:List AV}{r:AV}(hT:bL P T)(n:Nat)(dR:P.funcs[g]?=V fn) (dM:(fn.name == "runtime.NumGoroutine")=false) (hb:fn.body=V (fn.body.getD .skip)) (hn:fn.ntmps=n) (hle:p9 args.length n=true)
  (h:Ok P n (fn.body.getD .skip) ⟨lq args,[]⟩ (r_ T fn.results.toList λx st=>Fz st.H x r)):Pure P g args r:=afS hT dR dM hb hn (zT hle) h
def pw{g E K:Nat}{fn:Func}{args:List AV}{rows:List (List AV)}(hT:bL P T)(n:Nat)(dR:P.funcs[g]?=V fn) (dM:(fn.name == "runtime.NumGoroutine")=false) (hb:fn.body=V (fn.body.getD .skip)) (hn:fn.ntmps=n) (hle:p9 args.length n=true)
  (h:Ok P n (fn.body.getD .skip) ⟨lq args,[]⟩ (r_ T fn.results.toList (K9 E K rows))):j5 P g args E K rows:=afR hT dR dM hb hn (zT hle) h
end
section
variable[M:cD][G:ed]
variable{m:List (Nat×Nat)}{x x2 x3 x4:AV}{xs ys:List AV}
def n1(t:jx m xs ys)(h:kH x=true:=by rfl):jx m (x::xs) (x::ys):=.cons (Ln.cP h) t
def n2(t:jx m xs ys)(h:kH x=true:=by rfl)(h2:kH x2=true:=by rfl):jx m (x::x2::xs) (x::x2::ys):=n1 (n1 t h2) h
def n4(t:jx m xs ys)(h:kH x=true:=by rfl)(h2:kH x2=true:=by rfl)(h3:kH x3=true:=by rfl)(h4:kH x4=true:=by rfl):jx m (x::x2::x3::x4::xs) (x::x2::x3::x4::ys):=n2 (n2 t h3 h4) h h2
def Wf:∀{xs:List AV},xs.all kH=true->jx m xs xs
 |[],_=>.nil
 |x::xs,h=>by
  rw[List.all_cons,bR]at h;exact .cons (Ln.cP h.1) (Wf h.2)
def nq(h:xs.all kH=true:=by rfl):jx m xs xs:=Wf h
def l1(t:jh xs ys):jh (x::xs) (x::ys):=.cons (Le.refl _) t
def l2(t:jh xs ys):jh (x::x2::xs) (x::x2::ys):=l1 (l1 t)
def l4(t:jh xs ys):jh (x::x2::x3::x4::xs) (x::x2::x3::x4::ys):=l2 (l2 t)
def lz:jh xs xs:=jh.refl xs
end
end
section
open Go.RowKit Go.Sort Go.Proofs
variable[M:cD][G:ed][R:eF]
def ahM{α:Type}{cf:α->α->Int}(hw:SWO (λx y=>decide (cf x y<0))){l r s:List α}(h1:r.Perm l)(h2:r.Pairwise (λx y=>cf x y<0))(h3:s.Perm l)(h4:s.Pairwise (λx y=>¬cf y x<0)):s=r:=by
 have acx:∀{x y:α},cf x y<0->¬cf y x<0:=λ{x y}h1 h2=>by
  have:=hw.trans x y x (decide_eq_true h1) (decide_eq_true h2);have hi:=hw.irrefl x;rw[hi]at this;cases this
 have MF:∀a,a∈r->∀b,b∈r->a=b\/cf a b<0\/cf b a<0:=λa ha b hb=>by
  obtain⟨i,hi,rfl⟩:=CA.1 ha;obtain⟨j,hj,rfl⟩:=CA.1 hb;have hp:=List.pairwise_iff_getElem.1 h2
  rcases Nat.lt_trichotomy i j with h|h|h
  .exact .inr (.inl (hp i j hi hj h))
  .subst h;exact .inl rfl
  .exact .inr (.inr (hp j i hj hi h))
 refine List.Perm.eq_of_pairwise (le:=λx y=>¬cf y x<0) (λa b ha hb fY hba=>?_) h4 (h2.imp λh=>acx h) (h3.trans h1.symm)
 rcases MF a ((h3.trans h1.symm).mem_iff.1 ha) b hb with h|h|h
 .exact h
 .exact absurd h hba
 .exact absurd h fY
section
variable{P:Program}
def afJ{f k E g:Nat}{α:Type}{enc:α->List AV}{c:α->α->Option Int}[CL c]{l r:List α}(hS:GL P f k)(hf:qb P f)
  (hk:∀x,(enc x).length=k) (cY:∀x y n,c x y=V n->@Pure cD.yes G P g [.a (enc x),.a (enc y)] (.v (.int .i64 n)))
  (eg:∀args w,(callFunc g args).run P w=.ok (.enter g args) w) (h:FT c l=V r) :
  mO P f [.o 1000,.c (.func g) [] []] (.own E k (l.map enc)) (λx c=>x=.t []/\c=.own E k (r.map enc)):=by
 obtain⟨gA,cf,hc,cO⟩:=ahe h;obtain⟨Va,lV⟩:=Kd hc cO;refine⟨hf,λw F β vs hI hs jG=>?_⟩;have h0:=jG 0 (Nat.zero_lt_succ _);have h1:=jG 1 (Nat.lt_succ_self _);obtain⟨a,n,cap,an,e0⟩:=Rd.ko (id:=1000) h0;obtain⟨us,ws,e1,fG,NP,_⟩:=Rd.nG (fn:=.func g) (fs:=[]) (cs:=[]) h1;have NK:us=#[]:=s4 (by simpa using fG);have adU:ws=#[]:=s4 (by simpa using NP);subst NK;subst adU
 have adM:vs=#[.slice a n cap,.func (.func g) #[] #[]]:=by have:=Ss (vs:=vs) (by simpa using hs);rw[e0,e1]at this;exact this
 subst adM;have hlen:=Va.length_eq;have Ns:∀W:World,∀F:Nat->Prop,bq W F (.t []) (.tuple #[]):=λW F=>.t rfl λi hi=>absurd hi (by simp);have hh:=hI.holds 1000 (.own E k (l.map enc)) (by simp)
 rcases hh with⟨hr,a',jr⟩|⟨b,cp,cur,jr,Uh,hb,nR,nM,fD,DV,eT⟩
 .have hl:l=[]:=by simpa using hr
  subst hl;rw[jr]at an;cases an;have db:r=[]:=qI (by simpa using hlen);refine(hS.1 _ _ _ w).mono ?_;rintro e w' ⟨rfl,rfl⟩;exact⟨_,rfl,_,_,F,⟨rfl,rfl⟩,Ns _ _,rfl,jL.refl _,rfl,bm _,λ_ _ _=>rfl,λ_ h=>h,λ_ h=>.inl h,rfl,.inl ⟨by rw[db];rfl,_,jr⟩⟩
 .have hll:(l.map enc).length=l.length:=au _;rw[hll]at jr nR;rw[jr]at an
  obtain⟨ea,en,ec⟩:V (⟨b,0,none⟩:Addr)=a/\l.length=n/\cp=cap:=by simpa using an
  subst ea;subst en;subst ec;have blt:b<w.heap.size:=kS hb
  have kX:bP (β 1000)=V b:=by
   rw[jr]
   have h0:aM cp 0=false:=by cases cp<;>first|rfl|omega
   simp[bP,h0]
  have hnF:¬F b:=hI.apart b ⟨1000,.own E k (l.map enc),by simp,kX⟩;let A:Type:={ p:List Value×α // p.1.length=k/\(∀v,v∈p.1->v.oneCell'=true)/\∀j,j<k->bq w F ((enc p.2).getD j .Δ) (p.1.getD j undef) };let ev:A->List Value:=λp=>p.1.1;have kF:∀i,(hi:i<l.length)->(((gM k).map λj=>cur.getD (i*k+j) undef),l[i]).1.length=k/\(∀v,v∈(((gM k).map λj=>cur.getD (i*k+j) undef),l[i]).1->v.oneCell'=true) /\
    ∀j,j<k->bq w F ((enc (((gM k).map λj=>cur.getD (i*k+j) undef),l[i]).2).getD j .Δ) ((((gM k).map λj=>cur.getD (i*k+j) undef),l[i]).1.getD j undef):=λi hi=>by
   have e2:(l.map enc).getD i []=enc l[i]:=by simp[bc,hi]
   refine⟨by simp,λv hv=>?_,λj hj=>?_⟩
   .obtain⟨j,hj,rfl⟩:=cL.1 hv;exact(eT i j (by simpa using hi) (List.mem_range.1 hj)).1
   .have:=(eT i j (by simpa using hi) hj).2;rw[e2]at this
    have e3:((gM k).map λj=>cur.getD (i*k+j) undef).getD j undef=cur.getD (i*k+j) undef:=by simp[bc,hj]
    dsimp only;rw[e3];exact this
  let l':List A:=List.ofFn λi:Fin l.length=>(⟨(((gM k).map λj=>cur.getD (i.1*k+j) undef),l[i.1]),kF i.1 i.2⟩:A)
  have ub:l'.length=l.length:=by simp[l']
  have adg:l'.map (λp=>p.1.2)=l:=by
   apply List.ext_getElem (by simp[l']);intro i h1 h2;simp[l']
  rcases pf l.length with hz|pO
  ·-- nothing to be sorted
   have DK:l=[]:=qI hz;subst DK;have db:r=[]:=qI (by simpa using hlen);refine(hS.1 _ _ _ w).mono ?_;rintro e w' ⟨rfl,rfl⟩;exact⟨_,rfl,_,_,F,⟨rfl,rfl⟩,Ns _ _,rfl,jL.refl _,rfl,bm _,λ_ _ _=>rfl,λ_ h=>h,λ_ h=>.inl h,rfl,.inr ⟨b,cp,cur,by rw[db];exact jr,Uh,hb,by rw[db];exact Nat.zero_le _,nM,fD,by rw[db];intro i hi;exact absurd hi (by simp),by rw[db];intro i j hi;exact absurd hi (by simp)⟩⟩
  haveI:Inhabited A:=⟨l'[0]'(by omega)⟩
  let tr:A->A->Int:=λx y=>cf x.1.2 y.1.2;have Vg:SWO (λx y=>decide (tr x y<0)):=⟨λx=>hc.2.irrefl x.1.2,λx y z=>hc.2.trans x.1.2 y.1.2 z.1.2,λx y z=>hc.2.ntrans x.1.2 y.1.2 z.1.2⟩;have DJ:∀x,(ev x).length=k:=λx=>x.2.1;have qU:∀x,∀v∈ev x,v.oneCell'=true:=λx=>x.2.2.1
  have nO:∀i(hi:i<l.length),l'[i]'(by omega)=(⟨(((gM k).map λj=>cur.getD (i*k+j) undef),l[i]),kF i hi⟩:A):=λi hi=>by simp[l']
  have hH:HoldsK ev k w b 0 l'.toArray:=λj hj=>by
   rw[size_flatK]at hj
   have jF:j<l.length*k:=by simpa [ub]using hj
   have lf:0<k:=(pf k).elim (λh=>by subst h;simp at jF) λh=>h;have hq:j/k<l.length:=(Nat.div_lt_iff_lt_mul lf).2 jF;have hm:j % k<k:=Nat.mod_lt _ lf
   have hjj:j/k*k+j % k=j:=by rw[ow];exact Nat.div_add_mod j k
   have UC:j<cur.size:=by rw[fD];exact ou jF (cC k nR)
   refine⟨?_,?_⟩
   .rw[get_flatK _ _ _ _ (by simpa [ub]using jF),cell_of_row w b _ cur E (0,0) hb]
    have e2:l'.toArray[j/k]! = l'[j/k]'(by omega):=by rw[getElem!_pos _ _ (by simpa [ub]using hq)];simp
    rw[e2,nO _ hq];show cur[0+j]?=V (((gM k).map λq=>cur.getD (j/k*k+q) undef)[j % k]!);rw[getElem!_pos _ _ (by simpa using hm)];simp[hjj,UC]
   .simp[World.frozen?,hb]
  have agree:∀(m:Nat)(os:Array Obj)(dk:Array A),gn F w (sortWorldK ev k w b 0 m dk os):=λm os dk b' aN=>Uo (λe=>hnF (e▸aN)) (hI.cH b' aN)
  have Vf:=hS.2 A ev DJ qU tr Vg g #[] b 0 cp l'.toArray w eg (λm os dk _ x y=>by
    let W:=sortWorldK ev k w b 0 m dk os;have hIW:Inv W F (λ_=>undef) []:=⟨λb' aN=>ou (hI.cH b' aN) Yg,λ_ _ h=>by simp at h,by simp,λ_ ⟨_,_,h,_⟩=>by simp at h,λ_ _ _ _ _ h=>by simp at h,hI.fC.at (agree m os dk)⟩
    have rd:∀z:A,Rd W F (λ_=>undef) (.a (enc z.1.2)) (.agg (ev z).toArray):=λz=>by
     have nf:(ev z).length=k:=DJ z;refine .i (.a (by simp[nf,hk]) (λi hi=>?_) λi hi=>?_)
     .have br:i<(ev z).length:=by rw[nf,<-hk z.1.2];exact hi
      have:(ev z).toArray.getD i undef=(ev z)[i]:=by simp[wV,br]
      rw[this];exact qU z _ (eA br)
     .have br:i<(ev z).length:=by rw[nf,<-hk z.1.2];exact hi
      have e:(ev z).toArray.getD i undef=(ev z).getD i undef:=by simp[wV,bc,br]
      rw[e];exact(z.2.2.2 i (by rw[<-hk z.1.2];exact hi)).frame (agree m os dk) λ_ h=>h
    have hp:=(cY x.1.2 y.1.2 (cf x.1.2 y.1.2) (hc.1 _ _)).2 W F (λ_=>undef) #[.agg (ev x).toArray,.agg (ev y).toArray] hIW rfl (λi hi=>by
     match i,hi with
     |0,_=>exact rd x
     |1,_=>exact rd y
     |n+2,hi=>exact absurd hi (by simp))
    refine(show Calls P g (#[.agg (ev x).toArray,.agg (ev y).toArray]++#[]) W _ from hp).mono ?_;rintro e w' ⟨v,rfl,hb,hr⟩;refine⟨?_,hb.acq⟩
    cases hr with|v h=>rfl) hH blt (by simp[ub];omega)
  have bd:l'.toArray.size=l.length:=by simp[ub]
  rw[bd]at Vf;refine(show Calls P f #[.slice (V ⟨b,0,none⟩) l.length cp,.func (.func g) #[] #[]] w _ from Vf).mono ?_;rintro e w' ⟨rfl,n,os,rfl⟩
  have cr:pdq (λx y=>decide (tr x y<0)) l'.toArray 0 l.length (Lib.bitLen l.length) true true=(zw tr l').toArray:=by simp[zw,ub]
  simp only[cr];obtain⟨DQ,H3⟩:=ahc Vg l';have vP:(zw tr l').map (λp=>p.1.2)=r:=ahM hc.2 Va lV (by have:=DQ.map (λp:A=>p.1.2);rw[adg]at this;exact this) (by rw[List.pairwise_map];exact H3);generalize dG:zw tr l'=s at vP DQ H3
  have yt:s.length=l.length:=by rw[DQ.length_eq,ub]
  have hbH:=acU (enc:=ev) (k:=k) (off:=0) (n:=n) (d:=s.toArray) (os:=os) hb;subst vP;have j8:(s.map λp=>p.1.2).length=s.length:=au _;refine⟨_,rfl,_,_,F,⟨rfl,rfl⟩,Ns _ _,rfl,⟨rfl,λ_=>Nat.le_add_right _ _⟩,rfl,Yg,λc hc aI=>Uo (λh=>aI (by rw[kX,h])) hc,λ_ h=>h,λ_ h=>.inl h,?_,.inr ⟨b,cp,_,?_,Uh,hbH,?_,nM,?_,?_,?_⟩⟩
  .rfl
  .rw[jr,au,j8,yt]
  .rw[au,j8,yt];exact nR
  .simp[putCells,fD]
  .intro i hi;rw[au,j8]at hi;simp[bc,hi,hk]
  .intro i j hi hj;rw[au,j8]at hi
   have vK:i<l.length:=by omega
   have nP:i*k+j<l.length*k:=by
    have:=cC k (show i+1<=l.length from vK);rw[Nat.add_mul,Nat.one_mul]at this;omega
   have Ux:i*k+j<cur.size:=by rw[fD];exact ou nP (cC k nR)
   have lf:0<k:=by omega
   have e4:(i*k+j)/k=i:=by rw[ow,Nat.mul_add_div lf,Nat.div_eq_of_lt hj];rfl
   have e5:(i*k+j) % k=j:=by rw[ow,Nat.mul_add_mod,Nat.mod_eq_of_lt hj]
   have AQ:i*k+j<s.length*k:=by rw[yt];exact nP
   have e6:(putCells id 0 (flatK ev k s.toArray) cur).getD (i*k+j) undef=(ev s[i]).getD j undef:=by
    have:(putCells id 0 (flatK ev k s.toArray) cur)[i*k+j]?=V ((ev s[i]).getD j undef):=by
     unfold putCells;rw[Array.getElem?_mapIdx,Array.getElem?_eq_getElem Ux];have hc:0<=i*k+j/\i*k+j<0+(flatK ev k s.toArray).size:=⟨Nat.zero_le _,by rw[size_flatK];simpa using AQ⟩;rw[Option.map_some,if_pos hc,Nat.sub_zero,get_flatK _ _ _ _ (by simpa using AQ),e4,e5]
     have e2:s.toArray[i]! = s[i]:=by rw[getElem!_pos _ _ (by simpa using hi)];simp
     rw[e2];show V ((ev s[i])[j]!)=_;rw[getElem!_pos _ _ (by rw[DJ];exact hj)];simp[bc,DJ,hj]
    rw[Array.getD_eq_getD_getElem?,this];rfl
   have e7:((s.map λp=>p.1.2).map enc).getD i []=enc s[i].1.2:=by simp[bc,hi]
   rw[e6,e7]
   have UB:j<(ev s[i]).length:=by rw[DJ];exact hj
   have e8:(ev s[i]).getD j undef=(ev s[i])[j]:=by simp[bc,UB]
   refine⟨by rw[e8];exact qU s[i] _ (eA UB),?_⟩;exact(s[i].2.2.2 j hj).frame (agree n os s.toArray) λ_ h=>h
end
end
end Go.Cat
