/- The logic that the walks are in, piece P5. No condition. -/
import Derived.Test.YtdcgbodbejgliaaGreatDoorXTopThereAndBackCatP4
import Derived.Laws.Strings
import Derived.Sort.Grow
import Derived.Deep.Draws
import Derived.Shelf.GgSortFunc.InsertionK
import Derived.Shelf.SlSortCmp.NoneTotal
import Derived.Scope
open Option renaming some->V
open Array renaming getElem?_modify->p0
open BitVec renaming ofInt->j0
open ByteArray renaming mk->j1,size->ZP
open Go.Sort renaming ahead->Gz
open List renaming length_map->au,map->cK,replicate->ia,map_take->RW
namespace Go.Cat
set_option linter.all false
section
open Go.RowKit
variable[M:cD][G:ed][R:eF]
abbrev vu(b:UInt8):AV:=.v (.int .u8 (b.toNat:Int))
abbrev vs(l:List UInt8):AV:=.v (.string ⟨l.toArray⟩)
def dV(b:UInt8):List AV:=[vu b]
def cB(b:Bool):List AV:=[vb b]
def fg(l:List UInt8):List AV:=[vs l]
def dS{ρ:Type}{X Y:Option ρ}{r:ρ}(h:(if true=true then X else Y)=V r):X=V r:=by simpa using h
def dE{ρ:Type}{X Y:Option ρ}{r:ρ}(h:(if false=true then X else Y)=V r):Y=V r:=by simpa using h
def aT{σ ρ:Type}{x:Option ρ}{y:σ⊕ρ}{r:ρ}(h:out x=V y)(hx:∀r',y=.inr r'->r'=r):x=V r:=by
 obtain⟨r',h1,h2⟩:=Wp h;rw[h1,hx r' h2]
section
variable{α:Type}{f:α->List AV}{l:List α}
def aP{i:Int}{x:α}(h:idx l i=V x):(cK f l)[i.toNat]?=V (f x):=by rw[List.getElem?_map,Ba h];rfl
def ll{i:Int}{x:α}(h:idx l i=V x):i.toNat<(cK f l).length:=by rw[au];exact adX h
def zq{n:Nat}{x:α}:(cK f l).set n (f x)=cK f (l.set n x):=List.map_set.symm
def oc{K:Nat}(h:∀x,(f x).length=K)(l:List α):∀i,i<(cK f l).length->((cK f l).getD i []).length=K:=λi hi=>by
 rw[au]at hi;simp[List.getD,hi,h]
def c8{l':List α}{b:Nat}(h:(l.length+l'.length)*b<=140737488355328):((cK f l).length+(cK f l').length)*b<=140737488355328:=by rwa [au,au]
def gJ{i:Int}(h:0<=i):i=(i.toNat:Int):=by omega
def pU{i:Int}(h:0<=i/\i<=(l.length:Int)):i.toNat<=(cK f l).length:=by rw[au];omega
def JZ{i:Int}(h:0<=i/\i<=(l.length:Int)):i.toNat<=(cK f l).length:=pU h
def zt{a b n:Int}(h:0<=a/\a<=b/\b<=n):0<=b:=by omega
def P1{a b n:Int}(h:0<=a/\a<=b/\b<=n):a.toNat<=b.toNat:=by omega
def P2{a b:Int}(h:0<=a/\a<=b/\b<=(l.length:Int)):b.toNat<=(cK f l).length:=by rw[au];omega
def zu(f:α->List AV)(l:List α)(n:Nat):((cK f l).take n).drop 0=cK f (l.take n):=by simp[RW]
def FK(f:α->List AV)(l:List α)(n:Nat):((cK f l).take (cK f l).length).drop n=cK f (l.drop n):=by rw[List.take_length,List.map_drop]
def Yh(f:α->List AV)(l:List α)(a b:Int):((cK f l).take b.toNat).drop a.toNat=cK f (sub l a b):=by rw[sub,List.map_drop,RW]
def v_{n:Int}{b:Nat}(h:0<=n/\n.toNat*b<=140737488355328):n=(n.toNat:Int):=by omega
def mk_le{n:Int}{b:Nat}(hb:0<b)(h:0<=n/\n.toNat*b<=140737488355328):n.toNat<=140737488355328:=Nat.le_trans (Nat.le_mul_of_pos_right _ hb) h.2
end
def ZB(n:Int):IntKind.u8.wrap n=n % 256:=by rw[IntKind.wrap_u8]
def YM(n:Int):IntKind.u8.wrap n=((nt n).toNat:Int):=by rw[ZB,YL]
def ZC(b:UInt8):IntKind.u8.wrap (b.toNat:Int)=(b.toNat:Int):=by
 have:=b.toNat_lt;rw[ZB];omega
def GU(c:UInt8):j0 IntKind.u8.bits (c.toNat:Int)=c.toBitVec:=by
 show j0 8 (c.toNat:Int)=c.toBitVec;rw[BitVec.ofInt_natCast];apply BitVec.eq_of_toNat_eq;rw[BitVec.toNat_ofNat];exact Nat.mod_eq_of_lt c.toNat_lt
def aaC(a b:UInt8):IntKind.u8.wrap ((j0 IntKind.u8.bits (a.toNat:Int) &&& j0 IntKind.u8.bits (b.toNat:Int)).toNat:Int)=((a &&& b).toNat:Int):=by
 rw[GU,GU];exact ZC (a &&& b)
def aaD(a b:UInt8):IntKind.u8.wrap ((j0 IntKind.u8.bits (a.toNat:Int) ||| j0 IntKind.u8.bits (b.toNat:Int)).toNat:Int)=((a ||| b).toNat:Int):=by
 rw[GU,GU];exact ZC (a ||| b)
def ajZ{k:IntKind}(hk:(match k with|.i64|.u64|.i32|.u32|.i16|.u16=>true|_=>false)=true)(b:UInt8):k.wrap (b.toNat:Int)=(b.toNat:Int):=by
 have:=b.toNat_lt
 cases k<;>first|(cases hk;done)|exact IntWalk.i64_in _ (by omega)|exact IntWalk.u64_in _ (by omega)|exact IntWalk.i32_in _ (by omega)|exact IntWalk.u32_in _ (by omega)|exact IntWalk.i16_in _ (by omega)|exact IntWalk.u16_in _ (by omega)
def kp(l:List UInt8):(j1 l.toArray).size=l.length:=by simp[ZP]
def toList_mk(l:List UInt8):(j1 l.toArray).toList=l:=by
 rw[ByteArray.toList_eq]
def oh(a b:List UInt8):((j1 a.toArray).toList==(j1 b.toArray).toList)=(a==b):=by rw[toList_mk,toList_mk]
def FU(a b:List UInt8):(!((j1 a.toArray).toList==(j1 b.toArray).toList))=(!(a==b)):=by rw[toList_mk,toList_mk]
def ahq(a b:List UInt8):(!(Op.bytesLess (j1 a.toArray).toList (j1 b.toArray).toList||(j1 a.toArray).toList==(j1 b.toArray).toList))=(!(Op.bytesLess a b||a==b)):=by rw[toList_mk,toList_mk]
def Qq{a b:List UInt8}(h:a.length+b.length<=9223372036854775807):(j1 a.toArray).size+(j1 b.toArray).size<=9223372036854775807:=by rw[kp,kp];exact h
def Qr(a b:List UInt8):(j1 a.toArray)++(j1 b.toArray)=j1 (a++b).toArray:=by
 apply ByteArray.ext;simp
def ahs{l:List UInt8}(h:l.length<=140737488355328):(j1 l.toArray).size<=maxLen:=by rw[kp];unfold maxLen;omega
def B3{l:List UInt8}{a b:Int}(h:0<=a/\a<=b/\b<=(l.length:Int)):a.toNat<=b.toNat:=by omega
def B4{l:List UInt8}{a b:Int}(h:0<=a/\a<=b/\b<=(l.length:Int)):b.toNat<=(j1 l.toArray).size:=by rw[kp];omega
abbrev akg(n:Int):AV:=.v (.int .i32 n)
abbrev akh(n:Int):AV:=.v (.int .u16 n)
abbrev aki(n:Int):AV:=.v (.int .u32 n)
abbrev akj(n:Int):AV:=.v (.int .u64 n)
section
variable{α:Type}{f:α->AV}{l l0:List α}{i:Int}{x v:α}{n:Nat}
def Fz.arr{H:Hp}(hf:∀n,fx (f n)=true):Fz H (.a (cK f l)) (.a (cK f l)):=Fz.cP (by simp[kH,hf])
def Tn(hf:∀n d,er 1 d (f n)=f n)(d:Nat)(l:List α):cK (er 1 d) (cK f l)=cK f l:=by
 rw[List.map_map];exact List.map_congr_left λn _=>hf n d
def iQ.Sr(hf:∀n d,er 1 d (f n)=f n){d:Nat}:iQ (pC d (.box (cK f l))) (.box (cK f l)):=by
 have:pC d (.box (cK f l))=.box (cK f l):=congrArg Chunk.box (Tn hf d l);rw[this];exact .refl _
def iQ.Ss(hf:∀n d,er 1 d (f n)=f n){d e:Nat}:iQ (pC e (pC d (.box (cK f l)))) (.box (cK f l)):=by
 have:pC d (.box (cK f l))=.box (cK f l):=congrArg Chunk.box (Tn hf d l);rw[this];exact .Sr hf
end
def Tt{id:Nat}{c:Chunk}:∀{H:Hp}{c0:Chunk},dP id H=V c0->dP id (fQ id c H)=V c
 |[],_,h=>by cases h
 |(i,d)::r,c0,h=>by
  simp only[dP]at h;cases hb:Nat.beq i id with
  |true=>simp only[fQ,hb,cond_true,dP]
  |false=>rw[hb]at h;simp only[fQ,hb,cond_false,dP];exact Tt h
def PU{id:Nat}{c d:Chunk}:∀{H:Hp},fQ id d (fQ id c H)=fQ id d H
 |[]=>rfl
 |(i,e)::r=>by
  cases hb:Nat.beq i id with
  |true=>simp only[fQ,hb,cond_true,PU]
  |false=>simp only[fQ,hb,cond_false,PU]
def Ω.fj{P:Program}{g:FuncId}{id:Nat}{xs ys:List AV}{st:ak}{c0 c:Chunk}{R:AV->Chunk->Prop}{k:AV->ak->Prop}(h:mO P g ys c R)(hc:dP id st.H=V c0)(hl:iQ c0 c)(iv:Ae c=true)(hle:xk id xs ys)
  (hk:∀r c',R r c'->k r ⟨st.f,fQ id c' st.H⟩):Ω P g xs st k:=by
 have h1:=Ω.chg (st:=⟨st.f,fQ id c st.H⟩) (k:=λr ax=>∃c',R r c'/\ax=⟨st.f,fQ id c' (fQ id c st.H)⟩) h (Tt hc) iv hle (λr c' hr=>⟨c',hr,rfl⟩);have lS:=fk hc;refine⟨h1.1,λw F β vs hI hs hv=>?_⟩
 have nK:Inv w F β (fQ id c st.H):=by
  refine⟨hI.cH,λi d hm=>?_,by rw[zp];exact hI.keys,λb ⟨i,d,hm,hb⟩=>?_,λi d i' d' b hm bN hb aN=>?_,hI.fC⟩
  .rcases nn hm with⟨rfl,rfl,_⟩|⟨_,h2⟩
   .exact hl.holds (hI.holds _ _ lS)
   .exact hI.holds i d h2
  .rcases nn hm with⟨rfl,_,d',h2⟩|⟨_,h2⟩<;>exact hI.apart b ⟨i,_,h2,hb⟩
  .have hx:∃c,(i,c)∈st.H:=by rcases nn hm with⟨_,_,c2,h2⟩|⟨_,h2⟩<;>exact⟨_,h2⟩
   have hy:∃c,(i',c)∈st.H:=by rcases nn bN with⟨_,_,c2,h2⟩|⟨_,h2⟩<;>exact⟨_,h2⟩
   obtain⟨c2,h2⟩:=hx;obtain⟨c3,h3⟩:=hy;exact hI.eD i c2 i' c3 b h2 h3 hb aN
 refine(h1.2 w F β vs nK hs hv).mono ?_;rintro e w' ⟨v,rfl,r,ax,F',ay,⟨c',hr,rfl⟩,fE,he⟩;have A5:fQ id c' (fQ id c st.H)=fQ id c' st.H:=PU;rw[A5]at he
 have dB:∀b,bH β (fQ id c st.H) b->bH β st.H b:=by
  rintro b ⟨i,d,hm,hb⟩
  rcases nn hm with⟨rfl,_,d',h2⟩|⟨_,h2⟩
  .exact⟨i,d',h2,hb⟩
  .exact⟨i,d,h2,hb⟩
 exact⟨v,rfl,r,_,F',ay,hk r c' hr,fE,he.os,he.tape,he.output,he.size,λb hb bu=>he.block b hb λho=>bu (dB b ho),he.mono,λb hb=>(he.new b hb).imp (λh=>h) λh=>h.imp (λh=>h) (dB b),λb hb=>(he.owned b hb).imp (λh=>h) (dB b),he.keep,he.inv,he.gC⟩
def aeX{l:List UInt8}{pos:Nat}{ρ:Type}{X Y:Option ρ}{r:ρ}{A B:Prop}(h:(if decide (pos<l.length)=true then X else Y)=V r)(y:X=V r->A)(n:Y=V r->B):
  (pos<(j1 l.toArray).size->A)/\(¬pos<(j1 l.toArray).size->B):=by
 rw[kp];exact⟨λhp=>y (by simpa [hp]using h),λhp=>n (by simpa [hp]using h)⟩
section
variable{P:Program}
def fb.VD{t:TypeId}{k:IntKind}{xs:List AV}(h:fb P t xs)(hu:P.underlying t=V (.int k)):∃n,xs=[.v (.int k n)]/\(Lit.int k n).wf=true:=by
 cases h with
 |int h hn=>rw[hu]at h;cases h;exact⟨_,rfl,hn⟩
 |bool h=>rw[hu]at h;cases h
 |str h=>rw[hu]at h;cases h
 |slice h=>rw[hu]at h;cases h
 |struct h=>rw[hu]at h;cases h
 |arr h=>rw[hu]at h;cases h
def fb.ahr{t:TypeId}{xs:List AV}(h:fb P t xs)(hu:P.underlying t=V .string):∃l:List UInt8,xs=[vs l]/\l.length<=maxLen:=by
 cases h with
 |str h hs =>
  rename_i s;obtain⟨⟨l⟩⟩:=s;exact⟨l,rfl,by simpa [ZP]using hs⟩
 |bool h=>rw[hu]at h;cases h
 |int h=>rw[hu]at h;cases h
 |slice h=>rw[hu]at h;cases h
 |struct h=>rw[hu]at h;cases h
 |arr h=>rw[hu]at h;cases h
def fb.Yi{t e:TypeId}{xs:List AV}(h:fb P t xs)(hu:P.underlying t=V (.slice e)):∃rows,xs=[.s rows]/\rows.length<=maxLen/\∀r,r∈rows->fb P e r:=by
 cases h with
 |slice h hl hk hr=>rw[hu]at h;cases h;exact⟨_,rfl,hl,hr⟩
 |bool h=>rw[hu]at h;cases h
 |int h=>rw[hu]at h;cases h
 |str h=>rw[hu]at h;cases h
 |struct h=>rw[hu]at h;cases h
 |arr h=>rw[hu]at h;cases h
def fb.ahu{t:TypeId}{fs:Array Field}{xs:List AV}(h:fb P t xs)(hu:P.underlying t=V (.struct fs)):mM P (fs.toList.map (·.type)) xs:=by
 cases h with
 |struct h hf=>rw[hu]at h;cases h;exact hf
 |arr h=>rw[hu]at h;cases h
 |bool h=>rw[hu]at h;cases h
 |int h=>rw[hu]at h;cases h
 |str h=>rw[hu]at h;cases h
 |slice h=>rw[hu]at h;cases h
def fb.fields{t:TypeId}{ts:List TypeId}{xs:List AV}(h:fb P t xs)(hu:(P.underlying t).map (λd=>match d with|.struct fs=>V (fs.toList.map (·.type))|_=>none)=V (V ts)):mM P ts xs:=by
 cases hd:P.underlying t with
 |none=>rw[hd]at hu;cases hu
 |some d =>
  rw[hd]at hu
  cases d<;>first|cases hu;done|skip
  rename_i fs;simp only[Option.map_some,Option.some.injEq]at hu;rw[<-hu];exact h.ahu hd
def mM.cons_inv{t:TypeId}{ts:List TypeId}{xs:List AV}(h:mM P (t::ts) xs):∃a b,xs=a++b/\fb P t a/\mM P ts b:=by
 cases h with
 |cons h hs=>exact⟨_,_,rfl,h,hs⟩
def mM.Oo{xs:List AV}(h:mM P [] xs):xs=[]:=by cases h;rfl
def oA.cons_inv{t:TypeId}{ts:List TypeId}{xs:List AV}(h:oA P (t::ts) xs):∃x ys,xs=x::ys/\qM P t x/\oA P ts ys:=by
 cases h with
 |cons h hs=>exact⟨_,_,rfl,h,hs⟩
def oA.Oo{xs:List AV}(h:oA P [] xs):xs=[]:=by cases h;rfl
def qM.one{t:TypeId}{x:AV}(h:qM P t x)(hu:(match P.underlying t with|some (.struct _)=>false|some (.array _ _)=>false|some _=>true|none=>false)=true):fb P t [x]:=by
 unfold qM at h;cases hd:P.underlying t with
 |none=>rw[hd]at hu;cases hu
 |some d =>
  rw[hd]at hu h
  cases d<;>first|(cases hu;done)|exact h
def qM.agg{t:TypeId}{x:AV}(h:qM P t x)(hu:(match P.underlying t with|some (.struct _)=>true|some (.array _ _)=>true|_=>false)=true):∃cs,x=.a cs/\fb P t cs:=by
 unfold qM at h;cases hd:P.underlying t with
 |none=>rw[hd]at hu;cases hu
 |some d =>
  rw[hd]at hu h
  cases d<;>first|(cases hu;done)|exact h
def Pz{α:Type}{c:α->List AV}{ok:α->Prop}:∀{rows:List (List AV)},(∀r,r∈rows->∃x,r=c x/\ok x)->∃l:List α,rows=cK c l/\∀x,x∈l->ok x
 |[],_=>⟨[],rfl,λx hx=>by cases hx⟩
 |r::rs,h=>by
  obtain⟨x,rfl,hx⟩:=h r (by simp);obtain⟨l,rfl,hl⟩:=Pz (rows:=rs) λr hr=>h r (by simp[hr]);exact⟨x::l,rfl,λy hy=>(List.mem_cons.1 hy).elim (λe=>e▸hx) (hl y)⟩
def wf_i64{n:Int}(h:(Lit.int .i64 n).wf=true):ae n:=by
 have:IntKind.i64.min<=n/\n<=IntKind.i64.max:=by simpa [Lit.wf]using h
 exact this
def wf_u8{n:Int}(h:(Lit.int .u8 n).wf=true):n=((nt n).toNat:Int):=by
 have h0:IntKind.u8.min<=n/\n<=IntKind.u8.max:=by simpa [Lit.wf]using h
 have h1:(0:Int)<=n/\n<=255:=h0;rw[YL];omega
end
end
section
open Go.Sort
def Below.acq{w w':World}(h:@Below cD.yes w.heap.size w w'):∃q IP,w'=grow (w.drewN q) IP:=by
 refine⟨w'.drawn-w.drawn,w'.heap.extract w.heap.size w'.heap.size,?_⟩;unfold World.drewN;obtain⟨HK,ak2,S5,IP,akZ⟩:=w';have h1:=@Below.os cD.yes _ _ _ h;have h2:=(@Below.tape cD.yes _ _ _ h).1;have h3:=(@Below.tape cD.yes _ _ _ h).2 trivial;have h4:=@Below.output cD.yes _ _ _ h;have h5:=@Below.size cD.yes _ _ _ h;have h6:=@Below.block cD.yes _ _ _ h;dsimp only at h1 h2 h3 h4 h5 h6;subst h1 h2 h4;unfold grow
 have e1:w.drawn+(S5-w.drawn)=S5:=by omega
 have e2:HK=w.heap++HK.extract w.heap.size HK.size:=by
  apply Array.ext_getElem?;intro i;by_cases hi:i<w.heap.size
  .rw[Array.getElem?_append_left hi];exact h6 i hi
  .rw[Array.getElem?_append_right (by omega),Array.getElem?_extract];by_cases br:i<HK.size
   .rw[if_pos (by omega)];congr 1;omega
   .rw[if_neg (by omega),Array.getElem?_eq_none (by omega)]
 dsimp only;rw[e1,<-e2]
end
section
open Go.RowKit Go.Sort Go.Proofs
variable[M:cD][G:ed][R:eF]
section
variable{P:Program}
def GL(P:Program)(f:Nat)(k:Nat):Prop:=
 (∀(p:Option Addr)(cap:Nat)(fv:Value)(w:World),Calls P f #[.slice p 0 cap,fv] w λe w'=>e=.returned (.tuple #[])/\w'=w) /\
 ∀(α:Type)[Inhabited α](enc:α->List Value),(∀x,(enc x).length=k)->(∀x,∀v∈enc x,v.oneCell'=true)->∀(cf:α->α->Int),SWO (λx y=>decide (cf x y<0)) ->
  ∀(g:Nat)(cb:Array Value)(fV off cap:Nat)(d:Array α)(w:World),(∀args w,(callFunc g args).run P w=.ok (.enter g args) w) ->
  (∀(m:Nat)(os:Array Obj)(dk:Array α),dk.size=d.size->∀x y:α,
   Calls P g (#[.agg (enc x).toArray,.agg (enc y).toArray]++cb) (sortWorldK enc k w fV off m dk os) λe w'=>e=.returned (.int .i64 (cf x y))/\∃q IP,w'=grow ((sortWorldK enc k w fV off m dk os).drewN q) IP) ->
  HoldsK enc k w fV off d->fV<w.heap.size->d.size<4611686018427387904 ->
  Calls P f #[.slice (V ⟨fV,off,none⟩) d.size cap,.func (.func g) #[] cb] w λe w' =>
   e=.returned (.tuple #[])/\∃n os,w'=sortWorldK enc k w fV off n (pdq (λx y=>decide (cf x y<0)) d 0 d.size (Lib.bitLen d.size) true true) os
def Ss{vs:Array Value}(h:vs.size=2):vs=#[vs.getD 0 undef,vs.getD 1 undef]:=by
 apply Array.ext
 .simpa using h
 .intro i h1 h2
  match i,h1 with
  |0,h1=>simp[Array.getD,h1]
  |1,h1=>simp[Array.getD,h1]
  |n+2,h1=>exact absurd h1 (by omega)
def acU{α:Type}[Inhabited α]{enc:α->List Value}{k:Nat}{w:World}{b off n:Nat}{d:Array α}{os:Array Obj}{cur:Array Value}{E:Nat}{fr:Nat×Nat}
  (h:w.heap[b]?=V (.cells cur E fr)):(sortWorldK enc k w b off n d os).heap[b]?=V (.cells (putCells id off (flatK enc k d) cur) E fr):=by
 have Ξ:b<w.heap.size:=(Array.getElem?_eq_some_iff.1 h).1;unfold sortWorldK;rw[heap_grow_old _ _ (by simpa [putRowK,putRow,mapBlock,Gz]using Ξ)];simp[putRowK,putRow,mapBlock,Gz,p0,h,onCells]
def Uo{α:Type}[Inhabited α]{enc:α->List Value}{k:Nat}{w:World}{b off n:Nat}{d:Array α}{os:Array Obj}{c:Nat}(hc:c≠b)(hl:c<w.heap.size):
  (sortWorldK enc k w b off n d os).heap[c]?=w.heap[c]?:=by
 unfold sortWorldK;rw[heap_grow_old _ _ (by simpa [putRowK,putRow,mapBlock,Gz]using hl)];simp[putRowK,putRow,mapBlock,Gz,p0,Ne.symm hc]
def Yg{α:Type}[Inhabited α]{enc:α->List Value}{k:Nat}{w:World}{b off n:Nat}{d:Array α}{os:Array Obj}:w.heap.size<=(sortWorldK enc k w b off n d os).heap.size:=by
 unfold sortWorldK;simp[grow,putRowK,putRow,mapBlock,Gz]
end
end
section
open Go.RowKit Go.Sort Go.Proofs Go.Shelf
variable[M:cD][G:ed][R:eF]
def Yp{P:Program}{ρ:Ren}{k:Nat}(L:SlLaysF0.n6 P ρ)(aE:∀w,(isAgg (ρ.t 24)).run P w=.ok true w)(zE:∀w,(Go.sizeOf (ρ.t 24)).run P w=.ok k w):GL P (ρ.f 6) k:=
 ⟨λp cap fv w=>AnyF.slices_SortFunc_none L p cap fv w,λ_ _ enc hk h1 cf hO g cb fV off cap d w eg MF hH hblk bd =>
  AnyQ.slices_SortFunc_eq L k aE zE enc hk h1 cf hO g cb fV off cap d w eg MF hH hblk bd⟩
end
section
open Go.RowKit
variable[M:cD][G:ed][R:eF]
section
variable{P:Program}
def Le.z:Le .z (.s []):=λ_ _ _ _ h=>by obtain⟨a,rfl⟩:=h.zK;exact .i .s0
def Le.Δ{x:AV}:Le x .Δ:=λ_ _ _ _ _=>.Δ
def Fz.z{H:Hp}:Fz H .z (.s []):=λ_ _ _ _ _ hr=>by obtain⟨a,rfl⟩:=hr.zK;exact .s0
def SH{α:Type}{f:α->List AV}{z:α}(l:List α)(d:Nat):(l.map f).take d++ia ((l.map f).length-d) (f z)=(l.take d++ia (l.length-d) z).map f:=by
 rw[List.map_append,List.map_replicate,RW,au]
def ajU{F:Fence}{m:Nat}{c:Code}{Q:Exit->Act->World->Prop}{a:Act}{w:World}(h:c.wpIn F m P (Exit.noGoto Q) a w):(Code.scope c).wpIn F m P Q a w:=by
 intro b k cs DW hb hr;have h0:(lone (b.atR a (.code (.scope c)::k)) cs w).fenced P F:=fenced_calm hb hr rfl;have s0:Go.step P (lone (b.atR a (.code (.scope c)::k)) cs w)=.next (lone (b.atR a (.code c::.inScope c::k)) cs w):=step_lone_go (by simp[stepG,stepG.exec,Frame.atR]);obtain⟨e,CP,Gj,hq,vA⟩:=h b (.inScope c::k) cs DW hb hr;cases e with
 |normal=>exact⟨.normal,CP,Gj,hq,.head h0 s0 (StepsIn.trans vA (.one (fenced_calm hb hr rfl) (step_lone_go (by simp[stepG,stepG.exec,Frame.atR]))))⟩
 |exit id =>
  have hx:exitTo id (.inScope c::k)=exitTo id k:=by simp[exitTo]
  exact⟨.exit id,CP,Gj,hq,λk' hk=>.head h0 s0 (vA.1 k' (by rw[hx];exact hk)),λcr hk=>let⟨k₁,h1,h2⟩:=vA.2 cr (by rw[hx];exact hk);⟨k₁,h1,.head h0 s0 h2⟩⟩
 |goto l=>exact hq.elim
 |ret=>exact⟨_,CP,Gj,hq,.of_steps (.one h0 s0) vA⟩
 |panic ch=>exact⟨_,CP,Gj,hq,.of_steps (.one h0 s0) vA⟩
 |outgrown=>exact⟨_,CP,Gj,hq,.of_steps (.one h0 s0) vA⟩
def ng(Q:Exit->ak->Prop):Exit->ak->Prop:=λe s=>match e with
 |.goto _=>False
 |e=>Q e s
def Ok.scope{n:Nat}{c:Code}{st:ak}{Q:Exit->ak->Prop}(h:Ok P n c st (ng Q)):Ok P n (.scope c) st Q:=⟨λC hn a w hr=>by
 refine ajU (wpIn_mono (h.h C hn a w hr) ?_);rintro e a' w' ⟨ax,cr,hq⟩;cases e with
 |goto l=>exact hq.elim
 |_=>exact⟨ax,cr,hq⟩⟩
end
section
variable{P:Program}
end
end
section
def TM{α:Type}{l:List α}{n:Nat}{x:α}(h:l[n]?=V x):n<l.length/\x∈l:=⟨(List.getElem?_eq_some_iff.1 h).1,List.mem_of_getElem? h⟩
def Iz{α:Type}{l:List α}{x:α}(h:x∈l):∃n:Nat,l[n]?=V x:=List.mem_iff_getElem?.1 h
def ε.found{ρ:Type}{n:Nat}{b:Bool}{R:Prop}{Q:ρ->Prop}{x:Option ρ}(hn:n<1000000000000)(hb:b=true↔R)(hx:R->ε x Q):
  ε (if b=true then Cat.out x else Cat.χ (ae ((n:Int)+1)) (V (.inl ((n:Int)+1)))) (λy=>(R/\∃r,y=.inr r/\Q r)\/(¬R/\y=.inl ((n:Int)+1))):=
 ε.ite (λh=>by obtain⟨r,rfl,hq⟩:=hx (hb.1 h);exact⟨_,rfl,.inl ⟨hb.1 h,r,rfl,hq⟩⟩) (λh=>ε.χ (by unfold ae;omega) ⟨_,rfl,.inr ⟨λhr=>h (hb.2 hr),rfl⟩⟩)
def ε.done{σ ρ:Type}{Q:ρ->Prop}{x:Option ρ}(hx:ε x Q):ε (Cat.out (σ:=σ) x) (λy=>∃r,y=.inr r/\Q r):=by
 obtain⟨r,rfl,hq⟩:=hx;exact⟨_,rfl,r,rfl,hq⟩
def ε.cond{α:Type}{p:Prop}[Decidable p]{x y:Option α}{Q:α->Prop}(hp:p)(h:ε x Q):ε (if p then x else y) Q:=by rw[if_pos hp];exact h
def ε.aV{α:Type}{p:Prop}[Decidable p]{x y:Option α}{Q:α->Prop}(hp:¬p)(h:ε y Q):ε (if p then x else y) Q:=by rw[if_neg hp];exact h
def cF.ex{α:Type}{l:List α}{R:α->Prop}{x:α}(hx:x∈l)(h:R x):cF (∃s,s∈l/\R s) true:=⟨λ_=>⟨x,hx,h⟩,λ_=>rfl⟩
def cF.yes{P:Prop}(h:P):cF P true:=⟨λ_=>h,λ_=>rfl⟩
def cF.no{P:Prop}(h:¬P):cF P false:=⟨λe=>(by cases e),λp=>(h p).elim⟩
def cF.not{P:Prop}{b:Bool}(h:cF P b):cF (¬P) (!b):=by
 unfold cF at *;cases b<;>simp_all
def cF.eq{P Q:Prop}{a b:Bool}(h:cF P a)(h':cF Q b)(e:P↔Q):a=b:=by
 unfold cF at *;cases a<;>cases b<;>simp_all
def cF.beq{P Q:Prop}{a b:Bool}(h:cF P a)(h':cF Q b):cF (P↔Q) (a==b):=by
 unfold cF at *;cases a<;>cases b<;>simp_all
def cF.dec{P:Prop}[Decidable P]:cF P (decide P):=decide_eq_true_iff
end
end Go.Cat
