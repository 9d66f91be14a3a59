/- The logic that the walks are in, piece P5. No condition. -/
import Derived.Test.YtdcgbodbejgliaaGreatDoorXTopPacksCatP4
import Derived.Laws.Strings
import Derived.Sort.Grow
import Derived.Deep.Draws
import Derived.Shelf.GgSortFunc.InsertionK
import Derived.Shelf.SlSortCmp.NoneTotal
import Derived.Scope
open Array renaming getElem?_modify → pY
open BitVec renaming ofInt → eH
open ByteArray renaming mk → lS, size → ZN
open Go.Sort renaming ahead → Ha
open List renaming length_map → ax, map → aT, getElem_mem → ek, not_mem_nil → eJ, replicate → il
namespace Go.Cat
set_option linter.all false
section
open Go.RowKit
variable [M:cM] [G:dX] [R:eE]
abbrev vu (b:UInt8):AV:=.v (.int .u8 (b.toNat:Int))
abbrev vs (l:List UInt8):AV:=.v (.string ⟨l.toArray⟩)
def dD (b:UInt8):List AV:=[vu b]
def cB (b:Bool):List AV:=[vb b]
def kL (l:List UInt8):List AV:=[vs l]
def ald (n:Int):List AV:=[.v (.int .u16 n)]
def ale (n:Int):List AV:=[.v (.int .u32 n)]
def alf (n:Int):List AV:=[.v (.int .u64 n)]
def ee {ρ:Type} {X Y:Option ρ} {r:ρ} (h:(if true=true then X else Y)=some r):X=some r:=by simpa using h
def cL {ρ:Type} {X Y:Option ρ} {r:ρ} (h:(if false=true then X else Y)=some r):Y=some r:=by simpa using h
def bd {σ ρ:Type} {x:Option ρ} {y:σ⊕ρ} {r:ρ} (h:out x=some y) (hx:∀r',y=.inr r'→r'=r):x=some r:=by
 obtain ⟨r',h1,h2⟩:=Wq h;rw [h1,hx r' h2]
section
variable {α:Type} {f:α→List AV} {l:List α}
def br {i:Int} {x:α} (h:idx l i=some x):(aT f l)[i.toNat]?=some (f x):=by rw [List.getElem?_map,VG h];rfl
def wX {i:Int} {x:α} (h:idx l i=some x):i.toNat<(aT f l).length:=by rw [ax];exact adX h
def FL {n:Nat} {x:α}:(aT f l).set n (f x)=aT f (l.set n x):=List.map_set.symm
def xg {K:Nat} (h:∀x,(f x).length=K) (l:List α):∀i,i<(aT f l).length→((aT f l).getD i []).length=K:=fun i hi=>by
 rw [ax] at hi;simp [List.getD,hi,h]
def aaD {l':List α} {b:Nat} (h:l'.length*b≤140737488355328):(aT f l').length*b≤140737488355328:=by rwa [ax]
def gQ {l':List α} {b:Nat} (h:(l.length+l'.length)*b≤140737488355328):((aT f l).length+(aT f l').length)*b≤140737488355328:=by rwa [ax,ax]
def lq {i:Int} (h:0≤i):i=(i.toNat:Int):=by omega
def xk {i:Int} (h:0≤i∧i≤(l.length:Int)):i.toNat≤(aT f l).length:=by rw [ax];omega
def FX {i:Int} (h:0≤i∧i≤(l.length:Int)):i.toNat≤(aT f l).length:=xk h
def P1 {a b n:Int} (h:0≤a∧a≤b∧b≤n):0≤b:=by omega
def ahJ {a b n:Int} (h:0≤a∧a≤b∧b≤n):a.toNat≤b.toNat:=by omega
def ahK {a b:Int} (h:0≤a∧a≤b∧b≤(l.length:Int)):b.toNat≤(aT f l).length:=by rw [ax];omega
def Kq (f:α→List AV) (l:List α) (n:Nat):((aT f l).take n).drop 0=aT f (l.take n):=by simp [List.map_take]
def PZ (f:α→List AV) (l:List α) (n:Nat):((aT f l).take (aT f l).length).drop n=aT f (l.drop n):=by rw [List.take_length,List.map_drop]
def Wa {n:Int} {b:Nat} (h:0≤n∧n.toNat*b≤140737488355328):n=(n.toNat:Int):=by omega
def mk_le {n:Int} {b:Nat} (hb:0<b) (h:0≤n∧n.toNat*b≤140737488355328):n.toNat≤140737488355328:=Nat.le_trans (Nat.le_mul_of_pos_right _ hb) h.2
end
def Zu (n:Int):IntKind.u8.wrap n=n % 256:=by rw [IntKind.wrap_u8]
def YD (n:Int):IntKind.u8.wrap n=((lx n).toNat:Int):=by rw [Zu,YC]
def Zv (b:UInt8):IntKind.u8.wrap (b.toNat:Int)=(b.toNat:Int):=by
 have:=b.toNat_lt;rw [Zu];omega
def Hw (c:UInt8):eH IntKind.u8.bits (c.toNat:Int)=c.toBitVec:=by
 show eH 8 (c.toNat:Int)=c.toBitVec;rw [BitVec.ofInt_natCast];apply BitVec.eq_of_toNat_eq;rw [BitVec.toNat_ofNat];exact Nat.mod_eq_of_lt c.toNat_lt
def aaJ (a b:UInt8):IntKind.u8.wrap ((eH IntKind.u8.bits (a.toNat:Int) &&& eH IntKind.u8.bits (b.toNat:Int)).toNat:Int)=((a &&& b).toNat:Int):=by
 rw [Hw,Hw];exact Zv (a &&& b)
def aaK (a b:UInt8):IntKind.u8.wrap ((eH IntKind.u8.bits (a.toNat:Int) ||| eH IntKind.u8.bits (b.toNat:Int)).toNat:Int)=((a ||| b).toNat:Int):=by
 rw [Hw,Hw];exact Zv (a ||| b)
def akR {k:IntKind} (hk:(match k with|.i64|.u64|.i32|.u32|.i16|.u16=>true|_=>false)=true) (b:UInt8):k.wrap (b.toNat:Int)=(b.toNat:Int):=by
 have:=b.toNat_lt
 cases k<;>first|(cases hk;done)|exact IntWalk.i64_in _ (by omega)|exact IntWalk.u64_in _ (by omega)|exact IntWalk.i32_in _ (by omega)|exact IntWalk.u32_in _ (by omega)|exact IntWalk.i16_in _ (by omega)|exact IntWalk.u16_in _ (by omega)
def oT (l:List UInt8):(lS l.toArray).size=l.length:=by simp [ZN]
def toList_mk (l:List UInt8):(lS l.toArray).toList=l:=by
 rw [ByteArray.toList_eq]
def tT (a b:List UInt8):((lS a.toArray).toList==(lS b.toArray).toList)=(a==b):=by rw [toList_mk,toList_mk]
def KP (a b:List UInt8):(!((lS a.toArray).toList==(lS b.toArray).toList))=(!(a==b)):=by rw [toList_mk,toList_mk]
def air {a b:List UInt8} (h:a.length+b.length≤9223372036854775807):(lS a.toArray).size+(lS b.toArray).size≤9223372036854775807:=by rw [oT,oT];exact h
def ais (a b:List UInt8):(lS a.toArray)++(lS b.toArray)=lS (a++b).toArray:=by
 apply ByteArray.ext;simp
def Ys {l:List UInt8} (h:l.length≤140737488355328):(lS l.toArray).size≤maxLen:=by rw [oT];unfold maxLen;omega
def KQ {l:List UInt8} {a b:Int} (h:0≤a∧a≤b∧b≤(l.length:Int)):a.toNat≤b.toNat:=by omega
def KR {l:List UInt8} {a b:Int} (h:0≤a∧a≤b∧b≤(l.length:Int)):b.toNat≤(lS l.toArray).size:=by rw [oT];omega
abbrev ak7 (n:Int):AV:=.v (.int .i32 n)
abbrev ak8 (n:Int):AV:=.v (.int .u16 n)
abbrev ak9 (n:Int):AV:=.v (.int .u32 n)
abbrev ak_ (n:Int):AV:=.v (.int .u64 n)
section
variable {α:Type} {f:α→AV} {l l0:List α} {i:Int} {x v:α} {n:Nat}
def Fz.arr {H:Hp} (hf:∀n,fu (f n)=true):Fz H (.a (aT f l)) (.a (aT f l)):=Fz.dL (by simp [kg,hf])
def Tj (hf:∀n d,er 1 d (f n)=f n) (d:Nat) (l:List α):aT (er 1 d) (aT f l)=aT f l:=by
 rw [List.map_map];exact List.map_congr_left fun n _=>hf n d
def iy.Sp (hf:∀n d,er 1 d (f n)=f n) {d:Nat}:iy (ph d (.box (aT f l))) (.box (aT f l)):=by
 have:ph d (.box (aT f l))=.box (aT f l):=congrArg Chunk.box (Tj hf d l);rw [this];exact .refl _
def iy.Sq (hf:∀n d,er 1 d (f n)=f n) {d e:Nat}:iy (ph e (ph d (.box (aT f l)))) (.box (aT f l)):=by
 have:ph d (.box (aT f l))=.box (aT f l):=congrArg Chunk.box (Tj hf d l);rw [this];exact .Sp hf
end
def Tq {id:Nat} {c:Chunk}:∀{H:Hp} {c0:Chunk},dO id H=some c0→dO id (fK id c H)=some c
 |[],_,h=>by cases h
 |(i,d)::r,c0,h=>by
  simp only [dO] at h;cases hb:Nat.beq i id with
  |true=>simp only [fK,hb,cond_true,dO]
  |false=>rw [hb] at h;simp only [fK,hb,cond_false,dO];exact Tq h
def PR {id:Nat} {c d:Chunk}:∀{H:Hp},fK id d (fK id c H)=fK id d H
 |[]=>rfl
 |(i,e)::r=>by
  cases hb:Nat.beq i id with
  |true=>simp only [fK,hb,cond_true,PR]
  |false=>simp only [fK,hb,cond_false,PR]
def ae.dE {P:Program} {g:FuncId} {id:Nat} {xs ys:List AV} {st:ah} {c0 c:Chunk} {R:AV→Chunk→Prop} {k:AV→ah→Prop} (h:mz P g ys c R) (hc:dO id st.H=some c0) (hl:iy c0 c) (g_:AO c=true) (hle:xR id xs ys)
  (hk:∀r c',R r c'→k r ⟨st.f,fK id c' st.H⟩):ae P g xs st k:=by
 have h1:=ae.chg (st:=⟨st.f,fK id c st.H⟩) (k:=fun r au=>∃c',R r c'∧au=⟨st.f,fK id c' (fK id c st.H)⟩) h (Tq hc) g_ hle (fun r c' hr=>⟨c',hr,rfl⟩);have oF:=fc hc;refine ⟨h1.1,fun w F β vs hI hs hv=>?_⟩
 have kP:Inv w F β (fK id c st.H):=by
  refine ⟨hI.cA,fun i d hm=>?_,by rw [z_];exact hI.keys,fun b ⟨i,d,hm,hb⟩=>?_,fun i d i' d' b hm bQ hb aJ=>?_,hI.fh⟩
  ·rcases nf hm with ⟨rfl,rfl,_⟩|⟨_,h2⟩
   ·exact hl.holds (hI.holds _ _ oF)
   ·exact hI.holds i d h2
  ·rcases nf hm with ⟨rfl,_,d',h2⟩|⟨_,h2⟩<;>exact hI.apart b ⟨i,_,h2,hb⟩
  ·have hx:∃c,(i,c)∈st.H:=by rcases nf hm with ⟨_,_,c2,h2⟩|⟨_,h2⟩<;>exact ⟨_,h2⟩
   have hy:∃c,(i',c)∈st.H:=by rcases nf bQ with ⟨_,_,c2,h2⟩|⟨_,h2⟩<;>exact ⟨_,h2⟩
   obtain ⟨c2,h2⟩:=hx;obtain ⟨c3,h3⟩:=hy;exact hI.eo i c2 i' c3 b h2 h3 hb aJ
 refine (h1.2 w F β vs kP hs hv).mono ?_;rintro e w' ⟨v,rfl,r,au,F',av,⟨c',hr,rfl⟩,fy,he⟩;have BD:fK id c' (fK id c st.H)=fK id c' st.H:=PR;rw [BD] at he
 have db:∀b,bD β (fK id c st.H) b→bD β st.H b:=by
  rintro b ⟨i,d,hm,hb⟩
  rcases nf hm with ⟨rfl,_,d',h2⟩|⟨_,h2⟩
  ·exact ⟨i,d',h2,hb⟩
  ·exact ⟨i,d,h2,hb⟩
 exact ⟨v,rfl,r,_,F',av,hk r c' hr,fy,he.os,he.tape,he.output,he.size,fun b hb bw=>he.block b hb fun ho=>bw (db b ho),he.mono,fun b hb=>(he.new b hb).imp (fun h=>h) fun h=>h.imp (fun h=>h) (db b),fun b hb=>(he.owned b hb).imp (fun h=>h) (db b),he.keep,he.inv,he.gh⟩
def aeY {l:List UInt8} {pos:Nat} {ρ:Type} {X Y:Option ρ} {r:ρ} {A B:Prop} (h:(if decide (pos<l.length)=true then X else Y)=some r) (y:X=some r→A) (n:Y=some r→B) :
  (pos<(lS l.toArray).size→A)∧(¬pos<(lS l.toArray).size→B):=by
 rw [oT];exact ⟨fun hp=>y (by simpa [hp] using h),fun hp=>n (by simpa [hp] using h)⟩
section
variable {P:Program}
def eY.VO {t:TypeId} {k:IntKind} {xs:List AV} (h:eY P t xs) (hu:P.underlying t=some (.int k)):∃n,xs=[.v (.int k n)]∧(Lit.int k n).wf=true:=by
 cases h with
 |int h hn=>rw [hu] at h;cases h;exact ⟨_,rfl,hn⟩
 |bool h=>rw [hu] at h;cases h
 |str h=>rw [hu] at h;cases h
 |slice h=>rw [hu] at h;cases h
 |struct h=>rw [hu] at h;cases h
 |arr h=>rw [hu] at h;cases h
def eY.ait {t:TypeId} {xs:List AV} (h:eY P t xs) (hu:P.underlying t=some .string):∃l:List UInt8,xs=[vs l]∧l.length≤maxLen:=by
 cases h with
 |str h hs =>
  rename_i s;obtain ⟨⟨l⟩⟩:=s;exact ⟨l,rfl,by simpa [ZN] using hs⟩
 |bool h=>rw [hu] at h;cases h
 |int h=>rw [hu] at h;cases h
 |slice h=>rw [hu] at h;cases h
 |struct h=>rw [hu] at h;cases h
 |arr h=>rw [hu] at h;cases h
def eY.XZ {t e:TypeId} {xs:List AV} (h:eY P t xs) (hu:P.underlying t=some (.slice e)):∃rows,xs=[.s rows]∧rows.length≤maxLen∧∀r,r∈rows→eY P e r:=by
 cases h with
 |slice h hl hk hr=>rw [hu] at h;cases h;exact ⟨_,rfl,hl,hr⟩
 |bool h=>rw [hu] at h;cases h
 |int h=>rw [hu] at h;cases h
 |str h=>rw [hu] at h;cases h
 |struct h=>rw [hu] at h;cases h
 |arr h=>rw [hu] at h;cases h
def eY.aiv {t:TypeId} {fs:Array Field} {xs:List AV} (h:eY P t xs) (hu:P.underlying t=some (.struct fs)):my P (fs.toList.map (·.type)) xs:=by
 cases h with
 |struct h hf=>rw [hu] at h;cases h;exact hf
 |arr h=>rw [hu] at h;cases h
 |bool h=>rw [hu] at h;cases h
 |int h=>rw [hu] at h;cases h
 |str h=>rw [hu] at h;cases h
 |slice h=>rw [hu] at h;cases h
def eY.fields {t:TypeId} {ts:List TypeId} {xs:List AV} (h:eY P t xs) (hu:(P.underlying t).map (fun d=>match d with|.struct fs=>some (fs.toList.map (·.type))|_=>none)=some (some ts)):my P ts xs:=by
 cases hd:P.underlying t with
 |none=>rw [hd] at hu;cases hu
 |some d =>
  rw [hd] at hu
  cases d<;>first|cases hu;done|skip
  rename_i fs;simp only [Option.map_some,Option.some.injEq] at hu;rw [←hu];exact h.aiv hd
def my.cons_inv {t:TypeId} {ts:List TypeId} {xs:List AV} (h:my P (t::ts) xs):∃a b,xs=a++b∧eY P t a∧my P ts b:=by
 cases h with
 |cons h hs=>exact ⟨_,_,rfl,h,hs⟩
def my.O2 {xs:List AV} (h:my P [] xs):xs=[]:=by cases h;rfl
def oo.cons_inv {t:TypeId} {ts:List TypeId} {xs:List AV} (h:oo P (t::ts) xs):∃x ys,xs=x::ys∧qQ P t x∧oo P ts ys:=by
 cases h with
 |cons h hs=>exact ⟨_,_,rfl,h,hs⟩
def oo.O2 {xs:List AV} (h:oo P [] xs):xs=[]:=by cases h;rfl
def qQ.one {t:TypeId} {x:AV} (h:qQ P t x) (hu:(match P.underlying t with|some (.struct _)=>false|some (.array _ _)=>false|some _=>true|none=>false)=true):eY P t [x]:=by
 unfold qQ at h;cases hd:P.underlying t with
 |none=>rw [hd] at hu;cases hu
 |some d =>
  rw [hd] at hu h
  cases d<;>first|(cases hu;done)|exact h
def qQ.agg {t:TypeId} {x:AV} (h:qQ P t x) (hu:(match P.underlying t with|some (.struct _)=>true|some (.array _ _)=>true|_=>false)=true):∃cs,x=.a cs∧eY P t cs:=by
 unfold qQ at h;cases hd:P.underlying t with
 |none=>rw [hd] at hu;cases hu
 |some d =>
  rw [hd] at hu h
  cases d<;>first|(cases hu;done)|exact h
def Py {α:Type} {c:α→List AV} {ok:α→Prop}:∀{rows:List (List AV)},(∀r,r∈rows→∃x,r=c x∧ok x)→∃l:List α,rows=aT c l∧∀x,x∈l→ok x
 |[],_=>⟨[],rfl,fun x hx=>by cases hx⟩
 |r::rs,h=>by
  obtain ⟨x,rfl,hx⟩:=h r (by simp);obtain ⟨l,rfl,hl⟩:=Py (rows:=rs) fun r hr=>h r (by simp [hr]);exact ⟨x::l,rfl,fun y hy=>(List.mem_cons.1 hy).elim (fun e=>e▸hx) (hl y)⟩
def wf_i64 {n:Int} (h:(Lit.int .i64 n).wf=true):Ξ n:=by
 have:IntKind.i64.min≤n∧n≤IntKind.i64.max:=by simpa [Lit.wf] using h
 exact this
def wf_u8 {n:Int} (h:(Lit.int .u8 n).wf=true):n=((lx n).toNat:Int):=by
 have h0:IntKind.u8.min≤n∧n≤IntKind.u8.max:=by simpa [Lit.wf] using h
 have h1:(0:Int)≤n∧n≤255:=h0;rw [YC];omega
end
end
section
open Go.Sort
def Below.ab9 {w w':World} (h:@Below cM.yes w.heap.size w w'):∃q JE,w'=grow (w.drewN q) JE:=by
 refine ⟨w'.drawn-w.drawn,w'.heap.extract w.heap.size w'.heap.size,?_⟩;unfold World.drewN;obtain ⟨IC,alN,S7,JE,alI⟩:=w';have h1:=@Below.os cM.yes _ _ _ h;have h2:=(@Below.tape cM.yes _ _ _ h).1;have h3:=(@Below.tape cM.yes _ _ _ h).2 trivial;have h4:=@Below.output cM.yes _ _ _ h;have h5:=@Below.size cM.yes _ _ _ h;have h6:=@Below.block cM.yes _ _ _ h;dsimp only at h1 h2 h3 h4 h5 h6;subst h1 h2 h4;unfold grow
 have e1:w.drawn+(S7-w.drawn)=S7:=by omega
 have e2:IC=w.heap++IC.extract w.heap.size IC.size:=by
  apply Array.ext_getElem?;intro i;by_cases hi:i<w.heap.size
  ·rw [Array.getElem?_append_left hi];exact h6 i hi
  ·rw [Array.getElem?_append_right (by omega),Array.getElem?_extract];by_cases bm:i<IC.size
   ·rw [if_pos (by omega)];congr 1;omega
   ·rw [if_neg (by omega),Array.getElem?_eq_none (by omega)]
 dsimp only;rw [e1,←e2]
end
section
open Go.RowKit Go.Sort Go.Proofs
variable [M:cM] [G:dX] [R:eE]
section
variable {P:Program}
def alP:List AV→List Value:=aT fun a=>match a with|.v x=>x|_=>undef
def ak' (l:List AV):Bool:=l.all fun a=>match a with|.v x=>x.oneCell'|_=>false
def Hk (P:Program) (f:Nat) (k:Nat):Prop :=
 (∀(p:Option Addr) (cap:Nat) (fv:Value) (w:World),Calls P f #[.slice p 0 cap,fv] w fun e w'=>e=.returned (.tuple #[])∧w'=w) ∧
 ∀(α:Type) [Inhabited α] (enc:α→List Value),(∀x,(enc x).length=k)→(∀x,∀v∈enc x,v.oneCell'=true)→∀(cf:α→α→Int),SWO (fun x y=>decide (cf x y<0)) →
  ∀(g:Nat) (cb:Array Value) (eZ off cap:Nat) (d:Array α) (w:World),(∀args w,(callFunc g args).run P w=.ok (.enter g args) w) →
  (∀(m:Nat) (os:Array Obj) (dk:Array α),dk.size=d.size→∀x y:α,
   Calls P g (#[.agg (enc x).toArray,.agg (enc y).toArray]++cb) (sortWorldK enc k w eZ off m dk os) fun e w'=>e=.returned (.int .i64 (cf x y))∧∃q JE,w'=grow ((sortWorldK enc k w eZ off m dk os).drewN q) JE) →
  HoldsK enc k w eZ off d→eZ<w.heap.size→d.size<4611686018427387904 →
  Calls P f #[.slice (some ⟨eZ,off,none⟩) d.size cap,.func (.func g) #[] cb] w fun e w' =>
   e=.returned (.tuple #[])∧∃n os,w'=sortWorldK enc k w eZ off n (pdq (fun x y=>decide (cf x y<0)) d 0 d.size (Lib.bitLen d.size) true true) os
def Sq {vs:Array Value} (h:vs.size=2):vs=#[vs.getD 0 undef,vs.getD 1 undef]:=by
 apply Array.ext
 ·simpa using h
 ·intro i h1 h2
  match i,h1 with
  |0,h1=>simp [Array.getD,h1]
  |1,h1=>simp [Array.getD,h1]
  |n+2,h1=>exact absurd h1 (by omega)
def acI {α:Type} [Inhabited α] {enc:α→List Value} {k:Nat} {w:World} {b off n:Nat} {d:Array α} {os:Array Obj} {cur:Array Value} {E:Nat} {fr:Nat×Nat}
  (h:w.heap[b]?=some (.cells cur E fr)):(sortWorldK enc k w b off n d os).heap[b]?=some (.cells (putCells id off (flatK enc k d) cur) E fr):=by
 have Φ:b<w.heap.size:=(Array.getElem?_eq_some_iff.1 h).1;unfold sortWorldK;rw [heap_grow_old _ _ (by simpa [putRowK,putRow,mapBlock,Ha] using Φ)];simp [putRowK,putRow,mapBlock,Ha,pY,h,onCells]
def Uw {α:Type} [Inhabited α] {enc:α→List Value} {k:Nat} {w:World} {b off n:Nat} {d:Array α} {os:Array Obj} {c:Nat} (hc:c≠b) (hl:c<w.heap.size) :
  (sortWorldK enc k w b off n d os).heap[c]?=w.heap[c]?:=by
 unfold sortWorldK;rw [heap_grow_old _ _ (by simpa [putRowK,putRow,mapBlock,Ha] using hl)];simp [putRowK,putRow,mapBlock,Ha,pY,Ne.symm hc]
def XY {α:Type} [Inhabited α] {enc:α→List Value} {k:Nat} {w:World} {b off n:Nat} {d:Array α} {os:Array Obj}:w.heap.size≤(sortWorldK enc k w b off n d os).heap.size:=by
 unfold sortWorldK;simp [grow,putRowK,putRow,mapBlock,Ha]
end
end
section
open Go.RowKit Go.Sort Go.Proofs Go.Shelf
variable [M:cM] [G:dX] [R:eE]
def Yf {P:Program} {ρ:Ren} {k:Nat} (L:SlLaysF0.n6 P ρ) (aE:∀w,(isAgg (ρ.t 24)).run P w=.ok true w) (zE:∀w,(Go.sizeOf (ρ.t 24)).run P w=.ok k w):Hk P (ρ.f 6) k :=
 ⟨fun p cap fv w=>AnyF.slices_SortFunc_none L p cap fv w,fun _ _ enc hk h1 cf hO g cb eZ off cap d w eg Nd hH hblk aX =>
  AnyQ.slices_SortFunc_eq L k aE zE enc hk h1 cf hO g cb eZ off cap d w eg Nd hH hblk aX⟩
end
section
open Go.RowKit
variable [M:cM] [G:dX] [R:eE]
section
variable {P:Program}
def Le.z:Le .z (.s []):=fun _ _ _ _ h=>by obtain ⟨a,rfl⟩:=h.Aq;exact .i .s0
def Le.χ {x:AV}:Le x .χ:=fun _ _ _ _ _=>.χ
def Fz.z {H:Hp}:Fz H .z (.s []):=fun _ _ _ _ _ hr=>by obtain ⟨a,rfl⟩:=hr.Aq;exact .s0
def SG {α:Type} {f:α→List AV} {z:α} (l:List α) (d:Nat):(l.map f).take d++il ((l.map f).length-d) (f z)=(l.take d++il (l.length-d) z).map f:=by
 rw [List.map_append,List.map_replicate,List.map_take,ax]
def Yx {w:World} {F:Nat→Prop} {β:Nat→Value} {f:Nat→AV}:∀{L:List (Nat×AV)},sh f L→∀(t:Nat) (u:Value),Rd w F β (f t) u→Rd w F β (aq L t) u
 |[],_,_,_,_=>.χ
 |(d,x)::r,h,t,u,hu=>by
  simp only [aq];cases hb:Nat.beq t d with
  |true =>
   obtain rfl:=Nat.eq_of_beq_eq_true hb;exact h.1 _ _ _ _ hu
  |false=>exact Yx h.2 t u hu
def ae.norm {g:Tg} {xs ys:List AV} {st:ah} {k:AV→ah→Prop} {L:List (Nat×AV)} {H':Hp} (hl:iz xs ys) (hL:sh st.f L) (hH:vP st.H H') (hk:jm H'=true) (h:ae P g ys ⟨aq L,H'⟩ k):ae P g xs st k:=by
 obtain ⟨hlen,hz⟩:=hl.spec;have bC:=hH.mem
 have db:∀β b,bD β H' b→bD β st.H b:=fun β b ⟨i,c,hm,hb⟩=>by obtain ⟨c0,h0,_⟩:=bC i c hm;exact ⟨i,c0,h0,hb⟩
 refine ⟨h.1,fun w F β vs hI hs hv=>?_⟩
 have kP:Inv w F β H':=⟨hI.cA,fun i c hm=>by obtain ⟨c0,h0,hl⟩:=bC i c hm;exact hl.holds (hI.holds i c0 h0),w7 hk,
  fun b hb=>hI.apart b (db β b hb),
  fun i c i' c' b hm bQ hb aJ=>by
   obtain ⟨c0,h0,_⟩:=bC i c hm;obtain ⟨c1,h1,_⟩:=bC i' c' bQ
   exact hI.eo i c0 i' c1 b h0 h1 hb aJ,hI.fh⟩
 refine (h.2 w F β vs kP (by omega) fun i hi=>hz i (by omega) _ _ _ _ (hv i (by omega))).mono ?_;rintro e w' ⟨v,rfl,r,au,F',av,hk,hr,hx⟩
 exact ⟨v,rfl,r,au,F',av,hk,hr,hx.os,hx.tape,hx.output,hx.size,fun b hb bw=>hx.block b hb fun ho=>bw (db β b ho),hx.mono,
  fun b hb=>(hx.new b hb).elim .inl fun h=>h.elim (fun h=>.inr (.inl h)) fun h=>.inr (.inr (db β b h)),fun b hb=>(hx.owned b hb).elim .inl fun h=>.inr (db β b h),
  fun t u hu=>hx.keep t u (Yx hL t u hu),hx.inv,hx.gh⟩
def akN {F:Fence} {m:Nat} {c:Code} {Q:Exit→Act→World→Prop} {a:Act} {w:World} (h:c.wpIn F m P (Exit.noGoto Q) a w):(Code.scope c).wpIn F m P Q a w:=by
 intro b k cs EI hb hr;have h0:(lone (b.atR a (.code (.scope c)::k)) cs w).fenced P F:=fenced_calm hb hr rfl;have s0:Go.step P (lone (b.atR a (.code (.scope c)::k)) cs w)=.next (lone (b.atR a (.code c::.inScope c::k)) cs w):=step_lone_go (by simp [stepG,stepG.exec,Frame.atR]);obtain ⟨e,Dq,GU,hq,wA⟩:=h b (.inScope c::k) cs EI hb hr;cases e with
 |normal=>exact ⟨.normal,Dq,GU,hq,.head h0 s0 (StepsIn.trans wA (.one (fenced_calm hb hr rfl) (step_lone_go (by simp [stepG,stepG.exec,Frame.atR]))))⟩
 |exit id =>
  have hx:exitTo id (.inScope c::k)=exitTo id k:=by simp [exitTo]
  exact ⟨.exit id,Dq,GU,hq,fun k' hk=>.head h0 s0 (wA.1 k' (by rw [hx];exact hk)),fun cK hk=>let ⟨k₁,h1,h2⟩:=wA.2 cK (by rw [hx];exact hk);⟨k₁,h1,.head h0 s0 h2⟩⟩
 |goto l=>exact hq.elim
 |ret=>exact ⟨_,Dq,GU,hq,.of_steps (.one h0 s0) wA⟩
 |panic ch=>exact ⟨_,Dq,GU,hq,.of_steps (.one h0 s0) wA⟩
 |outgrown=>exact ⟨_,Dq,GU,hq,.of_steps (.one h0 s0) wA⟩
def ng (Q:Exit→ah→Prop):Exit→ah→Prop:=fun e s=>match e with
 |.goto _=>False
 |e=>Q e s
def Ok.scope {n:Nat} {c:Code} {st:ah} {Q:Exit→ah→Prop} (h:Ok P n c st (ng Q)):Ok P n (.scope c) st Q:=⟨fun C hn a w hr=>by
 refine akN (wpIn_mono (h.h C hn a w hr) ?_);rintro e a' w' ⟨au,cK,hq⟩;cases e with
 |goto l=>exact hq.elim
 |_=>exact ⟨au,cK,hq⟩⟩
end
section
variable {P:Program}
def ag0 {α:Type} {f:α→List AV} (h:∀x,(f x).all vh=true) (l:List α):∀r,r∈l.map f→r.all vh=true:=fun r hr=>by
 obtain ⟨x,_,rfl⟩:=List.mem_map.1 hr;exact h x
def afc {w:World} {F F':Nat→Prop} {β:Nat→Value} {id E K:Nat} {rows:List (List AV)} (hp:∀r,r∈rows→r.all vh=true) (h:Chunk.holds w F' β id (.own E K rows)):Chunk.holds w F β id (.own E K rows):=by
 rcases h with h|⟨g,cap,cur,hv,hc,hg,hn,hm,hs,hk,hr⟩
 ·exact .inl h
 ·refine .inr ⟨g,cap,cur,hv,hc,hg,hn,hm,hs,hk,fun i j hi hj=>⟨(hr i j hi hj).1,JS ?_ (hr i j hi hj).2⟩⟩;have jE:=hp rows[i] (ek hi)
  have e1:rows.getD i []=rows[i]:=by simp [List.getD,hi]
  have hlen:j<(rows[i]).length:=by have:=hk i hi;rw [e1] at this;omega
  rw [e1];exact List.all_eq_true.1 jE _ (by rw [List.getD_eq_getElem?_getD,List.getElem?_eq_getElem hlen];exact ek _)
def ae.afb {g:FuncId} {xs ys:List AV} {st:ah} {E K D:Nat} {rows:List (List AV)} {k:AV→ah→Prop} (h:iN P g ys E K rows) (hz:oq st.H xs ys) (hp:∀r,r∈rows→r.all vh=true) (hD:Nat.blt D 1000=true)
  (hk:k (.o D) (gR st D (.own E K rows))):ae P g xs st k:=by
 obtain ⟨hl,hz⟩:=hz.spec;refine ⟨h.1,fun w F β vs hI hs hv=>?_⟩;have kP:Inv w (fun b=>F b∨bD β st.H b) β [] :=
  ⟨fun b hb=>hb.elim (hI.cA b) hI.fJ,fun _ _ hm=>(eJ hm).elim,List.nodup_nil,fun _ ⟨_,_,hm,_⟩=>(eJ hm).elim,fun _ _ _ _ _ hm=>(eJ hm).elim,hI.fh.more fun _ h=>.inl h⟩
 refine (h.2 w _ β vs kP (by omega) fun i hi=>.i (hz i (by omega) _ _ _ _ hI (hv i (by omega)))).mono ?_;rintro e w' ⟨v,rfl,hb,F',h1,h2,h3,⟨a,m,c,rfl⟩,h4⟩;exact ⟨_,rfl,.o D,_,F,_,hk,.o (by simp),H6 (by simpa using hD) hI hb (fun _ h=>h) (fun _ h=>.inl h) (fun b aJ=>⟨(h4 b aJ).1,fun hF=>absurd (hI.cA b hF) (Nat.not_lt.2 (h4 b aJ).1)⟩) (afc hp (JF h3 _ _ (by simp)))⟩
end
end
section
def MM {α:Type} {l:List α} {n:Nat} {x:α} (h:l[n]?=some x):n<l.length∧x∈l:=⟨(List.getElem?_eq_some_iff.1 h).1,List.mem_of_getElem? h⟩
def tn {α:Type} {l:List α} {x:α} (h:x∈l):∃n:Nat,l[n]?=some x:=List.mem_iff_getElem?.1 h
def ε.found {ρ:Type} {n:Nat} {b:Bool} {R:Prop} {Q:ρ→Prop} {x:Option ρ} (hn:n<1000000000000) (hb:b=true↔R) (hx:R→ε x Q) :
  ε (if b=true then Cat.out x else Cat.Ψ (Ξ ((n:Int)+1)) (some (.inl ((n:Int)+1)))) (fun y=>(R∧∃r,y=.inr r∧Q r)∨(¬R∧y=.inl ((n:Int)+1))) :=
 ε.ite (fun h=>by obtain ⟨r,rfl,hq⟩:=hx (hb.1 h);exact ⟨_,rfl,.inl ⟨hb.1 h,r,rfl,hq⟩⟩) (fun h=>ε.Ψ (by unfold Ξ;omega) ⟨_,rfl,.inr ⟨fun hr=>h (hb.2 hr),rfl⟩⟩)
def ε.done {σ ρ:Type} {Q:ρ→Prop} {x:Option ρ} (hx:ε x Q):ε (Cat.out (σ:=σ) x) (fun y=>∃r,y=.inr r∧Q r):=by
 obtain ⟨r,rfl,hq⟩:=hx;exact ⟨_,rfl,r,rfl,hq⟩
def ε.cond {α:Type} {p:Prop} [Decidable p] {x y:Option α} {Q:α→Prop} (hp:p) (h:ε x Q):ε (if p then x else y) Q:=by rw [if_pos hp];exact h
def ε.cD {α:Type} {p:Prop} [Decidable p] {x y:Option α} {Q:α→Prop} (hp:¬p) (h:ε y Q):ε (if p then x else y) Q:=by rw [if_neg hp];exact h
def cR.ex {α:Type} {l:List α} {R:α→Prop} {x:α} (hx:x∈l) (h:R x):cR (∃s,s∈l∧R s) true:=⟨fun _=>⟨x,hx,h⟩,fun _=>rfl⟩
def cR.yes {P:Prop} (h:P):cR P true:=⟨fun _=>h,fun _=>rfl⟩
def cR.no {P:Prop} (h:¬P):cR P false:=⟨fun e=>(by cases e),fun p=>(h p).elim⟩
def cR.not {P:Prop} {b:Bool} (h:cR P b):cR (¬P) (!b):=by
 unfold cR at *;cases b<;>simp_all
def cR.eq {P Q:Prop} {a b:Bool} (h:cR P a) (h':cR Q b) (e:P↔Q):a=b:=by
 unfold cR at *;cases a<;>cases b<;>simp_all
def cR.beq {P Q:Prop} {a b:Bool} (h:cR P a) (h':cR Q b):cR (P↔Q) (a==b):=by
 unfold cR at *;cases a<;>cases b<;>simp_all
def cR.dec {P:Prop} [Decidable P]:cR P (decide P):=decide_eq_true_iff
end
end Go.Cat
