/- The logic that the walks are in, piece P5. No condition. -/
import Derived.Test.YtdcgbodbejgliaaGreatDoorXTopListedCatP4
import Derived.Laws.Strings
import Derived.Sort.Grow
import Derived.Deep.Draws
import Derived.Shelf.GgSortFunc.InsertionK
import Derived.Shelf.SlSortCmp.NoneTotal
import Derived.Scope
open Array renaming getElem?_modify → oa
open BitVec renaming ofInt → iW
open ByteArray renaming mk → iX, size → VQ
open Go.Sort renaming ahead → CW
open List renaming length_map → au, map → bY, replicate → gl, map_take → Ox
namespace Go.Cat
set_option linter.all false
section
open Go.RowKit
variable [M:bU] [G:dC] [R:dW]
abbrev vu (b:UInt8):AV:=.v (.int .u8 (b.toNat:Int))
abbrev vs (l:List UInt8):AV:=.v (.string ⟨l.toArray⟩)
def du (b:UInt8):List AV:=[vu b]
def cB (b:Bool):List AV:=[vb b]
def eA (l:List UInt8):List AV:=[vs l]
def fu {ρ:Type} {X Y:Option ρ} {r:ρ} (h:(if true=true then X else Y)=some r):X=some r:=by simpa using h
def c9 {ρ:Type} {X Y:Option ρ} {r:ρ} (h:(if false=true then X else Y)=some r):Y=some r:=by simpa using h
def aN {σ ρ:Type} {x:Option ρ} {y:σ⊕ρ} {r:ρ} (h:out x=some y) (hx:∀r',y=.inr r'→r'=r):x=some r:=by
 obtain ⟨r',h1,h2⟩:=SK h;rw [h1,hx r' h2]
section
variable {α:Type} {f:α→List AV} {l:List α}
def aK {i:Int} {x:α} (h:idx l i=some x):(bY f l)[i.toNat]?=some (f x):=by rw [List.getElem?_map,ym h];rfl
def jY {i:Int} {x:α} (h:idx l i=some x):i.toNat<(bY f l).length:=by rw [au];exact aaW h
def wI {n:Nat} {x:α}:(bY f l).set n (f x)=bY f (l.set n x):=List.map_set.symm
def mo {K:Nat} (h:∀x,(f x).length=K) (l:List α):∀i,i<(bY f l).length→((bY f l).getD i []).length=K:=fun i hi=>by
 rw [au] at hi;simp [List.getD,hi,h]
def cJ {l':List α} {b:Nat} (h:(l.length+l'.length)*b≤140737488355328):((bY f l).length+(bY f l').length)*b≤140737488355328:=by rwa [au,au]
def fK {i:Int} (h:0≤i):i=(i.toNat:Int):=by omega
def nW {i:Int} (h:0≤i∧i≤(l.length:Int)):i.toNat≤(bY f l).length:=by rw [au];omega
def Gc {i:Int} (h:0≤i∧i≤(l.length:Int)):i.toNat≤(bY f l).length:=nW h
def wK {a b n:Int} (h:0≤a∧a≤b∧b≤n):0≤b:=by omega
def Mf {a b n:Int} (h:0≤a∧a≤b∧b≤n):a.toNat≤b.toNat:=by omega
def Mg {a b:Int} (h:0≤a∧a≤b∧b≤(l.length:Int)):b.toNat≤(bY f l).length:=by rw [au];omega
def wL (f:α→List AV) (l:List α) (n:Nat):((bY f l).take n).drop 0=bY f (l.take n):=by simp [Ox]
def Cg (f:α→List AV) (l:List α) (n:Nat):((bY f l).take (bY f l).length).drop n=bY f (l.drop n):=by rw [List.take_length,List.map_drop]
def Uo (f:α→List AV) (l:List α) (a b:Int):((bY f l).take b.toNat).drop a.toNat=bY f (sub l a b):=by rw [sub,List.map_drop,Ox]
def tz {n:Int} {b:Nat} (h:0≤n∧n.toNat*b≤140737488355328):n=(n.toNat:Int):=by omega
def mk_le {n:Int} {b:Nat} (hb:0<b) (h:0≤n∧n.toNat*b≤140737488355328):n.toNat≤140737488355328:=Nat.le_trans (Nat.le_mul_of_pos_right _ hb) h.2
end
def VD (n:Int):IntKind.u8.wrap n=n % 256:=by rw [IntKind.wrap_u8]
def UQ (n:Int):IntKind.u8.wrap n=((lM n).toNat:Int):=by rw [VD,UP]
def VF (b:UInt8):IntKind.u8.wrap (b.toNat:Int)=(b.toNat:Int):=by
 have:=b.toNat_lt;rw [VD];omega
def Dd (c:UInt8):iW IntKind.u8.bits (c.toNat:Int)=c.toBitVec:=by
 show iW 8 (c.toNat:Int)=c.toBitVec;rw [BitVec.ofInt_natCast];apply BitVec.eq_of_toNat_eq;rw [BitVec.toNat_ofNat];exact Nat.mod_eq_of_lt c.toNat_lt
def WI (a b:UInt8):IntKind.u8.wrap ((iW IntKind.u8.bits (a.toNat:Int) &&& iW IntKind.u8.bits (b.toNat:Int)).toNat:Int)=((a &&& b).toNat:Int):=by
 rw [Dd,Dd];exact VF (a &&& b)
def WJ (a b:UInt8):IntKind.u8.wrap ((iW IntKind.u8.bits (a.toNat:Int) ||| iW IntKind.u8.bits (b.toNat:Int)).toNat:Int)=((a ||| b).toNat:Int):=by
 rw [Dd,Dd];exact VF (a ||| b)
def VE {k:IntKind} (hk:(match k with|.i64|.u64|.i32|.u32|.i16|.u16=>true|_=>false)=true) (b:UInt8):k.wrap (b.toNat:Int)=(b.toNat:Int):=by
 have:=b.toNat_lt
 cases k<;>first|(cases hk;done)|exact IntWalk.i64_in _ (by omega)|exact IntWalk.u64_in _ (by omega)|exact IntWalk.i32_in _ (by omega)|exact IntWalk.u32_in _ (by omega)|exact IntWalk.i16_in _ (by omega)|exact IntWalk.u16_in _ (by omega)
def j1 (l:List UInt8):(iX l.toArray).size=l.length:=by simp [VQ]
def toList_mk (l:List UInt8):(iX l.toArray).toList=l:=by
 rw [ByteArray.toList_eq]
def lL (a b:List UInt8):((iX a.toArray).toList==(iX b.toArray).toList)=(a==b):=by rw [toList_mk,toList_mk]
def M0 (a b:List UInt8):(!((iX a.toArray).toList==(iX b.toArray).toList))=(!(a==b)):=by rw [toList_mk,toList_mk]
def ad7 (a b:List UInt8):(!(Op.bytesLess (iX a.toArray).toList (iX b.toArray).toList||(iX a.toArray).toList==(iX b.toArray).toList))=(!(Op.bytesLess a b||a==b)):=by rw [toList_mk,toList_mk]
def MY {a b:List UInt8} (h:a.length+b.length≤9223372036854775807):(iX a.toArray).size+(iX b.toArray).size≤9223372036854775807:=by rw [j1,j1];exact h
def MZ (a b:List UInt8):(iX a.toArray)++(iX b.toArray)=iX (a++b).toArray:=by
 apply ByteArray.ext;simp
def ad9 {l:List UInt8} (h:l.length≤140737488355328):(iX l.toArray).size≤maxLen:=by rw [j1];unfold maxLen;omega
def za {l:List UInt8} {a b:Int} (h:0≤a∧a≤b∧b≤(l.length:Int)):a.toNat≤b.toNat:=by omega
def zb {l:List UInt8} {a b:Int} (h:0≤a∧a≤b∧b≤(l.length:Int)):b.toNat≤(iX l.toArray).size:=by rw [j1];omega
abbrev agD (n:Int):AV:=.v (.int .i32 n)
abbrev agE (n:Int):AV:=.v (.int .u16 n)
abbrev agF (n:Int):AV:=.v (.int .u32 n)
abbrev agG (n:Int):AV:=.v (.int .u64 n)
section
variable {α:Type} {f:α→AV} {l l0:List α} {i:Int} {x v:α} {n:Nat}
def Fz.arr {H:Hp} (hf:∀n,eL (f n)=true):Fz H (.a (bY f l)) (.a (bY f l)):=Fz.cq (by simp [jB,hf])
def PT (hf:∀n d,er 1 d (f n)=f n) (d:Nat) (l:List α):bY (er 1 d) (bY f l)=bY f l:=by
 rw [List.map_map];exact List.map_congr_left fun n _=>hf n d
def gM.O2 (hf:∀n d,er 1 d (f n)=f n) {d:Nat}:gM (nG d (.box (bY f l))) (.box (bY f l)):=by
 have:nG d (.box (bY f l))=.box (bY f l):=congrArg Chunk.box (PT hf d l);rw [this];exact .refl _
def gM.O3 (hf:∀n d,er 1 d (f n)=f n) {d e:Nat}:gM (nG e (nG d (.box (bY f l)))) (.box (bY f l)):=by
 have:nG d (.box (bY f l))=.box (bY f l):=congrArg Chunk.box (PT hf d l);rw [this];exact .O2 hf
end
def PY {id:Nat} {c:Chunk}:∀{H:Hp} {c0:Chunk},di id H=some c0→di id (eX id c H)=some c
 |[],_,h=>by cases h
 |(i,d)::r,c0,h=>by
  simp only [di] at h;cases hb:Nat.beq i id with
  |true=>simp only [eX,hb,cond_true,di]
  |false=>rw [hb] at h;simp only [eX,hb,cond_false,di];exact PY h
def L8 {id:Nat} {c d:Chunk}:∀{H:Hp},eX id d (eX id c H)=eX id d H
 |[]=>rfl
 |(i,e)::r=>by
  cases hb:Nat.beq i id with
  |true=>simp only [eX,hb,cond_true,L8]
  |false=>simp only [eX,hb,cond_false,L8]
def Θ.eD {P:Program} {g:FuncId} {id:Nat} {xs ys:List AV} {st:ai} {c0 c:Chunk} {R:AV→Chunk→Prop} {k:AV→ai→Prop} (h:lg P g ys c R) (hc:di id st.H=some c0) (hl:gM c0 c) (gw:xl c=true) (hle:uC id xs ys)
  (hk:∀r c',R r c'→k r ⟨st.f,eX id c' st.H⟩):Θ P g xs st k:=by
 have h1:=Θ.W2 (st:=⟨st.f,eX id c st.H⟩) (k:=fun r av=>∃c',R r c'∧av=⟨st.f,eX id c' (eX id c st.H)⟩) h (PY hc) gw hle (fun r c' hr=>⟨c',hr,rfl⟩);have mY:=eE hc;refine ⟨h1.1,fun w F β vs hI hs hv=>?_⟩
 have lY:Inv w F β (eX id c st.H):=by
  refine ⟨hI.bW,fun i d hm=>?_,by rw [wH];exact hI.keys,fun b ⟨i,d,hm,hb⟩=>?_,fun i d i' d' b hm bE hb aH=>?_,hI.eN⟩
  ·rcases lJ hm with ⟨rfl,rfl,_⟩|⟨_,h2⟩
   ·exact hl.holds (hI.holds _ _ mY)
   ·exact hI.holds i d h2
  ·rcases lJ hm with ⟨rfl,_,d',h2⟩|⟨_,h2⟩<;>exact hI.apart b ⟨i,_,h2,hb⟩
  ·have hx:∃c,(i,c)∈st.H:=by rcases lJ hm with ⟨_,_,c2,h2⟩|⟨_,h2⟩<;>exact ⟨_,h2⟩
   have hy:∃c,(i',c)∈st.H:=by rcases lJ bE with ⟨_,_,c2,h2⟩|⟨_,h2⟩<;>exact ⟨_,h2⟩
   obtain ⟨c2,h2⟩:=hx;obtain ⟨c3,h3⟩:=hy;exact hI.dR i c2 i' c3 b h2 h3 hb aH
 refine (h1.2 w F β vs lY hs hv).mono ?_;rintro e w' ⟨v,rfl,r,av,F',aw,⟨c',hr,rfl⟩,eP,he⟩;have yi:eX id c' (eX id c st.H)=eX id c' st.H:=L8;rw [yi] at he
 have cY:∀b,br β (eX id c st.H) b→br β st.H b:=by
  rintro b ⟨i,d,hm,hb⟩
  rcases lJ hm with ⟨rfl,_,d',h2⟩|⟨_,h2⟩
  ·exact ⟨i,d',h2,hb⟩
  ·exact ⟨i,d,h2,hb⟩
 exact ⟨v,rfl,r,_,F',aw,hk r c' hr,eP,he.os,he.tape,he.output,he.size,fun b hb bw=>he.block b hb fun ho=>bw (cY b ho),he.mono,fun b hb=>(he.new b hb).imp (fun h=>h) fun h=>h.imp (fun h=>h) (cY b),fun b hb=>(he.owned b hb).imp (fun h=>h) (cY b),he.keep,he.inv,he.fH⟩
def abP {l:List UInt8} {pos:Nat} {ρ:Type} {X Y:Option ρ} {r:ρ} {A B:Prop} (h:(if decide (pos<l.length)=true then X else Y)=some r) (y:X=some r→A) (n:Y=some r→B) :
  (pos<(iX l.toArray).size→A)∧(¬pos<(iX l.toArray).size→B):=by
 rw [j1];exact ⟨fun hp=>y (by simpa [hp] using h),fun hp=>n (by simpa [hp] using h)⟩
section
variable {P:Program}
def ez.RU {t:TypeId} {k:IntKind} {xs:List AV} (h:ez P t xs) (hu:P.underlying t=some (.int k)):∃n,xs=[.v (.int k n)]∧(Lit.int k n).wf=true:=by
 cases h with
 |int h hn=>rw [hu] at h;cases h;exact ⟨_,rfl,hn⟩
 |bool h=>rw [hu] at h;cases h
 |str h=>rw [hu] at h;cases h
 |slice h=>rw [hu] at h;cases h
 |struct h=>rw [hu] at h;cases h
 |arr h=>rw [hu] at h;cases h
def ez.ad8 {t:TypeId} {xs:List AV} (h:ez P t xs) (hu:P.underlying t=some .string):∃l:List UInt8,xs=[vs l]∧l.length≤maxLen:=by
 cases h with
 |str h hs =>
  rename_i s;obtain ⟨⟨l⟩⟩:=s;exact ⟨l,rfl,by simpa [VQ] using hs⟩
 |bool h=>rw [hu] at h;cases h
 |int h=>rw [hu] at h;cases h
 |slice h=>rw [hu] at h;cases h
 |struct h=>rw [hu] at h;cases h
 |arr h=>rw [hu] at h;cases h
def ez.Uq {t e:TypeId} {xs:List AV} (h:ez P t xs) (hu:P.underlying t=some (.slice e)):∃rows,xs=[.s rows]∧rows.length≤maxLen∧∀r,r∈rows→ez P e r:=by
 cases h with
 |slice h hl hk hr=>rw [hu] at h;cases h;exact ⟨_,rfl,hl,hr⟩
 |bool h=>rw [hu] at h;cases h
 |int h=>rw [hu] at h;cases h
 |str h=>rw [hu] at h;cases h
 |struct h=>rw [hu] at h;cases h
 |arr h=>rw [hu] at h;cases h
def ez.ad' {t:TypeId} {fs:Array Field} {xs:List AV} (h:ez P t xs) (hu:P.underlying t=some (.struct fs)):lf P (fs.toList.map (·.type)) xs:=by
 cases h with
 |struct h hf=>rw [hu] at h;cases h;exact hf
 |arr h=>rw [hu] at h;cases h
 |bool h=>rw [hu] at h;cases h
 |int h=>rw [hu] at h;cases h
 |str h=>rw [hu] at h;cases h
 |slice h=>rw [hu] at h;cases h
def ez.fields {t:TypeId} {ts:List TypeId} {xs:List AV} (h:ez P t xs) (hu:(P.underlying t).map (fun d=>match d with|.struct fs=>some (fs.toList.map (·.type))|_=>none)=some (some ts)):lf P ts xs:=by
 cases hd:P.underlying t with
 |none=>rw [hd] at hu;cases hu
 |some d =>
  rw [hd] at hu
  cases d<;>first|cases hu;done|skip
  rename_i fs;simp only [Option.map_some,Option.some.injEq] at hu;rw [←hu];exact h.ad' hd
def lf.cons_inv {t:TypeId} {ts:List TypeId} {xs:List AV} (h:lf P (t::ts) xs):∃a b,xs=a++b∧ez P t a∧lf P ts b:=by
 cases h with
 |cons h hs=>exact ⟨_,_,rfl,h,hs⟩
def lf.KC {xs:List AV} (h:lf P [] xs):xs=[]:=by cases h;rfl
def mN.cons_inv {t:TypeId} {ts:List TypeId} {xs:List AV} (h:mN P (t::ts) xs):∃x ys,xs=x::ys∧oZ P t x∧mN P ts ys:=by
 cases h with
 |cons h hs=>exact ⟨_,_,rfl,h,hs⟩
def mN.KC {xs:List AV} (h:mN P [] xs):xs=[]:=by cases h;rfl
def oZ.one {t:TypeId} {x:AV} (h:oZ P t x) (hu:(match P.underlying t with|some (.struct _)=>false|some (.array _ _)=>false|some _=>true|none=>false)=true):ez P t [x]:=by
 unfold oZ at h;cases hd:P.underlying t with
 |none=>rw [hd] at hu;cases hu
 |some d =>
  rw [hd] at hu h
  cases d<;>first|(cases hu;done)|exact h
def oZ.agg {t:TypeId} {x:AV} (h:oZ P t x) (hu:(match P.underlying t with|some (.struct _)=>true|some (.array _ _)=>true|_=>false)=true):∃cs,x=.a cs∧ez P t cs:=by
 unfold oZ at h;cases hd:P.underlying t with
 |none=>rw [hd] at hu;cases hu
 |some d =>
  rw [hd] at hu h
  cases d<;>first|(cases hu;done)|exact h
def LP {α:Type} {c:α→List AV} {ok:α→Prop}:∀{rows:List (List AV)},(∀r,r∈rows→∃x,r=c x∧ok x)→∃l:List α,rows=bY c l∧∀x,x∈l→ok x
 |[],_=>⟨[],rfl,fun x hx=>by cases hx⟩
 |r::rs,h=>by
  obtain ⟨x,rfl,hx⟩:=h r (by simp);obtain ⟨l,rfl,hl⟩:=LP (rows:=rs) fun r hr=>h r (by simp [hr]);exact ⟨x::l,rfl,fun y hy=>(List.mem_cons.1 hy).elim (fun e=>e▸hx) (hl y)⟩
def wf_i64 {n:Int} (h:(Lit.int .i64 n).wf=true):Ψ n:=by
 have:IntKind.i64.min≤n∧n≤IntKind.i64.max:=by simpa [Lit.wf] using h
 exact this
def wf_u8 {n:Int} (h:(Lit.int .u8 n).wf=true):n=((lM n).toNat:Int):=by
 have h0:IntKind.u8.min≤n∧n≤IntKind.u8.max:=by simpa [Lit.wf] using h
 have h1:(0:Int)≤n∧n≤255:=h0;rw [UP];omega
end
end
section
open Go.Sort
def Below.YZ {w w':World} (h:@Below bU.yes w.heap.size w w'):∃q ER,w'=grow (w.drewN q) ER:=by
 refine ⟨w'.drawn-w.drawn,w'.heap.extract w.heap.size w'.heap.size,?_⟩;unfold World.drewN;obtain ⟨DS,ahe,Px,ER,ahb⟩:=w';have h1:=@Below.os bU.yes _ _ _ h;have h2:=(@Below.tape bU.yes _ _ _ h).1;have h3:=(@Below.tape bU.yes _ _ _ h).2 trivial;have h4:=@Below.output bU.yes _ _ _ h;have h5:=@Below.size bU.yes _ _ _ h;have h6:=@Below.block bU.yes _ _ _ h;dsimp only at h1 h2 h3 h4 h5 h6;subst h1 h2 h4;unfold grow
 have e1:w.drawn+(Px-w.drawn)=Px:=by omega
 have e2:DS=w.heap++DS.extract w.heap.size DS.size:=by
  apply Array.ext_getElem?;intro i;by_cases hi:i<w.heap.size
  ·rw [Array.getElem?_append_left hi];exact h6 i hi
  ·rw [Array.getElem?_append_right (by omega),Array.getElem?_extract];by_cases bj:i<DS.size
   ·rw [if_pos (by omega)];congr 1;omega
   ·rw [if_neg (by omega),Array.getElem?_eq_none (by omega)]
 dsimp only;rw [e1,←e2]
end
section
open Go.RowKit Go.Sort Go.Proofs
variable [M:bU] [G:dC] [R:dW]
section
variable {P:Program}
def C9 (P:Program) (f:Nat) (k:Nat):Prop :=
 (∀(p:Option Addr) (cap:Nat) (fv:Value) (w:World),Calls P f #[.slice p 0 cap,fv] w fun e w'=>e=.returned (.tuple #[])∧w'=w) ∧
 ∀(α:Type) [Inhabited α] (enc:α→List Value),(∀x,(enc x).length=k)→(∀x,∀v∈enc x,v.oneCell'=true)→∀(cf:α→α→Int),SWO (fun x y=>decide (cf x y<0)) →
  ∀(g:Nat) (cb:Array Value) (e9 off cap:Nat) (d:Array α) (w:World),(∀args w,(callFunc g args).run P w=.ok (.enter g args) w) →
  (∀(m:Nat) (os:Array Obj) (dk:Array α),dk.size=d.size→∀x y:α,
   Calls P g (#[.agg (enc x).toArray,.agg (enc y).toArray]++cb) (sortWorldK enc k w e9 off m dk os) fun e w'=>e=.returned (.int .i64 (cf x y))∧∃q ER,w'=grow ((sortWorldK enc k w e9 off m dk os).drewN q) ER) →
  HoldsK enc k w e9 off d→e9<w.heap.size→d.size<4611686018427387904 →
  Calls P f #[.slice (some ⟨e9,off,none⟩) d.size cap,.func (.func g) #[] cb] w fun e w' =>
   e=.returned (.tuple #[])∧∃n os,w'=sortWorldK enc k w e9 off n (pdq (fun x y=>decide (cf x y<0)) d 0 d.size (Lib.bitLen d.size) true true) os
def O3 {vs:Array Value} (h:vs.size=2):vs=#[vs.getD 0 undef,vs.getD 1 undef]:=by
 apply Array.ext
 ·simpa using h
 ·intro i h1 h2
  match i,h1 with
  |0,h1=>simp [Array.getD,h1]
  |1,h1=>simp [Array.getD,h1]
  |n+2,h1=>exact absurd h1 (by omega)
def ZQ {α:Type} [Inhabited α] {enc:α→List Value} {k:Nat} {w:World} {b off n:Nat} {d:Array α} {os:Array Obj} {cur:Array Value} {E:Nat} {fr:Nat×Nat}
  (h:w.heap[b]?=some (.cells cur E fr)):(sortWorldK enc k w b off n d os).heap[b]?=some (.cells (putCells id off (flatK enc k d) cur) E fr):=by
 have Ξ:b<w.heap.size:=(Array.getElem?_eq_some_iff.1 h).1;unfold sortWorldK;rw [heap_grow_old _ _ (by simpa [putRowK,putRow,mapBlock,CW] using Ξ)];simp [putRowK,putRow,mapBlock,CW,oa,h,onCells]
def QC {α:Type} [Inhabited α] {enc:α→List Value} {k:Nat} {w:World} {b off n:Nat} {d:Array α} {os:Array Obj} {c:Nat} (hc:c≠b) (hl:c<w.heap.size) :
  (sortWorldK enc k w b off n d os).heap[c]?=w.heap[c]?:=by
 unfold sortWorldK;rw [heap_grow_old _ _ (by simpa [putRowK,putRow,mapBlock,CW] using hl)];simp [putRowK,putRow,mapBlock,CW,oa,Ne.symm hc]
def Un {α:Type} [Inhabited α] {enc:α→List Value} {k:Nat} {w:World} {b off n:Nat} {d:Array α} {os:Array Obj}:w.heap.size≤(sortWorldK enc k w b off n d os).heap.size:=by
 unfold sortWorldK;simp [grow,putRowK,putRow,mapBlock,CW]
end
end
section
open Go.RowKit Go.Sort Go.Proofs Go.Shelf
variable [M:bU] [G:dC] [R:dW]
def Us {P:Program} {ρ:Ren} {k:Nat} (L:SlLaysF0.n6 P ρ) (aE:∀w,(isAgg (ρ.t 24)).run P w=.ok true w) (zE:∀w,(Go.sizeOf (ρ.t 24)).run P w=.ok k w):C9 P (ρ.f 6) k :=
 ⟨fun p cap fv w=>AnyF.slices_SortFunc_none L p cap fv w,fun _ _ enc hk h1 cf hO g cb e9 off cap d w eg I6 hH hblk aZ =>
  AnyQ.slices_SortFunc_eq L k aE zE enc hk h1 cf hO g cb e9 off cap d w eg I6 hH hblk aZ⟩
end
section
open Go.RowKit
variable [M:bU] [G:dC] [R:dW]
section
variable {P:Program}
def Le.z:Le .z (.s []):=fun _ _ _ _ h=>by obtain ⟨a,rfl⟩:=h.wV;exact .i .s0
def Le.χ {x:AV}:Le x .χ:=fun _ _ _ _ _=>.χ
def Fz.z {H:Hp}:Fz H .z (.s []):=fun _ _ _ _ _ hr=>by obtain ⟨a,rfl⟩:=hr.wV;exact .s0
def Pj {α:Type} {f:α→List AV} {z:α} (l:List α) (d:Nat):(l.map f).take d++gl ((l.map f).length-d) (f z)=(l.take d++gl (l.length-d) z).map f:=by
 rw [List.map_append,List.map_replicate,Ox,au]
def ags {F:Fence} {m:Nat} {c:Code} {Q:Exit→Act→World→Prop} {a:Act} {w:World} (h:c.wpIn F m P (Exit.noGoto Q) a w):(Code.scope c).wpIn F m P Q a w:=by
 intro b k cs AN hb hr;have h0:(lone (b.atR a (.code (.scope c)::k)) cs w).fenced P F:=fenced_calm hb hr rfl;have s0:Go.step P (lone (b.atR a (.code (.scope c)::k)) cs w)=.next (lone (b.atR a (.code c::.inScope c::k)) cs w):=step_lone_go (by simp [stepG,stepG.exec,Frame.atR]);obtain ⟨e,zP,CC,hq,sP⟩:=h b (.inScope c::k) cs AN hb hr;cases e with
 |normal=>exact ⟨.normal,zP,CC,hq,.head h0 s0 (StepsIn.trans sP (.one (fenced_calm hb hr rfl) (step_lone_go (by simp [stepG,stepG.exec,Frame.atR]))))⟩
 |exit id =>
  have hx:exitTo id (.inScope c::k)=exitTo id k:=by simp [exitTo]
  exact ⟨.exit id,zP,CC,hq,fun k' hk=>.head h0 s0 (sP.1 k' (by rw [hx];exact hk)),fun cj hk=>let ⟨k₁,h1,h2⟩:=sP.2 cj (by rw [hx];exact hk);⟨k₁,h1,.head h0 s0 h2⟩⟩
 |goto l=>exact hq.elim
 |ret=>exact ⟨_,zP,CC,hq,.of_steps (.one h0 s0) sP⟩
 |panic ch=>exact ⟨_,zP,CC,hq,.of_steps (.one h0 s0) sP⟩
 |outgrown=>exact ⟨_,zP,CC,hq,.of_steps (.one h0 s0) sP⟩
def ng (Q:Exit→ai→Prop):Exit→ai→Prop:=fun e s=>match e with
 |.goto _=>False
 |e=>Q e s
def Ok.scope {n:Nat} {c:Code} {st:ai} {Q:Exit→ai→Prop} (h:Ok P n c st (ng Q)):Ok P n (.scope c) st Q:=⟨fun C hn a w hr=>by
 refine ags (wpIn_mono (h.h C hn a w hr) ?_);rintro e a' w' ⟨av,cj,hq⟩;cases e with
 |goto l=>exact hq.elim
 |_=>exact ⟨av,cj,hq⟩⟩
end
section
variable {P:Program}
end
end
section
def YV {α:Type} {l:List α} {n:Nat} {x:α} (h:l[n]?=some x):n<l.length∧x∈l:=⟨(List.getElem?_eq_some_iff.1 h).1,List.mem_of_getElem? h⟩
def ED {α:Type} {l:List α} {x:α} (h:x∈l):∃n:Nat,l[n]?=some x:=List.mem_iff_getElem?.1 h
def ε.found {ρ:Type} {n:Nat} {b:Bool} {R:Prop} {Q:ρ→Prop} {x:Option ρ} (hn:n<1000000000000) (hb:b=true↔R) (hx:R→ε x Q) :
  ε (if b=true then Cat.out x else Cat.τ (Ψ ((n:Int)+1)) (some (.inl ((n:Int)+1)))) (fun y=>(R∧∃r,y=.inr r∧Q r)∨(¬R∧y=.inl ((n:Int)+1))) :=
 ε.ite (fun h=>by obtain ⟨r,rfl,hq⟩:=hx (hb.1 h);exact ⟨_,rfl,.inl ⟨hb.1 h,r,rfl,hq⟩⟩) (fun h=>ε.τ (by unfold Ψ;omega) ⟨_,rfl,.inr ⟨fun hr=>h (hb.2 hr),rfl⟩⟩)
def ε.done {σ ρ:Type} {Q:ρ→Prop} {x:Option ρ} (hx:ε x Q):ε (Cat.out (σ:=σ) x) (fun y=>∃r,y=.inr r∧Q r):=by
 obtain ⟨r,rfl,hq⟩:=hx;exact ⟨_,rfl,r,rfl,hq⟩
def ε.cond {α:Type} {p:Prop} [Decidable p] {x y:Option α} {Q:α→Prop} (hp:p) (h:ε x Q):ε (if p then x else y) Q:=by rw [if_pos hp];exact h
def ε.bf {α:Type} {p:Prop} [Decidable p] {x y:Option α} {Q:α→Prop} (hp:¬p) (h:ε y Q):ε (if p then x else y) Q:=by rw [if_neg hp];exact h
def dO.ex {α:Type} {l:List α} {R:α→Prop} {x:α} (hx:x∈l) (h:R x):dO (∃s,s∈l∧R s) true:=⟨fun _=>⟨x,hx,h⟩,fun _=>rfl⟩
def dO.yes {P:Prop} (h:P):dO P true:=⟨fun _=>h,fun _=>rfl⟩
def dO.no {P:Prop} (h:¬P):dO P false:=⟨fun e=>(by cases e),fun p=>(h p).elim⟩
def dO.not {P:Prop} {b:Bool} (h:dO P b):dO (¬P) (!b):=by
 unfold dO at *;cases b<;>simp_all
def dO.eq {P Q:Prop} {a b:Bool} (h:dO P a) (h':dO Q b) (e:P↔Q):a=b:=by
 unfold dO at *;cases a<;>cases b<;>simp_all
def dO.beq {P Q:Prop} {a b:Bool} (h:dO P a) (h':dO Q b):dO (P↔Q) (a==b):=by
 unfold dO at *;cases a<;>cases b<;>simp_all
def dO.dec {P:Prop} [Decidable P]:dO P (decide P):=decide_eq_true_iff
end
end Go.Cat
