/- The logic that the walks are in, piece P5. No condition. -/
import Derived.Test.YtdcgbodbejgliaaGreatDoorXTopUnseenCatP4
import Derived.Laws.Strings
import Derived.Sort.Grow
import Derived.Deep.Draws
import Derived.Test.YtdcgbodbejgliaaGreatDoorXTopUnseenCatP1
import Derived.Shelf.GgSortFunc.InsertionK
import Derived.Shelf.SlSortCmp.NoneTotal
import Derived.Scope
open Array renaming getElem?_modify → pQ
open BitVec renaming ofInt → eF
open ByteArray renaming mk → lK, size → Y2
open Go.Sort renaming ahead → GQ
open List renaming length_map → ay, map → aU, getElem_mem → eG, not_mem_nil → eH, replicate → ic
namespace Go.Cat
set_option linter.all false
section
open Go.RowKit
variable [M:bK] [G:cL] [R:dK]
abbrev vu (b:UInt8):AV:=.v (.int .u8 (b.toNat:Int))
abbrev vs (l:List UInt8):AV:=.v (.string ⟨l.toArray⟩)
def dZ (b:UInt8):List AV:=[vu b]
def cB (b:Bool):List AV:=[vb b]
def mJ (l:List UInt8):List AV:=[vs l]
def akC (n:Int):List AV:=[.v (.int .u16 n)]
def akD (n:Int):List AV:=[.v (.int .u32 n)]
def akE (n:Int):List AV:=[.v (.int .u64 n)]
def ee {ρ:Type} {X Y:Option ρ} {r:ρ} (h:(if true=true then X else Y)=some r):X=some r:=by simpa using h
def ed {ρ:Type} {X Y:Option ρ} {r:ρ} (h:(if false=true then X else Y)=some r):Y=some r:=by simpa using h
def bx {σ ρ:Type} {x:Option ρ} {y:σ⊕ρ} {r:ρ} (h:out x=some y) (hx:∀r',y=.inr r'→r'=r):x=some r:=by
 obtain ⟨r',h1,h2⟩:=VP h;rw [h1,hx r' h2]
section
variable {α:Type} {f:α→List AV} {l:List α}
def bC {i:Int} {x:α} (h:idx l i=some x):(aU f l)[i.toNat]?=some (f x):=by rw [List.getElem?_map,U7 h]; rfl
def wD {i:Int} {x:α} (h:idx l i=some x):i.toNat<(aU f l).length:=by rw [ay]; exact ada h
def FB {n:Nat} {x:α}:(aU f l).set n (f x)=aU f (l.set n x):=List.map_set.symm
def wQ {K:Nat} (h:∀x,(f x).length=K) (l:List α):∀i,i<(aU f l).length→((aU f l).getD i []).length=K:=fun i hi=>by
 rw [ay] at hi;simp [List.getD,hi,h]
def ZT {l':List α} {b:Nat} (h:l'.length*b≤140737488355328):(aU f l').length*b≤140737488355328:=by rwa [ay]
def ix {l':List α} {b:Nat} (h:(l.length+l'.length)*b≤140737488355328):((aU f l).length+(aU f l').length)*b≤140737488355328:=by rwa [ay,ay]
def kZ {i:Int} (h:0≤i):i=(i.toNat:Int):=by omega
def wV {i:Int} (h:0≤i∧i≤(l.length:Int)):i.toNat≤(aU f l).length:=by rw [ay]; omega
def FO {i:Int} (h:0≤i∧i≤(l.length:Int)):i.toNat≤(aU f l).length:=wV h
def Ps {a b n:Int} (h:0≤a∧a≤b∧b≤n):0≤b:=by omega
def ag7 {a b n:Int} (h:0≤a∧a≤b∧b≤n):a.toNat≤b.toNat:=by omega
def ag8 {a b:Int} (h:0≤a∧a≤b∧b≤(l.length:Int)):b.toNat≤(aU f l).length:=by rw [ay]; omega
def J0 (f:α→List AV) (l:List α) (n:Nat):((aU f l).take n).drop 0=aU f (l.take n):=by simp [List.map_take]
def Pr (f:α→List AV) (l:List α) (n:Nat):((aU f l).take (aU f l).length).drop n=aU f (l.drop n):=by rw [List.take_length,List.map_drop]
def VB {n:Int} {b:Nat} (h:0≤n∧n.toNat*b≤140737488355328):n=(n.toNat:Int):=by omega
def mk_le {n:Int} {b:Nat} (hb:0<b) (h:0≤n∧n.toNat*b≤140737488355328):n.toNat≤140737488355328:=Nat.le_trans (Nat.le_mul_of_pos_right _ hb) h.2
end
def YI (n:Int):IntKind.u8.wrap n=n % 256:=by rw [IntKind.wrap_u8]
def XO (n:Int):IntKind.u8.wrap n=((k_ n).toNat:Int):=by rw [YI,XN]
def YK (b:UInt8):IntKind.u8.wrap (b.toNat:Int)=(b.toNat:Int):=by
 have:=b.toNat_lt; rw [YI]; omega
def Ha (c:UInt8):eF IntKind.u8.bits (c.toNat:Int)=c.toBitVec:=by
 show eF 8 (c.toNat:Int)=c.toBitVec;rw [BitVec.ofInt_natCast];apply BitVec.eq_of_toNat_eq;rw [BitVec.toNat_ofNat];exact Nat.mod_eq_of_lt c.toNat_lt
def Z0 (a b:UInt8):IntKind.u8.wrap ((eF IntKind.u8.bits (a.toNat:Int) &&& eF IntKind.u8.bits (b.toNat:Int)).toNat:Int)=((a &&& b).toNat:Int):=by
 rw [Ha,Ha]; exact YK (a &&& b)
def Z1 (a b:UInt8):IntKind.u8.wrap ((eF IntKind.u8.bits (a.toNat:Int) ||| eF IntKind.u8.bits (b.toNat:Int)).toNat:Int)=((a ||| b).toNat:Int):=by
 rw [Ha,Ha]; exact YK (a ||| b)
def YJ {k:IntKind} (hk:(match k with | .i64 | .u64 | .i32 | .u32 | .i16 | .u16=>true | _=>false)=true) (b:UInt8):k.wrap (b.toNat:Int)=(b.toNat:Int):=by
 have:=b.toNat_lt
 cases k <;> first | (cases hk; done) | exact IntWalk.i64_in _ (by omega) | exact IntWalk.u64_in _ (by omega) | exact IntWalk.i32_in _ (by omega) | exact IntWalk.u32_in _ (by omega) | exact IntWalk.i16_in _ (by omega) | exact IntWalk.u16_in _ (by omega)
def nZ (l:List UInt8):(lK l.toArray).size=l.length:=by simp [Y2]
def toList_mk (l:List UInt8):(lK l.toArray).toList=l:=by
 rw [ByteArray.toList_eq]
def tD (a b:List UInt8):((lK a.toArray).toList==(lK b.toArray).toList)=(a==b):=by rw [toList_mk,toList_mk]
def Km (a b:List UInt8):(!((lK a.toArray).toList==(lK b.toArray).toList))=(!(a==b)):=by rw [toList_mk,toList_mk]
def ahO {a b:List UInt8} (h:a.length+b.length≤9223372036854775807):(lK a.toArray).size+(lK b.toArray).size≤9223372036854775807:=by rw [nZ,nZ]; exact h
def ahP (a b:List UInt8):(lK a.toArray)++(lK b.toArray)=lK (a++b).toArray:=by
 apply ByteArray.ext; simp
def ahR {l:List UInt8} (h:l.length≤140737488355328):(lK l.toArray).size≤maxLen:=by rw [nZ]; unfold maxLen; omega
def Kn {l:List UInt8} {a b:Int} (h:0≤a∧a≤b∧b≤(l.length:Int)):a.toNat≤b.toNat:=by omega
def Ko {l:List UInt8} {a b:Int} (h:0≤a∧a≤b∧b≤(l.length:Int)):b.toNat≤(lK l.toArray).size:=by rw [nZ]; omega
abbrev akt (n:Int):AV:=.v (.int .i32 n)
abbrev aku (n:Int):AV:=.v (.int .u16 n)
abbrev akv (n:Int):AV:=.v (.int .u32 n)
abbrev akw (n:Int):AV:=.v (.int .u64 n)
section
variable {α:Type} {f:α→AV} {l l0:List α} {i:Int} {x v:α} {n:Nat}
def Fz.arr {H:Hp} (hf:∀n,fj (f n)=true):Fz H (.a (aU f l)) (.a (aU f l)):=Fz.dG (by simp [kb,hf])
def SB (hf:∀n d,er 1 d (f n)=f n) (d:Nat) (l:List α):aU (er 1 d) (aU f l)=aU f l:=by
 rw [List.map_map]; exact List.map_congr_left fun n _=>hf n d
def iw.RH (hf:∀n d,er 1 d (f n)=f n) {d:Nat}:iw (o_ d (.box (aU f l))) (.box (aU f l)):=by
 have:o_ d (.box (aU f l))=.box (aU f l):=congrArg Chunk.box (SB hf d l);rw [this]; exact .refl _
def iw.RI (hf:∀n d,er 1 d (f n)=f n) {d e:Nat}:iw (o_ e (o_ d (.box (aU f l)))) (.box (aU f l)):=by
 have:o_ d (.box (aU f l))=.box (aU f l):=congrArg Chunk.box (SB hf d l);rw [this]; exact .RH hf
end
def SH {id:Nat} {c:Chunk}:∀{H:Hp} {c0:Chunk},dI id H=some c0→dI id (fJ id c H)=some c
 | [],_,h=>by cases h
 | (i,d)::r,c0,h=>by
  simp only [dI] at h;cases hb:Nat.beq i id with
  | true=>simp only [fJ,hb,cond_true,dI]
  | false=>rw [hb] at h; simp only [fJ,hb,cond_false,dI]; exact SH h
def Pj {id:Nat} {c d:Chunk}:∀{H:Hp},fJ id d (fJ id c H)=fJ id d H
 | []=>rfl
 | (i,e)::r=>by
  cases hb:Nat.beq i id with
  | true=>simp only [fJ,hb,cond_true,Pj]
  | false=>simp only [fJ,hb,cond_false,Pj]
def af.ez {P:Program} {g:FuncId} {id:Nat} {xs ys:List AV} {st:ae} {c0 c:Chunk} {R:AV→Chunk→Prop} {k:AV→ae→Prop} (h:mr P g ys c R) (hc:dI id st.H=some c0) (hl:iw c0 c) (gU:AH c=true) (hle:xD id xs ys)
  (hk:∀r c',R r c'→k r ⟨st.f,fJ id c' st.H⟩):af P g xs st k:=by
 have h1:=af.chg (st:=⟨st.f,fJ id c st.H⟩) (k:=fun r aq=>∃c',R r c'∧aq=⟨st.f,fJ id c' (fJ id c st.H)⟩) h (SH hc) gU hle (fun r c' hr=>⟨c',hr,rfl⟩);have oD:=eX hc;refine ⟨h1.1,fun w F β vs hI hs hv=>?_⟩
 have lV:Inv w F β (fJ id c st.H):=by
  refine ⟨hI.cC,fun i d hm=>?_,by rw [zS]; exact hI.keys,fun b ⟨i,d,hm,hb⟩=>?_,fun i d i' d' b hm bV hb aK=>?_,hI.fh⟩
  ·rcases mY hm with ⟨rfl,rfl,_⟩ | ⟨_,h2⟩
   ·exact hl.holds (hI.holds _ _ oD)
   ·exact hI.holds i d h2
  ·rcases mY hm with ⟨rfl,_,d',h2⟩ | ⟨_,h2⟩ <;> exact hI.apart b ⟨i,_,h2,hb⟩
  ·have hx:∃c,(i,c)∈st.H:=by rcases mY hm with ⟨_,_,c2,h2⟩ | ⟨_,h2⟩ <;> exact ⟨_,h2⟩
   have hy:∃c,(i',c)∈st.H:=by rcases mY bV with ⟨_,_,c2,h2⟩ | ⟨_,h2⟩ <;> exact ⟨_,h2⟩
   obtain ⟨c2,h2⟩:=hx;obtain ⟨c3,h3⟩:=hy;exact hI.eA i c2 i' c3 b h2 h3 hb aK
 refine (h1.2 w F β vs lV hs hv).mono ?_;rintro e w' ⟨v,rfl,r,aq,F',av,⟨c',hr,rfl⟩,fy,he⟩;have Bx:fJ id c' (fJ id c st.H)=fJ id c' st.H:=Pj;rw [Bx] at he
 have du:∀b,bD β (fJ id c st.H) b→bD β st.H b:=by
  rintro b ⟨i,d,hm,hb⟩
  rcases mY hm with ⟨rfl,_,d',h2⟩ | ⟨_,h2⟩
  ·exact ⟨i,d',h2,hb⟩
  ·exact ⟨i,d,h2,hb⟩
 exact ⟨v,rfl,r,_,F',av,hk r c' hr,fy,he.os,he.tape,he.output,he.size,fun b hb bw=>he.block b hb fun ho=>bw (du b ho),he.mono,fun b hb=>(he.new b hb).imp (fun h=>h) fun h=>h.imp (fun h=>h) (du b),fun b hb=>(he.owned b hb).imp (fun h=>h) (du b),he.keep,he.inv,he.gp⟩
def aeg {l:List UInt8} {pos:Nat} {ρ:Type} {X Y:Option ρ} {r:ρ} {A B:Prop} (h:(if decide (pos<l.length)=true then X else Y)=some r) (y:X=some r→A) (n:Y=some r→B) :
  (pos<(lK l.toArray).size→A)∧(¬pos<(lK l.toArray).size→B):=by
 rw [nZ];exact ⟨fun hp=>y (by simpa [hp] using h),fun hp=>n (by simpa [hp] using h)⟩
end
section
open Go.RowKit
variable [M:bK] [G:cL] [R:dK]
section
variable {P:Program}
def eU.Vd {t:TypeId} {k:IntKind} {xs:List AV} (h:eU P t xs) (hu:P.underlying t=some (.int k)):∃n,xs=[.v (.int k n)]∧(Lit.int k n).wf=true:=by
 cases h with
 | int h hn=>rw [hu] at h; cases h; exact ⟨_,rfl,hn⟩
 | bool h=>rw [hu] at h; cases h
 | str h=>rw [hu] at h; cases h
 | slice h=>rw [hu] at h; cases h
 | struct h=>rw [hu] at h; cases h
 | arr h=>rw [hu] at h; cases h
def eU.ahQ {t:TypeId} {xs:List AV} (h:eU P t xs) (hu:P.underlying t=some .string):∃l:List UInt8,xs=[vs l]∧l.length≤maxLen:=by
 cases h with
 | str h hs =>
  rename_i s;obtain ⟨⟨l⟩⟩:=s;exact ⟨l,rfl,by simpa [Y2] using hs⟩
 | bool h=>rw [hu] at h; cases h
 | int h=>rw [hu] at h; cases h
 | slice h=>rw [hu] at h; cases h
 | struct h=>rw [hu] at h; cases h
 | arr h=>rw [hu] at h; cases h
def eU.Xh {t e:TypeId} {xs:List AV} (h:eU P t xs) (hu:P.underlying t=some (.slice e)):∃rows,xs=[.s rows]∧rows.length≤maxLen∧∀r,r∈rows→eU P e r:=by
 cases h with
 | slice h hl hk hr=>rw [hu] at h; cases h; exact ⟨_,rfl,hl,hr⟩
 | bool h=>rw [hu] at h; cases h
 | int h=>rw [hu] at h; cases h
 | str h=>rw [hu] at h; cases h
 | struct h=>rw [hu] at h; cases h
 | arr h=>rw [hu] at h; cases h
def eU.ahU {t:TypeId} {fs:Array Field} {xs:List AV} (h:eU P t xs) (hu:P.underlying t=some (.struct fs)):mi P (fs.toList.map (·.type)) xs:=by
 cases h with
 | struct h hf=>rw [hu] at h; cases h; exact hf
 | arr h=>rw [hu] at h; cases h
 | bool h=>rw [hu] at h; cases h
 | int h=>rw [hu] at h; cases h
 | str h=>rw [hu] at h; cases h
 | slice h=>rw [hu] at h; cases h
def eU.fields {t:TypeId} {ts:List TypeId} {xs:List AV} (h:eU P t xs) (hu:(P.underlying t).map (fun d=>match d with | .struct fs=>some (fs.toList.map (·.type)) | _=>none)=some (some ts)):mi P ts xs:=by
 cases hd:P.underlying t with
 | none=>rw [hd] at hu; cases hu
 | some d =>
  rw [hd] at hu
  cases d <;> first | cases hu; done | skip
  rename_i fs;simp only [Option.map_some,Option.some.injEq] at hu;rw [←hu];exact h.ahU hd
def mi.cons_inv {t:TypeId} {ts:List TypeId} {xs:List AV} (h:mi P (t::ts) xs):∃a b,xs=a++b∧eU P t a∧mi P ts b:=by
 cases h with
 | cons h hs=>exact ⟨_,_,rfl,h,hs⟩
def mi.Ou {xs:List AV} (h:mi P [] xs):xs=[]:=by cases h; rfl
def oi.cons_inv {t:TypeId} {ts:List TypeId} {xs:List AV} (h:oi P (t::ts) xs):∃x ys,xs=x::ys∧qJ P t x∧oi P ts ys:=by
 cases h with
 | cons h hs=>exact ⟨_,_,rfl,h,hs⟩
def oi.Ou {xs:List AV} (h:oi P [] xs):xs=[]:=by cases h; rfl
def qJ.one {t:TypeId} {x:AV} (h:qJ P t x) (hu:(match P.underlying t with | some (.struct _)=>false | some (.array _ _)=>false | some _=>true | none=>false)=true):eU P t [x]:=by
 unfold qJ at h;cases hd:P.underlying t with
 | none=>rw [hd] at hu; cases hu
 | some d =>
  rw [hd] at hu h
  cases d <;> first | (cases hu; done) | exact h
def qJ.agg {t:TypeId} {x:AV} (h:qJ P t x) (hu:(match P.underlying t with | some (.struct _)=>true | some (.array _ _)=>true | _=>false)=true):∃cs,x=.a cs∧eU P t cs:=by
 unfold qJ at h;cases hd:P.underlying t with
 | none=>rw [hd] at hu; cases hu
 | some d =>
  rw [hd] at hu h
  cases d <;> first | (cases hu; done) | exact h
def O2 {α:Type} {c:α→List AV} {ok:α→Prop}:∀{rows:List (List AV)},(∀r,r∈rows→∃x,r=c x∧ok x)→∃l:List α,rows=aU c l∧∀x,x∈l→ok x
 | [],_=>⟨[],rfl,fun x hx=>by cases hx⟩
 | r::rs,h=>by
  obtain ⟨x,rfl,hx⟩:=h r (by simp);obtain ⟨l,rfl,hl⟩:=O2 (rows:=rs) fun r hr=>h r (by simp [hr]);exact ⟨x::l,rfl,fun y hy=>(List.mem_cons.1 hy).elim (fun e=>e▸hx) (hl y)⟩
def wf_i64 {n:Int} (h:(Lit.int .i64 n).wf=true):Θ n:=by
 have:IntKind.i64.min≤n∧n≤IntKind.i64.max:=by simpa [Lit.wf] using h
 exact this
def wf_u8 {n:Int} (h:(Lit.int .u8 n).wf=true):n=((k_ n).toNat:Int):=by
 have h0:IntKind.u8.min≤n∧n≤IntKind.u8.max:=by simpa [Lit.wf] using h
 have h1:(0:Int)≤n∧n≤255:=h0;rw [XN]; omega
end
end
section
open Go.Sort
def Below.abn {w w':World} (h:@Below bK.yes w.heap.size w w'):∃q Ji,w'=grow (w.drewN q) Ji:=by
 refine ⟨w'.drawn-w.drawn,w'.heap.extract w.heap.size w'.heap.size,?_⟩;unfold World.drewN;obtain ⟨Ig,ak_,Sn,Ji,ak5⟩:=w';have h1:=@Below.os bK.yes _ _ _ h; have h2:=(@Below.tape bK.yes _ _ _ h).1; have h3:=(@Below.tape bK.yes _ _ _ h).2 trivial; have h4:=@Below.output bK.yes _ _ _ h; have h5:=@Below.size bK.yes _ _ _ h; have h6:=@Below.block bK.yes _ _ _ h;dsimp only at h1 h2 h3 h4 h5 h6;subst h1 h2 h4;unfold grow
 have e1:w.drawn+(Sn-w.drawn)=Sn:=by omega
 have e2:Ig=w.heap++Ig.extract w.heap.size Ig.size:=by
  apply Array.ext_getElem?;intro i;by_cases hi:i<w.heap.size
  ·rw [Array.getElem?_append_left hi]; exact h6 i hi
  ·rw [Array.getElem?_append_right (by omega),Array.getElem?_extract];by_cases bm:i<Ig.size
   ·rw [if_pos (by omega)]; congr 1; omega
   ·rw [if_neg (by omega),Array.getElem?_eq_none (by omega)]
 dsimp only;rw [e1,←e2]
end
section
open Go.RowKit Go.Sort Go.Proofs
variable [M:bK] [G:cL] [R:dK]
section
variable {P:Program}
def ala:List AV→List Value:=aU fun a=>match a with | .v x=>x | _=>undef
def akx (l:List AV):Bool:=l.all fun a=>match a with | .v x=>x.oneCell' | _=>false
def G4 (P:Program) (f:Nat) (k:Nat):Prop :=
 (∀(p:Option Addr) (cap:Nat) (fv:Value) (w:World),Calls P f #[.slice p 0 cap,fv] w fun e w'=>e=.returned (.tuple #[])∧w'=w) ∧
 ∀(α:Type) [Inhabited α] (enc:α→List Value),(∀x,(enc x).length=k)→(∀x,∀v∈enc x,v.oneCell'=true)→∀(cf:α→α→Int),SWO (fun x y=>decide (cf x y<0)) →
  ∀(g:Nat) (cb:Array Value) (eV off cap:Nat) (d:Array α) (w:World),(∀args w,(callFunc g args).run P w=.ok (.enter g args) w) →
  (∀(m:Nat) (os:Array Obj) (dk:Array α),dk.size=d.size→∀x y:α,
   Calls P g (#[.agg (enc x).toArray,.agg (enc y).toArray]++cb) (sortWorldK enc k w eV off m dk os) fun e w'=>e=.returned (.int .i64 (cf x y))∧∃q Ji,w'=grow ((sortWorldK enc k w eV off m dk os).drewN q) Ji) →
  HoldsK enc k w eV off d→eV<w.heap.size→d.size<4611686018427387904 →
  Calls P f #[.slice (some ⟨eV,off,none⟩) d.size cap,.func (.func g) #[] cb] w fun e w' =>
   e=.returned (.tuple #[])∧∃n os,w'=sortWorldK enc k w eV off n (pdq (fun x y=>decide (cf x y<0)) d 0 d.size (Lib.bitLen d.size) true true) os
def RI {vs:Array Value} (h:vs.size=2):vs=#[vs.getD 0 undef,vs.getD 1 undef]:=by
 apply Array.ext
 ·simpa using h
 ·intro i h1 h2
  match i,h1 with
  | 0,h1=>simp [Array.getD,h1]
  | 1,h1=>simp [Array.getD,h1]
  | n+2,h1=>exact absurd h1 (by omega)
def abW {α:Type} [Inhabited α] {enc:α→List Value} {k:Nat} {w:World} {b off n:Nat} {d:Array α} {os:Array Obj} {cur:Array Value} {E:Nat} {fr:Nat×Nat}
  (h:w.heap[b]?=some (.cells cur E fr)):(sortWorldK enc k w b off n d os).heap[b]?=some (.cells (putCells id off (flatK enc k d) cur) E fr):=by
 have Φ:b<w.heap.size:=(Array.getElem?_eq_some_iff.1 h).1;unfold sortWorldK;rw [heap_grow_old _ _ (by simpa [putRowK,putRow,mapBlock,GQ] using Φ)];simp [putRowK,putRow,mapBlock,GQ,pQ,h,onCells]
def TV {α:Type} [Inhabited α] {enc:α→List Value} {k:Nat} {w:World} {b off n:Nat} {d:Array α} {os:Array Obj} {c:Nat} (hc:c≠b) (hl:c<w.heap.size) :
  (sortWorldK enc k w b off n d os).heap[c]?=w.heap[c]?:=by
 unfold sortWorldK;rw [heap_grow_old _ _ (by simpa [putRowK,putRow,mapBlock,GQ] using hl)];simp [putRowK,putRow,mapBlock,GQ,pQ,Ne.symm hc]
def Xg {α:Type} [Inhabited α] {enc:α→List Value} {k:Nat} {w:World} {b off n:Nat} {d:Array α} {os:Array Obj}:w.heap.size≤(sortWorldK enc k w b off n d os).heap.size:=by
 unfold sortWorldK;simp [grow,putRowK,putRow,mapBlock,GQ]
end
end
section
open Go.RowKit Go.Sort Go.Proofs Go.Shelf
variable [M:bK] [G:cL] [R:dK]
def Xt {P:Program} {ρ:Ren} {k:Nat} (L:SlLaysF0.n6 P ρ) (aE:∀w,(isAgg (ρ.t 24)).run P w=.ok true w) (zE:∀w,(Go.sizeOf (ρ.t 24)).run P w=.ok k w):G4 P (ρ.f 6) k :=
 ⟨fun p cap fv w=>AnyF.slices_SortFunc_none L p cap fv w,fun _ _ enc hk h1 cf hO g cb eV off cap d w eg MM hH hblk aZ =>
  AnyQ.slices_SortFunc_eq L k aE zE enc hk h1 cf hO g cb eV off cap d w eg MM hH hblk aZ⟩
end
section
open Go.RowKit
variable [M:bK] [G:cL] [R:dK]
section
variable {P:Program}
def Le.z:Le .z (.s []):=fun _ _ _ _ h=>by obtain ⟨a,rfl⟩:=h.Ah; exact .i .s0
def Le.χ {x:AV}:Le x .χ:=fun _ _ _ _ _=>.χ
def Fz.z {H:Hp}:Fz H .z (.s []):=fun _ _ _ _ _ hr=>by obtain ⟨a,rfl⟩:=hr.Ah; exact .s0
def R4 {α:Type} {f:α→List AV} {z:α} (l:List α) (d:Nat):(l.map f).take d++ic ((l.map f).length-d) (f z)=(l.take d++ic (l.length-d) z).map f:=by
 rw [List.map_append,List.map_replicate,List.map_take,ay]
def aka {F:Fence} {m:Nat} {c:Code} {Q:Exit→Act→World→Prop} {a:Act} {w:World} (h:c.wpIn F m P (Exit.noGoto Q) a w):(Code.scope c).wpIn F m P Q a w:=by
 intro b k cs EC hb hr;have h0:(lone (b.atR a (.code (.scope c)::k)) cs w).fenced P F:=fenced_calm hb hr rfl;have s0:Go.step P (lone (b.atR a (.code (.scope c)::k)) cs w)=.next (lone (b.atR a (.code c::.inScope c::k)) cs w):=step_lone_go (by simp [stepG,stepG.exec,Frame.atR]);obtain ⟨e,Di,Gt,hq,vW⟩:=h b (.inScope c::k) cs EC hb hr;cases e with
 | normal=>exact ⟨.normal,Di,Gt,hq,.head h0 s0 (StepsIn.trans vW (.one (fenced_calm hb hr rfl) (step_lone_go (by simp [stepG,stepG.exec,Frame.atR]))))⟩
 | exit id =>
  have hx:exitTo id (.inScope c::k)=exitTo id k:=by simp [exitTo]
  exact ⟨.exit id,Di,Gt,hq,fun k' hk=>.head h0 s0 (vW.1 k' (by rw [hx]; exact hk)),fun cK hk=>let ⟨k₁,h1,h2⟩:=vW.2 cK (by rw [hx]; exact hk); ⟨k₁,h1,.head h0 s0 h2⟩⟩
 | goto l=>exact hq.elim
 | ret=>exact ⟨_,Di,Gt,hq,.of_steps (.one h0 s0) vW⟩
 | panic ch=>exact ⟨_,Di,Gt,hq,.of_steps (.one h0 s0) vW⟩
 | outgrown=>exact ⟨_,Di,Gt,hq,.of_steps (.one h0 s0) vW⟩
def ng (Q:Exit→ae→Prop):Exit→ae→Prop:=fun e s=>match e with
 | .goto _=>False
 | e=>Q e s
def Ok.scope {n:Nat} {c:Code} {st:ae} {Q:Exit→ae→Prop} (h:Ok P n c st (ng Q)):Ok P n (.scope c) st Q:=⟨fun C hn a w hr=>by
 refine aka (wpIn_mono (h.h C hn a w hr) ?_);rintro e a' w' ⟨aq,cK,hq⟩;cases e with
 | goto l=>exact hq.elim
 | _=>exact ⟨aq,cK,hq⟩⟩
end
end
section
open Go.RowKit
variable [M:bK] [G:cL] [R:dK]
section
variable {P:Program}
def agl {α:Type} {f:α→List AV} (h:∀x,(f x).all uP=true) (l:List α):∀r,r∈l.map f→r.all uP=true:=fun r hr=>by
 obtain ⟨x,_,rfl⟩:=List.mem_map.1 hr;exact h x
def aew {w:World} {F F':Nat→Prop} {β:Nat→Value} {id E K:Nat} {rows:List (List AV)} (hp:∀r,r∈rows→r.all uP=true) (h:Chunk.holds w F' β id (.own E K rows)):Chunk.holds w F β id (.own E K rows):=by
 rcases h with h | ⟨g,cap,cur,hv,hc,hg,hn,hm,hs,hk,hr⟩
 ·exact .inl h
 ·refine .inr ⟨g,cap,cur,hv,hc,hg,hn,hm,hs,hk,fun i j hi hj=>⟨(hr i j hi hj).1,Jw ?_ (hr i j hi hj).2⟩⟩;have jy:=hp rows[i] (eG hi)
  have e1:rows.getD i []=rows[i]:=by simp [List.getD,hi]
  have hlen:j<(rows[i]).length:=by have:=hk i hi; rw [e1] at this; omega
  rw [e1];exact List.all_eq_true.1 jy _ (by rw [List.getD_eq_getElem?_getD,List.getElem?_eq_getElem hlen]; exact eG _)
def af.aev {g:FuncId} {xs ys:List AV} {st:ae} {E K D:Nat} {rows:List (List AV)} {k:AV→ae→Prop} (h:i_ P g ys E K rows) (hz:oj st.H xs ys) (hp:∀r,r∈rows→r.all uP=true) (hD:Nat.blt D 1000=true)
  (hk:k (.o D) (gH st D (.own E K rows))):af P g xs st k:=by
 obtain ⟨hl,hz⟩:=hz.spec;refine ⟨h.1,fun w F β vs hI hs hv=>?_⟩;have lV:Inv w (fun b=>F b∨bD β st.H b) β [] :=
  ⟨fun b hb=>hb.elim (hI.cC b) hI.fI,fun _ _ hm=>(eH hm).elim,List.nodup_nil,fun _ ⟨_,_,hm,_⟩=>(eH hm).elim,fun _ _ _ _ _ hm=>(eH hm).elim,hI.fh.more fun _ h=>.inl h⟩
 refine (h.2 w _ β vs lV (by omega) fun i hi=>.i (hz i (by omega) _ _ _ _ hI (hv i (by omega)))).mono ?_;rintro e w' ⟨v,rfl,hb,F',h1,h2,h3,⟨a,m,c,rfl⟩,h4⟩;exact ⟨_,rfl,.o D,_,F,_,hk,.o (by simp),HI (by simpa using hD) hI hb (fun _ h=>h) (fun _ h=>.inl h) (fun b aK=>⟨(h4 b aK).1,fun hF=>absurd (hI.cC b hF) (Nat.not_lt.2 (h4 b aK).1)⟩) (aew hp (Jj h3 _ _ (by simp)))⟩
end
end
section
def Ml {α:Type} {l:List α} {n:Nat} {x:α} (h:l[n]?=some x):n<l.length∧x∈l:=⟨(List.getElem?_eq_some_iff.1 h).1,List.mem_of_getElem? h⟩
def s4 {α:Type} {l:List α} {x:α} (h:x∈l):∃n:Nat,l[n]?=some x:=List.mem_iff_getElem?.1 h
def ε.found {ρ:Type} {n:Nat} {b:Bool} {R:Prop} {Q:ρ→Prop} {x:Option ρ} (hn:n<1000000000000) (hb:b=true↔R) (hx:R→ε x Q) :
  ε (if b=true then Cat.out x else Cat.Ω (Θ ((n:Int)+1)) (some (.inl ((n:Int)+1)))) (fun y=>(R∧∃r,y=.inr r∧Q r)∨(¬R∧y=.inl ((n:Int)+1))) :=
 ε.ite (fun h=>by obtain ⟨r,rfl,hq⟩:=hx (hb.1 h); exact ⟨_,rfl,.inl ⟨hb.1 h,r,rfl,hq⟩⟩) (fun h=>ε.Ω (by unfold Θ; omega) ⟨_,rfl,.inr ⟨fun hr=>h (hb.2 hr),rfl⟩⟩)
def ε.done {σ ρ:Type} {Q:ρ→Prop} {x:Option ρ} (hx:ε x Q):ε (Cat.out (σ:=σ) x) (fun y=>∃r,y=.inr r∧Q r):=by
 obtain ⟨r,rfl,hq⟩:=hx; exact ⟨_,rfl,r,rfl,hq⟩
def ε.cond {α:Type} {p:Prop} [Decidable p] {x y:Option α} {Q:α→Prop} (hp:p) (h:ε x Q):ε (if p then x else y) Q:=by rw [if_pos hp]; exact h
def ε.cV {α:Type} {p:Prop} [Decidable p] {x y:Option α} {Q:α→Prop} (hp:¬p) (h:ε y Q):ε (if p then x else y) Q:=by rw [if_neg hp]; exact h
def cM.ex {α:Type} {l:List α} {R:α→Prop} {x:α} (hx:x∈l) (h:R x):cM (∃s,s∈l∧R s) true:=⟨fun _=>⟨x,hx,h⟩,fun _=>rfl⟩
def cM.yes {P:Prop} (h:P):cM P true:=⟨fun _=>h,fun _=>rfl⟩
def cM.no {P:Prop} (h:¬P):cM P false:=⟨fun e=>(by cases e),fun p=>(h p).elim⟩
def cM.not {P:Prop} {b:Bool} (h:cM P b):cM (¬P) (!b):=by
 unfold cM at *; cases b <;> simp_all
def cM.eq {P Q:Prop} {a b:Bool} (h:cM P a) (h':cM Q b) (e:P↔Q):a=b:=by
 unfold cM at *; cases a <;> cases b <;> simp_all
def cM.beq {P Q:Prop} {a b:Bool} (h:cM P a) (h':cM Q b):cM (P↔Q) (a==b):=by
 unfold cM at *; cases a <;> cases b <;> simp_all
def cM.dec {P:Prop} [Decidable P]:cM P (decide P):=decide_eq_true_iff
end
end Go.Cat
