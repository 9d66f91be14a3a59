/- The logic that the walks are in, piece P5. No condition. -/
import Derived.Test.YthkdflbnmbnbaaaGreatXShotRightCatP4
import Derived.Laws.Strings
import Derived.Sort.Grow
import Derived.Deep.Draws
import Derived.Test.YthkdflbnmbnbaaaGreatXShotRightCatP1
import Derived.Shelf.GgSortFunc.InsertionK
import Derived.Shelf.SlSortCmp.NoneTotal
import Derived.Scope
set_option linter.all false
namespace Go.Cat
open Go.RowKit
variable [M:Mono] [R:Rnds]
abbrev vu (b:UInt8):AV:=.v (.int .u8 (b.toNat:Int))
abbrev vs (l:List UInt8):AV:=.v (.string ⟨l.toArray⟩)
def cU8 (b:UInt8):List AV:=[vu b]
def cB (b:Bool):List AV:=[vb b]
def cStr (l:List UInt8):List AV:=[vs l]
def c_u16 (n:Int):List AV:=[.v (.int .u16 n)]
def c_u32 (n:Int):List AV:=[.v (.int .u32 n)]
def c_u64 (n:Int):List AV:=[.v (.int .u64 n)]
theorem iteT {ρ:Type} {X Y:Option ρ} {r:ρ} (h:(if true=true then X else Y)=some r):X=some r:=by simpa using h
theorem iteF {ρ:Type} {X Y:Option ρ} {r:ρ} (h:(if false=true then X else Y)=some r):Y=some r:=by simpa using h
theorem out_ret {σ ρ:Type} {x:Option ρ} {y:σ⊕ρ} {r:ρ} (h:out x=some y) (hx:∀r',y=.inr r'→r'=r):x=some r:=by
 obtain ⟨r',h1,h2⟩:=out_some h
 rw [h1,hx r' h2]
section
variable {α:Type} {f:α→List AV} {l:List α}
theorem idx_row {i:Int} {x:α} (h:idx l i=some x):(List.map f l)[i.toNat]?=some (f x):=by rw [List.getElem?_map,idx_get h]; rfl
theorem rowsK {K:Nat} (h:∀x,(f x).length=K) (l:List α):∀i,i < (List.map f l).length→((List.map f l).getD i []).length=K:=fun i hi=>by
 rw [List.length_map] at hi
 simp [List.getD,hi,h]
theorem app_b1 {l':List α} {b:Nat} (h:l'.length * b≤140737488355328):(List.map f l').length * b≤140737488355328:=by rwa [List.length_map]
theorem app_b2 {l':List α} {b:Nat} (h:(l.length+l'.length) * b≤140737488355328):((List.map f l).length+(List.map f l').length) * b≤140737488355328:=by rwa [List.length_map,List.length_map]
theorem sl_nat {i:Int} (h:0≤i):i=(i.toNat:Int):=by omega
theorem sl_len {i:Int} (h:0≤i∧i≤(l.length:Int)):i.toNat≤(List.map f l).length:=by rw [List.length_map]; omega
theorem sl_take (f:α→List AV) (l:List α) (n:Nat):((List.map f l).take n).drop 0=List.map f (l.take n):=by simp [List.map_take]
theorem mk_nat {n:Int} {b:Nat} (h:0≤n∧n.toNat * b≤140737488355328):n=(n.toNat:Int):=by omega
theorem mk_le {n:Int} {b:Nat} (hb:0 < b) (h:0≤n∧n.toNat * b≤140737488355328):n.toNat≤140737488355328:=Nat.le_trans (Nat.le_mul_of_pos_right _ hb) h.2
end
theorem wrap_of_u8 {k:IntKind} (hk:(match k with | .i64 | .u64 | .i32 | .u32 | .i16 | .u16=>true | _=>false)=true) (b:UInt8):k.wrap (b.toNat:Int)=(b.toNat:Int):=by
 have:=b.toNat_lt
 cases k <;> first | (cases hk; done) | exact IntWalk.i64_in _ (by omega) | exact IntWalk.u64_in _ (by omega) | exact IntWalk.i32_in _ (by omega) | exact IntWalk.u32_in _ (by omega) | exact IntWalk.i16_in _ (by omega) | exact IntWalk.u16_in _ (by omega)
theorem str_size (l:List UInt8):(ByteArray.mk l.toArray).size=l.length:=by simp [ByteArray.size]
theorem toList_mk (l:List UInt8):(ByteArray.mk l.toArray).toList=l:=by
 rw [ByteArray.toList_eq]
theorem str_eql (a b:List UInt8):((ByteArray.mk a.toArray).toList == (ByteArray.mk b.toArray).toList)=(a == b):=by rw [toList_mk,toList_mk]
theorem str_neq (a b:List UInt8):(!((ByteArray.mk a.toArray).toList == (ByteArray.mk b.toArray).toList))=(!(a == b)):=by rw [toList_mk,toList_mk]
theorem str_gtr (a b:List UInt8):(!(Op.bytesLess (ByteArray.mk a.toArray).toList (ByteArray.mk b.toArray).toList||(ByteArray.mk a.toArray).toList == (ByteArray.mk b.toArray).toList))=(!(Op.bytesLess a b||a == b)):=by rw [toList_mk,toList_mk]
theorem str_geq (a b:List UInt8):(!Op.bytesLess (ByteArray.mk a.toArray).toList (ByteArray.mk b.toArray).toList)=(!Op.bytesLess a b):=by rw [toList_mk,toList_mk]
abbrev a_i32 (n:Int):AV:=.v (.int .i32 n)
abbrev a_u16 (n:Int):AV:=.v (.int .u16 n)
abbrev a_u32 (n:Int):AV:=.v (.int .u32 n)
abbrev a_u64 (n:Int):AV:=.v (.int .u64 n)
section
variable {α:Type} {f:α→AV} {l l0:List α} {i:Int} {x v:α} {n:Nat}
theorem Fz.arr {H:Hp} (hf:∀n,imm0 (f n)=true):Fz H (.a (List.map f l)) (.a (List.map f l)):=Fz.imm (by simp [imm1,hf])
theorem er_map (hf:∀n d,er 1 d (f n)=f n) (d:Nat) (l:List α):List.map (er 1 d) (List.map f l)=List.map f l:=by
 rw [List.map_map]; exact List.map_congr_left fun n _=>hf n d
theorem ChLe.arr1 (hf:∀n d,er 1 d (f n)=f n) {d:Nat}:ChLe (erC d (.box (List.map f l))) (.box (List.map f l)):=by
 have:erC d (.box (List.map f l))=.box (List.map f l):=congrArg Chunk.box (er_map hf d l)
 rw [this]; exact .refl _
theorem ChLe.arr2 (hf:∀n d,er 1 d (f n)=f n) {d e:Nat}:ChLe (erC e (erC d (.box (List.map f l)))) (.box (List.map f l)):=by
 have:erC d (.box (List.map f l))=.box (List.map f l):=congrArg Chunk.box (er_map hf d l)
 rw [this]; exact .arr1 hf
end
theorem b8_rem (a:UInt8) (b:Int):(a.toNat:Int).tmod b=((toU8 (Int.tmod (a.toNat:Int) b)).toNat:Int):=by
 rw [toU8_toNat]
 have h1:0≤(a.toNat:Int).tmod b:=Int.tmod_nonneg _ (by omega)
 have h2:(a.toNat:Int).tmod b≤a.toNat:=by
  have:=Int.natAbs_tmod (a.toNat:Int) b
  have h3:((a.toNat:Int).natAbs % b.natAbs)≤(a.toNat:Int).natAbs:=Nat.mod_le _ _
  omega
 have:=a.toNat_lt
 omega
theorem findC_set {id:Nat} {c:Chunk}:∀{H:Hp} {c0:Chunk},findC id H=some c0→findC id (setC id c H)=some c
 | [],_,h=>by cases h
 | (i,d)::r,c0,h=>by
  simp only [findC] at h
  cases hb:Nat.beq i id with
  | true=>simp only [setC,hb,cond_true,findC]
  | false=>rw [hb] at h; simp only [setC,hb,cond_false,findC]; exact findC_set h
theorem setC_setC {id:Nat} {c d:Chunk}:∀{H:Hp},setC id d (setC id c H)=setC id d H
 | []=>rfl
 | (i,e)::r=>by
  cases hb:Nat.beq i id with
  | true=>simp only [setC,hb,cond_true,setC_setC]
  | false=>simp only [setC,hb,cond_false,setC_setC]
theorem CallOk.chgLe {P:Program} {g:FuncId} {id:Nat} {xs ys:List AV} {st:ASt} {c0 c:Chunk} {R:AV→Chunk→Prop} {k:AV→ASt→Prop} (h:PChg P g ys c R) (hc:findC id st.H=some c0) (hl:ChLe c0 c) (himm:chunkImm c=true) (hle:LrL id xs ys)
  (hk:∀r c',R r c'→k r ⟨st.f,setC id c' st.H⟩):CallOk P g xs st k:=by
 have h1:=CallOk.chg (st:=⟨st.f,setC id c st.H⟩) (k:=fun r st'=>∃c',R r c'∧st'=⟨st.f,setC id c' (setC id c st.H)⟩) h (findC_set hc) himm hle (fun r c' hr=>⟨c',hr,rfl⟩)
 have hm0:=findC_mem hc
 refine ⟨h1.1,fun w F β vs hI hs hv=>?_⟩
 have hI':Inv w F β (setC id c st.H):=by
  refine ⟨hI.fsize,fun i d hm=>?_,by rw [setC_keys]; exact hI.keys,fun b ⟨i,d,hm,hb⟩=>?_,fun i d i' d' b hm hm' hb hb'=>?_⟩
  ·rcases setC_mem hm with ⟨rfl,rfl,_⟩ | ⟨_,h2⟩
   ·exact hl.holds (hI.holds _ _ hm0)
   ·exact hI.holds i d h2
  ·rcases setC_mem hm with ⟨rfl,_,d',h2⟩ | ⟨_,h2⟩ <;> exact hI.apart b ⟨i,_,h2,hb⟩
  ·have hx:∃c,(i,c)∈st.H:=by rcases setC_mem hm with ⟨_,_,c2,h2⟩ | ⟨_,h2⟩ <;> exact ⟨_,h2⟩
   have hy:∃c,(i',c)∈st.H:=by rcases setC_mem hm' with ⟨_,_,c2,h2⟩ | ⟨_,h2⟩ <;> exact ⟨_,h2⟩
   obtain ⟨c2,h2⟩:=hx
   obtain ⟨c3,h3⟩:=hy
   exact hI.disj i c2 i' c3 b h2 h3 hb hb'
 refine (h1.2 w F β vs hI' hs hv).mono ?_
 rintro e w' ⟨v,rfl,r,st',F',β',⟨c',hr,rfl⟩,hrd,he⟩
 have hset:setC id c' (setC id c st.H)=setC id c' st.H:=setC_setC
 rw [hset] at he
 have hown:∀b,Owned β (setC id c st.H) b→Owned β st.H b:=by
  rintro b ⟨i,d,hm,hb⟩
  rcases setC_mem hm with ⟨rfl,_,d',h2⟩ | ⟨_,h2⟩
  ·exact ⟨i,d',h2,hb⟩
  ·exact ⟨i,d,h2,hb⟩
 exact ⟨v,rfl,r,_,F',β',hk r c' hr,hrd,he.os,he.tape,he.output,he.size,fun b hb hno=>he.block b hb fun ho=>hno (hown b ho),he.mono,fun b hb=>(he.new b hb).imp (fun h=>h) fun h=>h.imp (fun h=>h) (hown b),fun b hb=>(he.owned b hb).imp (fun h=>h) (hown b),he.keep,he.inv,he.lab⟩
theorem nx_ite {l:List UInt8} {pos:Nat} {ρ:Type} {X Y:Option ρ} {r:ρ} {A B:Prop} (h:(if decide (pos < l.length)=true then X else Y)=some r) (y:X=some r→A) (n:Y=some r→B) :
  (pos < (ByteArray.mk l.toArray).size→A)∧(¬pos < (ByteArray.mk l.toArray).size→B):=by
 rw [str_size]
 exact ⟨fun hp=>y (by simpa [hp] using h),fun hp=>n (by simpa [hp] using h)⟩
end Go.Cat
set_option linter.all false
namespace Go.Cat
open Go.RowKit
variable [M:Mono] [R:Rnds]
section
variable {P:Program}
theorem Dat.int_inv {t:TypeId} {k:IntKind} {xs:List AV} (h:Dat P t xs) (hu:P.underlying t=some (.int k)):∃n,xs=[.v (.int k n)]∧(Lit.int k n).wf=true:=by
 cases h with
 | int h hn=>rw [hu] at h; cases h; exact ⟨_,rfl,hn⟩
 | bool h=>rw [hu] at h; cases h
 | str h=>rw [hu] at h; cases h
 | slice h=>rw [hu] at h; cases h
 | struct h=>rw [hu] at h; cases h
 | arr h=>rw [hu] at h; cases h
theorem Dat.slice_inv {t e:TypeId} {xs:List AV} (h:Dat P t xs) (hu:P.underlying t=some (.slice e)):∃rows,xs=[.s rows]∧rows.length≤maxLen∧∀r,r∈rows→Dat P e r:=by
 cases h with
 | slice h hl hk hr=>rw [hu] at h; cases h; exact ⟨_,rfl,hl,hr⟩
 | bool h=>rw [hu] at h; cases h
 | int h=>rw [hu] at h; cases h
 | str h=>rw [hu] at h; cases h
 | struct h=>rw [hu] at h; cases h
 | arr h=>rw [hu] at h; cases h
theorem Dat.struct_inv {t:TypeId} {fs:Array Field} {xs:List AV} (h:Dat P t xs) (hu:P.underlying t=some (.struct fs)):DatF P (fs.toList.map (·.type)) xs:=by
 cases h with
 | struct h hf=>rw [hu] at h; cases h; exact hf
 | arr h=>rw [hu] at h; cases h
 | bool h=>rw [hu] at h; cases h
 | int h=>rw [hu] at h; cases h
 | str h=>rw [hu] at h; cases h
 | slice h=>rw [hu] at h; cases h
theorem Dat.fields {t:TypeId} {ts:List TypeId} {xs:List AV} (h:Dat P t xs) (hu:(P.underlying t).map (fun d=>match d with | .struct fs=>some (fs.toList.map (·.type)) | _=>none)=some (some ts)):DatF P ts xs:=by
 cases hd:P.underlying t with
 | none=>rw [hd] at hu; cases hu
 | some d =>
  rw [hd] at hu
  cases d <;> first | cases hu; done | skip
  rename_i fs
  simp only [Option.map_some,Option.some.injEq] at hu
  rw [←hu]
  exact h.struct_inv hd
theorem DatF.cons_inv {t:TypeId} {ts:List TypeId} {xs:List AV} (h:DatF P (t::ts) xs):∃a b,xs=a++b∧Dat P t a∧DatF P ts b:=by
 cases h with
 | cons h hs=>exact ⟨_,_,rfl,h,hs⟩
theorem DatF.nil_inv {xs:List AV} (h:DatF P [] xs):xs=[]:=by cases h; rfl
theorem DatL.cons_inv {t:TypeId} {ts:List TypeId} {xs:List AV} (h:DatL P (t::ts) xs):∃x ys,xs=x::ys∧DatV P t x∧DatL P ts ys:=by
 cases h with
 | cons h hs=>exact ⟨_,_,rfl,h,hs⟩
theorem DatL.nil_inv {xs:List AV} (h:DatL P [] xs):xs=[]:=by cases h; rfl
theorem DatV.one {t:TypeId} {x:AV} (h:DatV P t x) (hu:(match P.underlying t with | some (.struct _)=>false | some (.array _ _)=>false | some _=>true | none=>false)=true):Dat P t [x]:=by
 unfold DatV at h
 cases hd:P.underlying t with
 | none=>rw [hd] at hu; cases hu
 | some d =>
  rw [hd] at hu h
  cases d <;> first | (cases hu; done) | exact h
theorem DatV.agg {t:TypeId} {x:AV} (h:DatV P t x) (hu:(match P.underlying t with | some (.struct _)=>true | some (.array _ _)=>true | _=>false)=true):∃cs,x=.a cs∧Dat P t cs:=by
 unfold DatV at h
 cases hd:P.underlying t with
 | none=>rw [hd] at hu; cases hu
 | some d =>
  rw [hd] at hu h
  cases d <;> first | (cases hu; done) | exact h
theorem DatF.rep_inv {e:TypeId} {α:Type} {c:α→AV} {ok:α→Prop} (hc:∀ys,Dat P e ys→∃x,ys=[c x]∧ok x):∀{n:Nat} {xs:List AV},DatF P (List.replicate n e) xs→∃l:List α,xs=List.map c l∧l.length=n∧∀x,x∈l→ok x
 | 0,xs,h=>⟨[],h.nil_inv,rfl,fun x hx=>by cases hx⟩
 | n+1,xs,h=>by
  rw [List.replicate_succ] at h
  obtain ⟨a,b,rfl,ha,hb⟩:=h.cons_inv
  obtain ⟨x,rfl,hx⟩:=hc a ha
  obtain ⟨l,rfl,hl,hok⟩:=DatF.rep_inv hc hb
  exact ⟨x::l,rfl,by simp [hl],fun y hy=>(List.mem_cons.1 hy).elim (fun e=>e▸hx) (hok y)⟩
theorem Dat.arr_inv {t e:TypeId} {n:Nat} {xs:List AV} (h:Dat P t xs) (hu:P.underlying t=some (.array n e)):DatF P (List.replicate n e) xs:=by
 cases h with
 | arr h hf=>rw [hu] at h; cases h; exact hf
 | bool h=>rw [hu] at h; cases h
 | int h=>rw [hu] at h; cases h
 | str h=>rw [hu] at h; cases h
 | slice h=>rw [hu] at h; cases h
 | struct h=>rw [hu] at h; cases h
theorem rows_map {α:Type} {c:α→List AV} {ok:α→Prop}:∀{rows:List (List AV)},(∀r,r∈rows→∃x,r=c x∧ok x)→∃l:List α,rows=List.map c l∧∀x,x∈l→ok x
 | [],_=>⟨[],rfl,fun x hx=>by cases hx⟩
 | r::rs,h=>by
  obtain ⟨x,rfl,hx⟩:=h r (by simp)
  obtain ⟨l,rfl,hl⟩:=rows_map (rows:=rs) fun r hr=>h r (by simp [hr])
  exact ⟨x::l,rfl,fun y hy=>(List.mem_cons.1 hy).elim (fun e=>e▸hx) (hl y)⟩
theorem wf_u8 {n:Int} (h:(Lit.int .u8 n).wf=true):n=((toU8 n).toNat:Int):=by
 have h0:IntKind.u8.min≤n∧n≤IntKind.u8.max:=by simpa [Lit.wf] using h
 have h1:(0:Int)≤n∧n≤255:=h0
 rw [toU8_toNat]; omega
end
end Go.Cat
set_option linter.all false
namespace Go.Cat
open Go.Sort
theorem Below.grown_eq {w w':World} (h:@Below Mono.yes w.heap.size w w'):∃q os',w'=grow (w.drewN q) os':=by
 refine ⟨w'.drawn - w.drawn,w'.heap.extract w.heap.size w'.heap.size,?_⟩
 unfold World.drewN
 obtain ⟨heap',tape',drawn',os',out'⟩:=w'
 have h1:=@Below.os Mono.yes _ _ _ h; have h2:=(@Below.tape Mono.yes _ _ _ h).1; have h3:=(@Below.tape Mono.yes _ _ _ h).2 trivial; have h4:=@Below.output Mono.yes _ _ _ h; have h5:=@Below.size Mono.yes _ _ _ h; have h6:=@Below.block Mono.yes _ _ _ h
 dsimp only at h1 h2 h3 h4 h5 h6
 subst h1 h2 h4
 unfold grow
 have e1:w.drawn+(drawn' - w.drawn)=drawn':=by omega
 have e2:heap'=w.heap++heap'.extract w.heap.size heap'.size:=by
  apply Array.ext_getElem?
  intro i
  by_cases hi:i < w.heap.size
  ·rw [Array.getElem?_append_left hi]; exact h6 i hi
  ·rw [Array.getElem?_append_right (by omega),Array.getElem?_extract]
   by_cases hi':i < heap'.size
   ·rw [if_pos (by omega)]; congr 1; omega
   ·rw [if_neg (by omega),Array.getElem?_eq_none (by omega)]
 dsimp only
 rw [e1,←e2]
end Go.Cat
set_option linter.all false
namespace Go.Cat
open Go.RowKit Go.Sort Go.Proofs
variable [M:Mono] [R:Rnds]
section
variable {P:Program}
def valsA:List AV→List Value:=List.map fun a=>match a with | .v x=>x | _=>undef
def allV (l:List AV):Bool:=l.all fun a=>match a with | .v x=>x.oneCell' | _=>false
def SortSays (P:Program) (f:Nat) (k:Nat):Prop :=
 (∀(p:Option Addr) (cap:Nat) (fv:Value) (w:World),Calls P f #[.slice p 0 cap,fv] w fun e w'=>e=.returned (.tuple #[])∧w'=w) ∧
 ∀(α:Type) [Inhabited α] (enc:α→List Value),(∀x,(enc x).length=k)→(∀x,∀v∈enc x,v.oneCell'=true)→∀(cf:α→α→Int),SWO (fun x y=>decide (cf x y < 0)) →
  ∀(g:Nat) (cb:Array Value) (blk off cap:Nat) (d:Array α) (w:World),(∀args w,(callFunc g args).run P w=.ok (.enter g args) w) →
  (∀(m:Nat) (os:Array Obj) (dk:Array α),dk.size=d.size→∀x y:α,
   Calls P g (#[.agg (enc x).toArray,.agg (enc y).toArray]++cb) (sortWorldK enc k w blk off m dk os) fun e w'=>e=.returned (.int .i64 (cf x y))∧∃q os',w'=grow ((sortWorldK enc k w blk off m dk os).drewN q) os') →
  HoldsK enc k w blk off d→blk < w.heap.size→d.size < 4611686018427387904 →
  Calls P f #[.slice (some ⟨blk,off,none⟩) d.size cap,.func (.func g) #[] cb] w fun e w' =>
   e=.returned (.tuple #[])∧∃n os,w'=sortWorldK enc k w blk off n (pdq (fun x y=>decide (cf x y < 0)) d 0 d.size (Lib.bitLen d.size) true true) os
theorem arr2 {vs:Array Value} (h:vs.size=2):vs=#[vs.getD 0 undef,vs.getD 1 undef]:=by
 apply Array.ext
 ·simpa using h
 ·intro i h1 h2
  match i,h1 with
  | 0,h1=>simp [Array.getD,h1]
  | 1,h1=>simp [Array.getD,h1]
  | n+2,h1=>exact absurd h1 (by omega)
theorem heap_sortWorldK {α:Type} [Inhabited α] {enc:α→List Value} {k:Nat} {w:World} {b off n:Nat} {d:Array α} {os:Array Obj} {cur:Array Value} {E:Nat} {fr:Nat×Nat}
  (h:w.heap[b]?=some (.cells cur E fr)):(sortWorldK enc k w b off n d os).heap[b]?=some (.cells (putCells id off (flatK enc k d) cur) E fr):=by
 have hlt:b < w.heap.size:=(Array.getElem?_eq_some_iff.1 h).1
 unfold sortWorldK
 rw [heap_grow_old _ _ (by simpa [putRowK,putRow,mapBlock,Sort.ahead] using hlt)]
 simp [putRowK,putRow,mapBlock,Sort.ahead,Array.getElem?_modify,h,onCells]
theorem heap_sortWorldK_other {α:Type} [Inhabited α] {enc:α→List Value} {k:Nat} {w:World} {b off n:Nat} {d:Array α} {os:Array Obj} {c:Nat} (hc:c≠b) (hl:c < w.heap.size) :
  (sortWorldK enc k w b off n d os).heap[c]?=w.heap[c]?:=by
 unfold sortWorldK
 rw [heap_grow_old _ _ (by simpa [putRowK,putRow,mapBlock,Sort.ahead] using hl)]
 simp [putRowK,putRow,mapBlock,Sort.ahead,Array.getElem?_modify,Ne.symm hc]
theorem size_sortWorldK {α:Type} [Inhabited α] {enc:α→List Value} {k:Nat} {w:World} {b off n:Nat} {d:Array α} {os:Array Obj}:w.heap.size≤(sortWorldK enc k w b off n d os).heap.size:=by
 unfold sortWorldK
 simp [grow,putRowK,putRow,mapBlock,Sort.ahead]
end
end Go.Cat
set_option linter.all false
namespace Go.Cat
open Go.RowKit Go.Sort Go.Proofs Go.Shelf
variable [M:Mono] [R:Rnds]
theorem sortSays_of {P:Program} {ρ:Ren} {k:Nat} (L:SlLaysF0.n6 P ρ) (aE:∀w,(isAgg (ρ.t 24)).run P w=.ok true w) (zE:∀w,(Go.sizeOf (ρ.t 24)).run P w=.ok k w):SortSays P (ρ.f 6) k :=
 ⟨fun p cap fv w=>AnyF.slices_SortFunc_none L p cap fv w,fun _ _ enc hk h1 cf hO g cb blk off cap d w eg hcmp hH hblk hsz =>
  AnyQ.slices_SortFunc_eq L k aE zE enc hk h1 cf hO g cb blk off cap d w eg hcmp hH hblk hsz⟩
end Go.Cat
set_option linter.all false
namespace Go.Cat
open Go.RowKit
variable [M:Mono] [R:Rnds]
section
variable {P:Program}
theorem Le.z:Le .z (.s []):=fun _ _ _ _ h=>by obtain ⟨a,rfl⟩:=h.z_inv; exact .i .s0
theorem Le.junk {x:AV}:Le x .junk:=fun _ _ _ _ _=>.junk
theorem Fz.z {H:Hp}:Fz H .z (.s []):=fun _ _ _ _ _ hr=>by obtain ⟨a,rfl⟩:=hr.z_inv; exact .s0
theorem wpIn_scope {F:Fence} {m:Nat} {c:Code} {Q:Exit→Act→World→Prop} {a:Act} {w:World} (h:c.wpIn F m P (Exit.noGoto Q) a w):(Code.scope c).wpIn F m P Q a w:=by
 intro b k cs hro hb hr
 have h0:(lone (b.atR a (.code (.scope c)::k)) cs w).fenced P F:=fenced_calm hb hr rfl
 have s0:Go.step P (lone (b.atR a (.code (.scope c)::k)) cs w)=.next (lone (b.atR a (.code c::.inScope c::k)) cs w):=step_lone_go (by simp [stepG,stepG.exec,Frame.atR])
 obtain ⟨e,a₁,w₁,hq,harr⟩:=h b (.inScope c::k) cs hro hb hr
 cases e with
 | normal=>exact ⟨.normal,a₁,w₁,hq,.head h0 s0 (StepsIn.trans harr (.one (fenced_calm hb hr rfl) (step_lone_go (by simp [stepG,stepG.exec,Frame.atR]))))⟩
 | exit id =>
  have hx:exitTo id (.inScope c::k)=exitTo id k:=by simp [exitTo]
  exact ⟨.exit id,a₁,w₁,hq,fun k' hk=>.head h0 s0 (harr.1 k' (by rw [hx]; exact hk)),fun hr' hk=>let ⟨k₁,h1,h2⟩:=harr.2 hr' (by rw [hx]; exact hk); ⟨k₁,h1,.head h0 s0 h2⟩⟩
 | goto l=>exact hq.elim
 | ret=>exact ⟨_,a₁,w₁,hq,.of_steps (.one h0 s0) harr⟩
 | panic ch=>exact ⟨_,a₁,w₁,hq,.of_steps (.one h0 s0) harr⟩
 | outgrown=>exact ⟨_,a₁,w₁,hq,.of_steps (.one h0 s0) harr⟩
def ng (Q:Exit→ASt→Prop):Exit→ASt→Prop:=fun e s=>match e with
 | .goto _=>False
 | e=>Q e s
theorem Ok.scope {n:Nat} {c:Code} {st:ASt} {Q:Exit→ASt→Prop} (h:Ok P n c st (ng Q)):Ok P n (.scope c) st Q:=⟨fun C hn a w hr=>by
 refine wpIn_scope (wpIn_mono (h.h C hn a w hr) ?_)
 rintro e a' w' ⟨st',hr',hq⟩
 cases e with
 | goto l=>exact hq.elim
 | _=>exact ⟨st',hr',hq⟩⟩
end
end Go.Cat
set_option linter.all false
namespace Go.Cat
open Go.RowKit
variable [M:Mono] [R:Rnds]
section
variable {P:Program}
theorem rowsPlain {α:Type} {f:α→List AV} (h:∀x,(f x).all plain0=true) (l:List α):∀r,r∈l.map f→r.all plain0=true:=fun r hr=>by
 obtain ⟨x,_,rfl⟩:=List.mem_map.1 hr
 exact h x
theorem own_plain {w:World} {F F':Nat→Prop} {β:Nat→Value} {id E K:Nat} {rows:List (List AV)} (hp:∀r,r∈rows→r.all plain0=true) (h:Chunk.holds w F' β id (.own E K rows)):Chunk.holds w F β id (.own E K rows):=by
 rcases h with h | ⟨g,cap,cur,hv,hc,hg,hn,hm,hs,hk,hr⟩
 ·exact .inl h
 ·refine .inr ⟨g,cap,cur,hv,hc,hg,hn,hm,hs,hk,fun i j hi hj=>⟨(hr i j hi hj).1,plain0_rd ?_ (hr i j hi hj).2⟩⟩
  have hrow:=hp rows[i] (List.getElem_mem hi)
  have e1:rows.getD i []=rows[i]:=by simp [List.getD,hi]
  have hlen:j < (rows[i]).length:=by have:=hk i hi; rw [e1] at this; omega
  rw [e1]
  exact List.all_eq_true.1 hrow _ (by rw [List.getD_eq_getElem?_getD,List.getElem?_eq_getElem hlen]; exact List.getElem_mem _)
theorem CallOk.ownLend {g:FuncId} {xs ys:List AV} {st:ASt} {E K D:Nat} {rows:List (List AV)} {k:AV→ASt→Prop} (h:POwn P g ys E K rows) (hz:FzL st.H xs ys) (hp:∀r,r∈rows→r.all plain0=true) (hD:Nat.blt D 1000=true)
  (hk:k (.o D) (bindSt st D (.own E K rows))):CallOk P g xs st k:=by
 obtain ⟨hl,hz⟩:=hz.spec
 refine ⟨h.1,fun w F β vs hI hs hv=>?_⟩
 have hI':Inv w (fun b=>F b∨Owned β st.H b) β [] :=
  ⟨fun b hb=>hb.elim (hI.fsize b) hI.owned_lt,fun _ _ hm=>(List.not_mem_nil hm).elim,List.nodup_nil,fun _ ⟨_,_,hm,_⟩=>(List.not_mem_nil hm).elim,fun _ _ _ _ _ hm=>(List.not_mem_nil hm).elim⟩
 refine (h.2 w _ β vs hI' (by omega) fun i hi=>.i (hz i (by omega) _ _ _ _ hI (hv i (by omega)))).mono ?_
 rintro e w' ⟨v,rfl,hb,F',h1,h2,h3,⟨a,m,c,rfl⟩,h4⟩
 exact ⟨_,rfl,.o D,_,F,_,hk,.o (by simp),ext_bindF (by simpa using hD) hI hb (fun _ h=>h) (fun _ h=>.inl h) (fun b hb'=>⟨(h4 b hb').1,fun hF=>absurd (hI.fsize b hF) (Nat.not_lt.2 (h4 b hb').1)⟩) (own_plain hp (own_any h3 _ _ (by simp)))⟩
end
end Go.Cat
set_option linter.all false
namespace Go.Cat
theorem getR {α:Type} {l:List α} {n:Nat} {x:α} (h:l[n]?=some x):n < l.length∧x∈l:=⟨(List.getElem?_eq_some_iff.1 h).1,List.mem_of_getElem? h⟩
theorem memR {α:Type} {l:List α} {x:α} (h:x∈l):∃n:Nat,l[n]?=some x:=List.mem_iff_getElem?.1 h
theorem Tot.found {ρ:Type} {n:Nat} {b:Bool} {R:Prop} {Q:ρ→Prop} {x:Option ρ} (hn:n < 1000000000000) (hb:b=true↔R) (hx:R→Tot x Q) :
  Tot (if b=true then Cat.out x else Cat.chk (InI64 ((n:Int)+1)) (some (.inl ((n:Int)+1)))) (fun y=>(R∧∃r,y=.inr r∧Q r)∨(¬R∧y=.inl ((n:Int)+1))) :=
 Tot.ite (fun h=>by obtain ⟨r,rfl,hq⟩:=hx (hb.1 h); exact ⟨_,rfl,.inl ⟨hb.1 h,r,rfl,hq⟩⟩) (fun h=>Tot.chk (by unfold InI64; omega) ⟨_,rfl,.inr ⟨fun hr=>h (hb.2 hr),rfl⟩⟩)
theorem Tot.done {σ ρ:Type} {Q:ρ→Prop} {x:Option ρ} (hx:Tot x Q):Tot (Cat.out (σ:=σ) x) (fun y=>∃r,y=.inr r∧Q r):=by
 obtain ⟨r,rfl,hq⟩:=hx; exact ⟨_,rfl,r,rfl,hq⟩
theorem Tot.cond {α:Type} {p:Prop} [Decidable p] {x y:Option α} {Q:α→Prop} (hp:p) (h:Tot x Q):Tot (if p then x else y) Q:=by rw [if_pos hp]; exact h
theorem Tot.ncond {α:Type} {p:Prop} [Decidable p] {x y:Option α} {Q:α→Prop} (hp:¬p) (h:Tot y Q):Tot (if p then x else y) Q:=by rw [if_neg hp]; exact h
theorem Tells.ex {α:Type} {l:List α} {R:α→Prop} {x:α} (hx:x∈l) (h:R x):Tells (∃s,s∈l∧R s) true:=⟨fun _=>⟨x,hx,h⟩,fun _=>rfl⟩
theorem Tells.yes {P:Prop} (h:P):Tells P true:=⟨fun _=>h,fun _=>rfl⟩
theorem Tells.no {P:Prop} (h:¬P):Tells P false:=⟨fun e=>(by cases e),fun p=>(h p).elim⟩
theorem Tells.not {P:Prop} {b:Bool} (h:Tells P b):Tells (¬P) (!b):=by
 unfold Tells at *; cases b <;> simp_all
theorem Tells.eq {P Q:Prop} {a b:Bool} (h:Tells P a) (h':Tells Q b) (e:P↔Q):a=b:=by
 unfold Tells at *; cases a <;> cases b <;> simp_all
theorem Tells.beq {P Q:Prop} {a b:Bool} (h:Tells P a) (h':Tells Q b):Tells (P↔Q) (a == b):=by
 unfold Tells at *; cases a <;> cases b <;> simp_all
theorem Tells.dec {P:Prop} [Decidable P]:Tells P (decide P):=decide_eq_true_iff
end Go.Cat
