/- The logic that the walks are in, piece P3. No condition. -/
import Derived.Test.YtdcgbodbejgliaaGreatDoorXTopPacksCatP2
import Derived.Deep.Upon
import Derived.OrdersIn
import Derived.RangeFuncIn
import Derived.RangeFuncLeaves
import Derived.RangeFuncRecord
open Array renaming getD_eq_getD_getElem? → lA, length_toList → lR, getElem?_setIfInBounds_ne → xA, getElem?_push → np, eq_empty_of_size_eq_zero → ud, replicate → og, getElem?_append → pX, range → nr, size_append → ue, toList_map → ZH
open Bool renaming and_eq_true → bJ, or_eq_false_iff → Rs, not_eq_false' → Rr
open Go.Addr renaming add_lit → gk
open Go.Builtin renaming zeroCells → dI, append_ → ig, copy_ → qG, firstCells → xB, clear_ → vC, nextslicecap → Ru
open Go.Call renaming operands → qH
open Go.Deferred renaming ofValue → mg
open Go.Fence renaming wide → gl
open Go.Instr renaming sliceAt → lT, makeSlice → vG, sureAddr → G2, mapUpdate → G0, next → G1, alloc → RA, storeAt → RH, makeMap → RG, box → RB
open Go.IntWalk renaming i64_in → qI
open Go.MapKept renaming run_findKey → GY, run_setObj_map → ZT
open Go.Question renaming forced → RZ
open Go.Region renaming wanted → dW
open Go.Result renaming andThen_ok → mw
open Go.Sem renaming run_bind → kF, run → G'
open Go.Utf8 renaming decode → LH
open Int renaming natCast_mul → RI
open List renaming length_map → ax, getElem?_eq_getElem → bF, mem_cons_of_mem → cj, mem_cons → bj, length_append → cP, getD → aV, getElem?_eq_some_iff → fk, getD_eq_getElem?_getD → fW, mem_singleton → dB, length_take → dN, mem_map → dq, all_eq_true → ej, getElem_mem → ek, not_mem_nil → eJ, getElem?_take → gn, getElem?_append → gK, replicate → il, getElem?_drop → jq, nodup_cons → ix, range → gA, size_toArray → lC, map_cons → jI, eq_nil_of_length_eq_zero → qL, append_assoc → kD, length_drop → lV, drop_eq_nil_of_le → qK, nodup_nil → qO, append_nil → qJ, getElem?_map → uj, length_replicate → Z', take_of_length_le → RS, mapM_cons → al4
open List.cons renaming injEq → G4
open Nat renaming mul_le_mul_right → cI, eq_of_beq_eq_true → cW, beq → aH, le_refl → bG, add_mul → bM, le_trans → fo, eq_zero_or_pos → oY, blt → eO, blt_eq → gO, zero_add → jJ, beq_refl → iY, le_succ → j3, div_lt_iff_lt_mul → qP, add_zero → lW, mul_comm → oi, mod_eq_of_lt → Dc, le_mul_of_pos_right → RV, mod_lt → se, mul_add_mod → Dd, div_add_mod → RU, le_of_not_lt → al1, pos_of_ne_zero → RY, div_eq_of_lt → al2, mul_add_div → al3
open Option renaming map_eq_some_iff → De
open Prod.mk renaming injEq → im
open True renaming intro → LF
namespace Go.Cat
set_option linter.all false
section
open Go.RowKit
variable [M:cM] [G:dX]
def fK (id:Nat) (c:Chunk):Hp→Hp
 |[]=>[]
 |(i,c')::r=>bif aH i id then (i,c)::fK id c r else (i,c')::fK id c r
def gR (st:ah) (d:Nat) (c:Chunk):ah:=⟨fun t=>er 2 d (st.f t),(d,c)::gY d st.H⟩
def Ty (id:Nat) (rows:List (List AV)):Chunk→Chunk
 |.box cells=>.box (cells.map (sb (.s rows) 1 id))
 |.own E K r=>.own E K r
 |.mp ag r=>.mp ag r
 |.lp l e R L=>.lp l e R (L.map fun p=>(p.1,sb (.s rows) 2 id p.2))
 |.si s pos=>.si s pos
def oC (id:Nat) (rows:List (List AV)):Hp→Hp
 |[]=>[]
 |(i,c)::r=>bif aH i id then oC id rows r else (i,Ty id rows c)::oC id rows r
def ME (id:Nat) (rows:List (List AV)) (st:ah):ah:=⟨fun t=>sb (.s rows) 2 id (st.f t),oC id rows st.H⟩
def Mr (T:TT) (s t id:Nat) (st:ah) (k:AV→ah→Prop):Prop :=
 match T s with
 |some i=>match i.kind with
  |.slice e=>match T e with
   |some j=>match j.kind with
    |.int .u8=>bif aH s t then
      match dO id st.H with
      |some (.own _ _ rows)=>rows≠[]∧k (.s rows) (ME id rows st)
      |_=>False
     else False
    |_=>False
   |none=>False
  |_=>False
 |none=>False
def Mn (T:TT) (t d:Nat) (st:ah) (k:AV→ah→Prop):Prop :=
 match T t with
 |some i=>bif jo (cd i.zero) then k (.b d 0) (gR st d (.box (bz (cd i.zero)))) else False
 |none=>False
def Mp (x:AV) (d:Nat) (st:ah) (k:AV→ah→Prop):Prop :=
 bif jo x then k (.b d 0) (gR st d (.box ((bz x).map (er 1 d)))) else False
def Cv (n:Nat) (cells:List AV) (off:Nat) (y:AV) (k:List AV→Prop):Prop :=
 bif jo y&&(aH (bz y).length n&&Nat.ble (off+n) cells.length) then ∃C,cells.take off++(bz y++cells.drop (off+n))=C∧k C else False
def wg (T:TT) (t:Nat) (x y:AV) (st:ah) (k:AV→ah→Prop):Prop :=
 match T t with
 |some i=>match x with
  |.b id off=>match dO id st.H with
   |some (.box cells)=>Cv i.cells cells off y fun yk=>k (.v undef) ⟨st.f,fK id (.box yk) st.H⟩
   |_=>False
  |.e id K m j=>match dO id st.H with
   |some (.own E K' rows)=>bif (bz y).all fu then ∃row,rows[m]?=some row∧K=K'∧Cv i.cells row j y fun agZ=>∃R,rows.set m agZ=R∧k (.v undef) ⟨st.f,fK id (.own E K' R) st.H⟩ else False
   |_=>False
  |_=>False
 |none=>False
def o9 (rows:List (List AV)) (n:Nat):Prop:=∀r,r∈rows→r.length=n
def Qw (x:AV) (not:Nat) (H:Hp) (k:List (List AV)→Prop):Prop :=
 match x with
 |.s rows=>k rows
 |.v (.slice none 0 0)=>k []
 |.o id=>bif aH id not then False else match dO id H with
  |some (.own _ _ rows)=>k rows
  |_=>False
 |_=>False
def Dp (T:TT) (t t' e:Nat) (x:AV) (not:Nat) (H:Hp) (k:List (List AV)→Prop):Prop :=
 bif aH t t' then Qw x not H k else
 match T t',T e,x with
 |some i',some je,.v (.string s)=>match i'.kind,je.kind with
  |.str,.int .u8=>bif aH je.cells 1 then k (s.data.toList.map lF) else False
  |_,_=>False
 |_,_,_=>False
def AQ (T:TT) (t t':Nat) (s x:AV) (d:Nat) (st:ah) (k:AV→ah→Prop):Prop :=
 match T t with
 |some i=>match i.kind with
  |.slice e=>match T e with
   |some j =>
    bif aH j.bytes 0||(aH j.cells 0||!(aH j.zero.cells.size j.cells)) then False else
    match s with
    |.v (.slice none 0 0)=>Dp T t t' e x d st.H fun bR=>o9 bR j.cells∧bR.length*j.bytes≤140737488355328∧∃R,bR=R∧k (.o d) (gR st d (.own e j.cells R))
    |.o id=>match dO id st.H with
     |some (.own E K rows)=>bif (aH E e&&aH K j.cells)&&eO id 1000 then
       Dp T t t' e x id st.H fun bR=>o9 bR j.cells∧(rows.length+bR.length)*j.bytes≤140737488355328∧∃R,rows++bR=R∧k (.o id) (gR st id (.own e j.cells R))
      else False
     |_=>False
    |_=>False
   |none=>False
  |_=>False
 |none=>False
def Mo (T:TT) (t t' id:Nat) (x:AV) (st:ah) (k:AV→ah→Prop):Prop :=
 match T t,T t',x with
 |some i,some i',.v (.int _ nx)=>match i.kind,i'.kind with
  |.slice e,.int _=>match T e,dO id st.H with
   |some j,some (.own E K rows)=>bif aH j.bytes 0||(aH j.cells 0||!(jo (cd j.zero)&&(aH (bz (cd j.zero)).length j.cells&&(bz (cd j.zero)).all fu))) then False else
     bif (aH E e&&aH K j.cells)&&eO id 1000 then
      ∃n:Nat,nx=(n:Int)∧(rows.length+n)*j.bytes≤140737488355328∧∃R,rows++il n ((bz (cd j.zero)).map nz)=R∧k (.o id) (gR st id (.own e j.cells R))
     else False
   |_,_=>False
  |_,_=>False
 |_,_,_=>False
def HV (T:TT) (t:Nat) (x y:AV) (st:ah) (k:AV→ah→Prop):Prop :=
 match T t with
 |some i=>match i.kind with
  |.slice e=>match T e with
   |some j=>match x,y with
    |.w id Kw d,.s news=>match dO id st.H with
     |some (.own E K rows)=>bif aH K j.cells&&aH Kw K then
       o9 news j.cells∧∃R,rows.take d++news.take (rows.length-d)++rows.drop (d+news.length)=R∧k (.v (.int .i64 ((Nat.min news.length (rows.length-d):Nat):Int))) ⟨st.f,fK id (.own E K R) st.H⟩
      else False
     |_=>False
    |_,_=>False
   |none=>False
  |_=>False
 |none=>False
def HS (T:TT) (t t':Nat) (s x:AV) (d:Nat) (st:ah) (k:AV→ah→Prop):Prop :=
 match s with
 |.o id=>Mo T t t' id x st k
 |s=>match T t,T t',s,x with
 |some i,some i',.v (.slice none 0 0),.v (.int _ nx)=>match i.kind,i'.kind with
  |.slice e,.int _=>match T e with
   |some j=>bif aH j.bytes 0||(aH j.cells 0||!(jo (cd j.zero)&&(aH (bz (cd j.zero)).length j.cells&&(bz (cd j.zero)).all fu))) then False else
     ∃n:Nat,nx=(n:Int)∧n*j.bytes≤140737488355328∧∃R,il n ((bz (cd j.zero)).map nz)=R∧k (.o d) (gR st d (.own e j.cells R))
   |none=>False
  |_,_=>False
 |_,_,_,_=>False
def Mw (T:TT) (t:Nat) (x:AV) (hi:Option AV) (st:ah) (k:AV→ah→Prop):Prop :=
 match T t,x,hi with
 |some i,.o id,some (.v (.int _ nh))=>match i.kind with
  |.slice e=>match T e with
   |some j=>match dO id st.H with
    |some (.own E K rows)=>bif aH K j.cells&&eO id 1000 then ∃h:Nat,nh=(h:Int)∧h≤rows.length∧∃R,rows.take h=R∧k (.o id) (gR st id (.own E K R)) else False
    |_=>False
   |none=>False
  |_=>False
 |_,_,_=>False
def HX (T:TT) (t:Nat) (x:AV) (lo hi mx:Option AV) (d:Nat) (st:ah) (k:AV→ah→Prop):Prop :=
 match T t with
 |some i=>match i.kind,lo,hi,mx with
  |.slice e,none,some (.v (.int _ 0)),some (.v (.int _ 0))=>match T e with
   |some j=>match x with
    |.s _=>k (.o d) (gR st d (.own e j.cells []))
    |.o _=>k (.o d) (gR st d (.own e j.cells []))
    |.v (.slice none 0 0)=>k (.o d) (gR st d (.own e j.cells []))
    |_=>False
   |none=>False
  |_,_,_,_=>False
 |none=>False
def Tb (T:TT) (t n:Nat) (parts:List (Nat×AV)) (d:Nat) (st:ah) (k:AV→ah→Prop):Prop :=
 z7 T t n parts fun rows e size=>bif rows.all (fun r=>r.all fu) then k (.o d) (gR st d (.own e size (rows.map fun r=>r.map nz))) else False
def Ms (T:TT) (t:Nat) (l c:AV) (d:Nat) (st:ah) (k:AV→ah→Prop):Prop :=
 match T t,l,c with
 |some i,.v (.int _ nl),.v (.int _ nc)=>match i.kind with
  |.slice e=>match T e with
   |some j=>bif jo (cd j.zero)&&(aH (bz (cd j.zero)).length j.cells&&(bz (cd j.zero)).all fu) then
     ∃n m:Nat,nl=(n:Int)∧nc=(m:Int)∧n≤m∧m≤140737488355328∧m*j.bytes≤140737488355328∧∃R,il n ((bz (cd j.zero)).map nz)=R∧k (.o d) (gR st d (.own e j.cells R))
    else False
   |none=>False
  |_=>False
 |_,_,_=>False
inductive Tg where
 |f (g:FuncId)
 |y (l:Nat)
instance:Coe FuncId Tg:=⟨.f⟩
instance {n:Nat}:OfNat Tg n:=⟨.f n⟩
abbrev fN (ro:Option Nat):Fence:={ gl with round:=ro }
def Tg.uz (P:Program):Tg→Prop
 |.f g=>p7 P g
 |.y _=>True
def Tg.goes (P:Program):Tg→Array Value→World→(Ending→World→Prop)→Prop
 |.f g,vs,w,R=>Calls P g vs w R
 |.y l,vs,w,R=>∃fn tmps assign body,(Instr.yield l vs).run P w=.ok (.round l fn tmps assign body) w∧RoundIn gl 0 P l fn tmps assign body w R
def Tg.goes.mono {P:Program} {g:Tg} {vs:Array Value} {w:World} {R R':Ending→World→Prop} (h:g.goes P vs w R) (hr:∀e w',R e w'→R' e w'):g.goes P vs w R':=by
 cases g with
 |f g=>exact Calls.mono h hr
 |y l =>
  obtain ⟨fn,tmps,assign,body,h1,h2⟩:=h;exact ⟨fn,tmps,assign,body,h1,h2.mono hr⟩
def ae (P:Program) (g:Tg) (args:List AV) (st:ah) (k:AV→ah→Prop):Prop :=
 g.uz P∧∀(w:World) (F:Nat→Prop) (β:Nat→Value) (vs:Array Value),Inv w F β st.H→vs.size=args.length →
  (∀i,i<args.length→Rd w F β (args.getD i .χ) (vs.getD i undef)) →
  g.goes P vs w fun e w'=>∃v,e=.returned v∧∃r au F' av,k r au∧Rd w' F' av r v∧Ext w F β st w' F' av au
def HT (P:Program) (f:AV) (xs:List AV) (st:ah) (k:AV→ah→Prop):Prop :=
 match f with
 |.c (.func g) fs cs=>ae P (.f g) (fs++(xs++cs)) st k
 |.c (.yield l) [] []=>ae P (.y l) xs st k
 |_=>False
def Mt (T:TT) (t d:Nat) (st:ah) (k:AV→ah→Prop):Prop :=
 match T t with
 |some ti=>match ti.kind with
  |.map kt e=>match T kt,T e with
   |some ik,some ie=>match ik.kind with
    |.int .i64=>k (.m d) (gR st d (.mp (p8 ie.kind) []))
    |_=>False
   |_,_=>False
  |_=>False
 |none=>False
def HW (T:TT) (t:Nat) (m i y:AV) (st:ah) (k:AV→ah→Prop):Prop :=
 match T t with
 |some ti=>match ti.kind with
  |.map kt e=>match T kt with
   |some ik=>match ik.kind,m,i with
    |.int .i64,.m id,.v (.int .i64 n)=>match dO id st.H with
     |some (.mp ag rows)=>match zG ag y with
      |some yc=>Ξ n∧rows.length<140737488355328∧∃R,cO n yc rows=R∧k (.v undef) ⟨st.f,fK id (.mp ag R) st.H⟩
      |none=>False
     |_=>False
    |_,_,_=>False
   |none=>False
  |_=>False
 |none=>False
def HU (T:TT) (t:Nat) (x:AV) (st:ah) (k:AV→ah→Prop):Prop :=
 match T t with
 |some i=>match i.kind with
  |.slice e=>match T e with
   |some j=>match x with
    |.w id Kw d=>match dO id st.H with
     |some (.own E K rows)=>bif (aH K j.cells&&aH Kw K)&&(jo (cd j.zero)&&(aH (bz (cd j.zero)).length j.cells&&(bz (cd j.zero)).all fu)) then
       ∃R,rows.take d++il (rows.length-d) ((bz (cd j.zero)).map nz)=R∧k (.t []) ⟨st.f,fK id (.own E K R) st.H⟩
      else False
     |_=>False
    |_=>False
   |none=>False
  |_=>False
 |none=>False
def Mv (T:TT) (t:Nat) (x:AV) (d:Nat) (st:ah) (k:AV→ah→Prop):Prop :=
 match T t,x with
 |some i,.v (.string s)=>match i.kind with
  |.str=>k (.b d 0) (gR st d (.si s 0))
  |_=>False
 |_,_=>False
def Mu (x:AV) (Jf:Bool) (st:ah) (k:AV→ah→Prop):Prop :=
 match x,Jf with
 |.b id 0,true=>match dO id st.H with
  |some (.si s pos)=>(pos<s.size→k (.t [.v (.bool true),.v (.int .i64 (pos:Int)),.v (.int .i32 ((LH s pos).1:Int))]) ⟨st.f,fK id (.si s (pos+(LH s pos).2)) st.H⟩) ∧
    (¬pos<s.size→k (.t [.v (.bool false)]) st)
  |_=>False
 |_,_=>False
def Cw (P:Program) (T:TT) (o:Oper) (st:ah) (k:AV→ah→Prop):Prop :=
 let ρ:=ev st.f;let d:=o.dst.getD 0
 match o.op with
 |.alloc t=>Mn T t d st k
 |.box _ x=>Mp (ρ x) d st k
 |.store t x y=>wg T t (ρ x) (ρ y) st k
 |.makeMap t none=>Mt T t d st k
 |.range t x=>Mv T t (ρ x) d st k
 |.next x s=>Mu (ρ x) s st k
 |.mapUpdate t m i y=>HW T t (ρ m) (ρ i) (ρ y) st k
 |.insert t m i y=>HW T t (ρ m) (ρ i) (ρ y) st k
 |.buildSlice t n parts=>ni P T o ρ st.H (fun r=>k r st)∨Tb T t n (parts.toList.map fun q=>(q.1,ρ q.2)) d st k
 |.slice t x none hi none=>match ρ x with
  |.o _=>Mw T t (ρ x) (hi.map ρ) st k
  |_=>ni P T o ρ st.H fun r=>k r st
 |.slice t x lo hi (some mx)=>HX T t (ρ x) (lo.map ρ) (hi.map ρ) (some (ρ mx)) d st k
 |.makeSlice t l c=>ni P T o ρ st.H (fun r=>k r st)∨Ms T t (ρ l) (ρ c) d st k
 |.convert s t x=>match ρ x with
  |.o id=>Mr T s t id st k
  |_=>ni P T o ρ st.H fun r=>k r st
 |.call c=>match c.callee with
  |.builtin .append=>match c.argTypes.toList,c.args.toList.map ρ with
   |[t,t'],[s,x]=>bif aH t t' then AQ T t t' s x d st k else match x with
    |.v (.string _)=>AQ T t t' s x d st k
    |_=>HS T t t' s x d st k
   |_,_=>False
  |.builtin .copy=>match c.argTypes.toList,c.args.toList.map ρ with
   |[t,_],[x,y]=>HV T t x y st k
   |_,_=>False
  |.builtin .clear=>match c.argTypes.toList,c.args.toList.map ρ with
   |[t],[x]=>HU T t x st k
   |_,_=>False
  |.value f=>HT P (ρ f) (c.args.toList.map ρ) st k
  |_=>ni P T o ρ st.H fun r=>k r st
 |_=>ni P T o ρ st.H fun r=>k r st
def step (P:Program) (T:TT) (o:Oper) (st:ah) (k:AV→ah→Prop):Prop:=bif eO (o.dst.getD 0) 1000 then Cw P T o st k else False
section
variable {P:Program} {T:TT} {w:World} {F:Nat→Prop} {β:Nat→Value} {st:ah} {k:AV→ah→Prop}
def EPost (w:World) (F:Nat→Prop) (β:Nat→Value) (st:ah) (k:AV→ah→Prop) (v:Value) (w':World):Prop :=
 ∃r au F' av,k r au∧Rd w' F' av r v∧Ext w F β st w' F' av au
def c8 (P:Program) (s:Sem Next) (w:World) (F:Nat→Prop) (β:Nat→Value) (st:ah) (k:AV→ah→Prop):Prop :=
 (∃v w',s.run P w=.ok (.value v) w'∧EPost w F β st k v w')∨(∃w',s.run P w=.ok .skip w'∧EPost w F β st k undef w') ∨
 (∃g vs,s.run P w=.ok (.enter g vs) w∧Calls P g vs w fun e w'=>∃v,e=.returned v∧EPost w F β st k v w') ∨
 (∃l fn tmps assign body,s.run P w=.ok (.round l fn tmps assign body) w∧RoundIn gl 0 P l fn tmps assign body w fun e w'=>∃v,e=.returned v∧EPost w F β st k v w')
def agI {s:Sem Next} (hI:Inv w F β st.H) (h:ur P s w fun v w'=>∃r,k r st∧Rd w' (fF F w w') β r v):c8 P s w F β st k:=by
 rcases h with ⟨v,w',hr,hb,r,hk,hv⟩|⟨g,vs,hr,hc⟩
 ·exact .inl ⟨v,w',hr,r,st,_,_,hk,hv,wi hI hb⟩
 ·refine .inr (.inr (.inl ⟨g,vs,hr,hc.mono ?_⟩));rintro e w' ⟨v,rfl,hb,r,hk,hv⟩;exact ⟨v,rfl,r,st,_,_,hk,hv,wi hI hb⟩
def c8.value {s:Sem Value} {v:Value} {w':World} (hr:s.run P w=.ok v w') (h:EPost w F β st k v w'):c8 P (do pure (.value (←s))) w F β st k :=
 .inl ⟨v,w',by simp [hr],h⟩
def c8.skip {s:Sem Unit} {w':World} (hr:s.run P w=.ok () w') (h:EPost w F β st k undef w'):c8 P (do s;pure .skip) w F β st k :=
 .inr (.inl ⟨w',by simp [hr],h⟩)
def Sw {d:Nat} {cells:List AV} {us:Array Value} {e:TypeId} (hd:d<1000) (hI:Inv w F β st.H) (hs:us.size=cells.length) (h1:∀i,i<cells.length→(us.getD i undef).oneCell'=true)
  (hr:∀i,i<cells.length→Rd (w.alloc (.cells us e)) F (fun i=>if i=d then .pointer (some ⟨w.heap.size,0,none⟩) else β i) (cells.getD i .χ) (us.getD i undef)) (hk:k (.b d 0) (gR st d (.box cells))) :
  EPost w F β st k (.pointer (some ⟨w.heap.size,0,none⟩)) (w.alloc (.cells us e)):=by
 refine ⟨_,_,F,_,hk,.b (by simp),qd (v:=.pointer (some ⟨w.heap.size,0,none⟩)) hd hI rfl ⟨rfl,fun _=>(by first|exact bG _|exact j3 _)⟩ rfl (by simp) (fun b hb _=>heap_alloc_old w _ hb) (fun i c b _ hm hb=>heap_alloc_old w _ (hI.fJ ⟨i,c,hm,hb⟩)) (fun b hb=>?_) ?_⟩
 ·simp [bP] at hb;left;omega
 ·exact ⟨w.heap.size,us,e,by simp,heap_alloc_new w _,hs,h1,hr⟩
def abj {t d:Nat} (hd:d<1000) (hT:bL P T) (hI:Inv w F β st.H) (h:Mn T t d st k):c8 P (do pure (.value (←RA t true (.tuple #[])))) w F β st k:=by
 unfold Mn at h;split at h
 ·rename_i i hi;obtain ⟨bU,hk⟩:=cond_prop h;have hz:=(hT _ _ hi).tH w
  have aZ:(RA t true (.tuple #[])).run P w=.ok (.pointer (some ⟨w.heap.size,0,none⟩)) (w.alloc (.cells i.zero.cells t)):=by
   unfold RA;simp [hz,newVar,newRow]
  refine c8.value aZ ?_;have hr:=fun av:Nat→Value=>pa (nV (w.alloc (.cells i.zero.cells t)) F i.zero av) bU;exact Sw hd hI (hr β).1 (fun j hj=>((hr β).2 j hj).1) (fun j hj=>((hr _).2 j hj).2) hk
 ·cases h
def abn {x:AV} {vx:Value} {d t:Nat} (hd:d<1000) (hI:Inv w F β st.H) (hx:Rd w F β x vx) (h:Mp x d st k):c8 P (do pure (.value (←RB t vx))) w F β st k:=by
 unfold Mp at h;obtain ⟨bU,hk⟩:=cond_prop h
 have aZ:(RB t vx).run P w=.ok (.pointer (some ⟨w.heap.size,0,none⟩)) (w.alloc (.cells vx.cells t)):=by simp [RB,newVar,newRow]
 obtain ⟨hs,hr⟩:=pa hx bU;refine c8.value aZ (Sw hd hI (by simpa using hs) (fun j hj=>(hr j (by simpa using hj)).1) (fun j hj=>?_) hk)
 have hj:j<(bz x).length:=by simpa using hj
 have e:((bz x).map (er 1 d)).getD j .χ=er 1 d ((bz x).getD j .χ):=by simp [aV,hj]
 rw [e];exact sH (fun i hi=>by simp [hi]) 1 ((hr j hj).2.frame (Below.agree (vV w _) hI.cA) fun _ h=>h)
def nf {id:Nat} {c:Chunk}:∀{H:Hp} {i:Nat} {c':Chunk},(i,c')∈fK id c H→(i=id∧c'=c∧∃c'',(i,c'')∈H)∨(i≠id∧(i,c')∈H)
 |[],_,_,h=>by cases h
 |(j,c0)::r,i,c',h=>by
  simp only [fK] at h;cases hb:aH j id with
  |true =>
   have hj:=cW hb;rw [hb] at h;simp only [cond_true,bj,im] at h
   rcases h with ⟨rfl,rfl⟩|h
   ·exact .inl ⟨hj,rfl,c0,by simp⟩
   ·rcases nf (H:=r) h with ⟨h1,h2,c2,h3⟩|⟨h1,h2⟩
    ·exact .inl ⟨h1,h2,c2,cj _ h3⟩
    ·exact .inr ⟨h1,cj _ h2⟩
  |false =>
   have hj:j≠id:=fun e=>by rw [e,iY] at hb;cases hb
   rw [hb] at h;simp only [cond_false,bj,im] at h
   rcases h with ⟨rfl,rfl⟩|h
   ·exact .inr ⟨hj,by simp⟩
   ·rcases nf (H:=r) h with ⟨h1,h2,c2,h3⟩|⟨h1,h2⟩
    ·exact .inl ⟨h1,h2,c2,cj _ h3⟩
    ·exact .inr ⟨h1,cj _ h2⟩
def z_ {id:Nat} {c:Chunk}:∀(H:Hp),(fK id c H).map (·.1)=H.map (·.1)
 |[]=>rfl
 |(j,c0)::r=>by
  simp only [fK];cases hb:aH j id<;>simp [z_ r]
def wj {id:Nat} {c c0:Chunk} {w':World} (hI:Inv w F β st.H) (hm:(id,c0)∈st.H) (uR:w'.os=w.os) (Og:js w w') (s6:w'.output=w.output) (eM:w'.heap.size=w.heap.size)
  (A7:∀b,bP (β id)≠some b→w'.heap[b]?=w.heap[b]?) (hc:c.holds w' F β id):Ext w F β st w' F β ⟨st.f,fK id c st.H⟩:=by
 have db:∀b,bD β (fK id c st.H) b→bD β st.H b:=by
  rintro b ⟨i,c',h,hb⟩
  rcases nf h with ⟨rfl,_,c2,h2⟩|⟨_,h2⟩
  ·exact ⟨i,c2,h2,hb⟩
  ·exact ⟨i,c',h2,hb⟩
 have ha:ga F w w':=fun b hb=>A7 b fun kR=>hI.apart b ⟨id,c0,hm,kR⟩ hb;refine ⟨uR,Og,s6,by omega,fun b _ ho=>A7 b fun kR=>ho ⟨id,c0,hm,kR⟩,fun _ h=>h,fun _ h=>.inl h,fun b h=>.inr (db b h),fun t u h=>h.frame ha fun _ h=>h,?_,fun _ _=>rfl⟩;refine ⟨fun b hb=>by have:=hI.cA b hb;omega,fun i c' h=>?_,by rw [z_];exact hI.keys,fun b ho=>hI.apart b (db b ho),fun i c1 i' p9 b h h' hb aJ=>?_,hI.fh.at ha⟩
 ·rcases nf h with ⟨rfl,rfl,_⟩|⟨hi,h2⟩
  ·exact hc
  ·exact pH ha (fun _ h=>h) (fun b hb=>A7 b fun kR=>hi (hI.eo i c' id c0 b h2 hm hb kR)) (hI.holds i c' h2)
 ·have hx:∃c,(i,c)∈st.H:=by rcases nf h with ⟨_,_,c2,h2⟩|⟨_,h2⟩<;>exact ⟨_,h2⟩
  have hy:∃c,(i',c)∈st.H:=by rcases nf h' with ⟨_,_,c2,h2⟩|⟨_,h2⟩<;>exact ⟨_,h2⟩
  obtain ⟨c2,h2⟩:=hx;obtain ⟨c3,h3⟩:=hy;exact hI.eo i c2 i' c3 b h2 h3 hb aJ
def Yi {n off:Nat} {cells:List AV} {y:AV} {K:List AV→Prop} (h:Cv n cells off y K) :
  jo y=true∧(bz y).length=n∧off+n≤cells.length∧K (cells.take off++(bz y++cells.drop (off+n))):=by
 unfold Cv at h;obtain ⟨hb,hk⟩:=cond_prop h;simp only [bJ] at hb;obtain ⟨C,rfl,hk⟩:=hk;exact ⟨hb.1,cW hb.2.1,by simpa using hb.2.2,hk⟩
def QA {α:Type} (l m:List α) (off n:Nat) (hm:m.length=n) (hl:off+n≤l.length) (d:α) (j:Nat) :
  (l.take off++(m++l.drop (off+n))).getD j d=if j<off then l.getD j d else if j<off+n then m.getD (j-off) d else l.getD j d:=by
 simp only [aV,gK,dN,hm,gn,jq];by_cases h1:j<off
 ·simp [h1,show j<min off l.length by omega]
 ·by_cases h2:j<off+n
  ·simp [h1,h2,show min off l.length=off by omega,show j-off<n by omega]
  ·simp [h1,h2,show min off l.length=off by omega,show ¬j-off<n by omega,show off+n+(j-off-n)=j by omega]
def XL {t b off:Nat} {i:TI} {v:Value} {cur:Array Value} {e:TypeId} (hi:gF P t i) (hh:w.heap[b]?=some (.cells cur e (0,0))) (hv:v.cells.size=i.cells) (jh:off+i.cells≤cur.size)
  (h1:∀j,j<v.cells.size→(v.cells.getD j undef).oneCell'=true) :
  (RH t (.pointer (some ⟨b,off,none⟩)) v).run P w=.ok () (w.setRow b (cur.toList.take off++v.cells.toList++cur.toList.drop (off+v.cells.toList.length)).toArray):=by
 have aX:=hi.lj w
 have bT:=run_storeCells_at P b off e v.cells.toList 0 cur w hh (by simp;omega) (fun x hx=>by
  obtain ⟨j,hj,rfl⟩:=List.mem_iff_getElem.1 hx
  have hj:j<v.cells.size:=by simpa using hj
  have:=h1 j hj
  simpa [hj] using this)
 simp only [lW] at bT;simp [RH,G2,storeVar,aX,hv,bT]
def Pp {b:Nat} {cs:Array Value} (hI:Inv w F β st.H) (ho:bD β st.H b) {x:AV} {u:Value} (h:Rd w F β x u):Rd (w.setRow b cs) F β x u :=
 h.frame (fun b' aJ=>setRow_other w b b' cs fun e=>hI.apart b ho (e▸aJ)) fun _ h=>h
def Sr (l m:List Value) (off n:Nat) (hm:m.length=n) (hl:off+n≤l.length) (d:Value) (j:Nat) :
  (l.take off++m++l.drop (off+m.length)).toArray.getD j d=if j<off then l.getD j d else if j<off+n then m.getD (j-off) d else l.getD j d:=by
 have:=QA l m off n hm hl d j;rw [hm,kD];simpa [lA,aV] using this
def abE {t:Nat} {x y:AV} {vx vy:Value} (hT:bL P T) (hI:Inv w F β st.H) (hx:Rd w F β x vx) (hy:Rd w F β y vy) (h:wg T t x y st k) :
  c8 P (do RH t vx vy;pure .skip) w F β st k:=by
 unfold wg at h;split at h
 ·rename_i i hi;split at h
  ·rename_i id off;split at h
   ·rename_i cells hc;obtain ⟨bU,hlen,hle,hk⟩:=Yi h;have hm:=fc hc;obtain ⟨b,cur,e,ai,hh,hs,h1,hr⟩:=hI.holds _ _ hm;obtain ⟨eZ,hb,rfl⟩:=hx.mM;rw [ai] at hb;cases hb;obtain ⟨aL,hZ⟩:=pa hy bU
    have uW:vy.cells.size=i.cells:=by rw [aL,hlen]
    have fZ:off+i.cells≤cur.size:=by rw [hs];exact hle
    have aZ:=XL (off:=off) (hT _ _ hi) hh uW fZ (fun j hj=>(hZ j (by omega)).1)
    have ER:vy.cells.toList.length=i.cells:=by simpa using uW
    refine c8.skip aZ ⟨_,_,F,β,hk,.i (.v (.inr rfl)),?_⟩;have ho:bD β st.H b:=⟨id,_,hm,by rw [ai];rfl⟩;refine wj hI hm rfl ⟨rfl,fun _=>(by first|exact bG _|exact j3 _)⟩ rfl (by simp) (fun b' aJ=>setRow_other w b b' _ (fun e=>aJ (by rw [ai,e];rfl))) ?_;have key:=fun j d=>Sr cur.toList vy.cells.toList off i.cells ER (by simpa using fZ) d j;have zB:=fun j=>QA cells (bz y) off i.cells hlen hle AV.χ j;refine ⟨b,_,e,ai,setRow_heap w b cur _ e _ hh,?_,fun j hj=>?_,fun j hj=>?_⟩
    ·simp only [lC,cP,dN,lV,lR,uW,hs,hlen];omega
    all_goals
     have dz:j<cells.length:=by
      simp only [cP,dN,lV,hlen] at hj;omega
    ·rw [key];by_cases q1:j<off
     ·rw [if_pos q1];simpa [aV] using h1 j dz
     ·rw [if_neg q1];by_cases q2:j<off+i.cells
      ·rw [if_pos q2];simpa [aV] using (hZ (j-off) (by omega)).1
      ·rw [if_neg q2];simpa [aV] using h1 j dz
    ·rw [key,zB];by_cases q1:j<off
     ·rw [if_pos q1,if_pos q1];exact Pp hI ho (by simpa [aV] using hr j dz)
     ·rw [if_neg q1,if_neg q1];by_cases q2:j<off+i.cells
      ·rw [if_pos q2,if_pos q2];exact Pp hI ho (by simpa [aV] using (hZ (j-off) (by omega)).2)
      ·rw [if_neg q2,if_neg q2];exact Pp hI ho (by simpa [aV] using hr j dz)
   ·cases h
  ·rename_i id K m j;split at h
   ·rename_i E K' rows hc;obtain ⟨g_,row,jE,rfl,h⟩:=cond_prop h;obtain ⟨bU,hlen,hle,R,rfl,hk⟩:=Yi h;have hm:=fc hc;have NP:=E6 jE;obtain ⟨g,n,c,ai,rfl⟩:=hx.AR
    rcases hI.holds _ _ hm with ⟨rfl,_⟩|⟨g',cap,cur,hv,iP,hg,hn,gu,hs,hK,hr⟩
    ·simp at NP
    ·rw [hv] at ai;cases ai
     have nN:row.length=K:=by have:=hK m NP;rwa [wy jE] at this
     obtain ⟨aL,hZ⟩:=pa hy bU
     have uW:vy.cells.size=i.cells:=by rw [aL,hlen]
     have hmK:m*K+K≤rows.length*K:=by
      calc m*K+K=(m+1)*K:=by rw [bM];omega
       _≤rows.length*K:=cI _ NP
     have hrc:rows.length*K≤c*K:=cI _ hn
     have fZ:m*K+j+i.cells≤cur.size:=by omega
     have aZ:=XL (off:=m*K+j) (hT _ _ hi) hg uW fZ (fun j hj=>(hZ j (by omega)).1)
     have ER:vy.cells.toList.length=i.cells:=by simpa using uW
     have h0:aH c 0=false:=by cases c<;>first|rfl|omega
     have ho:bD β st.H g:=⟨id,_,hm,by rw [hv];simp [bP,h0]⟩;refine c8.skip aZ ⟨_,_,F,β,hk,.i (.v (.inr rfl)),?_⟩;refine wj hI hm rfl ⟨rfl,fun _=>(by first|exact bG _|exact j3 _)⟩ rfl (by simp) (fun b' aJ=>setRow_other w g b' _ (fun e=>aJ (by rw [hv,e];simp [bP,h0]))) (.inr ?_);have key:=fun j' d=>Sr cur.toList vy.cells.toList (m*K+j) i.cells ER (by simpa using fZ) d j'
     have BD:∀q,q<rows.length→(rows.set m (row.take j++(bz y++row.drop (j+i.cells)))).getD q []=if q=m then row.take j++(bz y++row.drop (j+i.cells)) else rows.getD q []:=by
      intro q hq;by_cases mW:q=m
      ·subst mW;simp [aV,hq]
      ·simp [aV,mW,Ne.symm mW]
     refine ⟨g,c,_,by rw [hv];simp,iP,setRow_heap w g cur _ E _ hg,by simpa using hn,gu,?_,fun q hq=>?_,fun q z hq hz=>?_⟩
     ·simp only [lC,cP,dN,lV,lR,uW];omega
     ·have hq:q<rows.length:=by simpa using hq
      rw [BD q hq];split
      ·simp only [cP,dN,lV,hlen,nN];omega
      ·exact hK q hq
     ·have hq:q<rows.length:=by simpa using hq
      rw [key,BD q hq];have hold:=hr q z hq hz;by_cases mW:q=m
      ·subst mW;rw [if_pos rfl];have zB:=QA row (bz y) j i.cells hlen (by omega) AV.χ z;by_cases q1:z<j
       ·rw [if_pos (by omega),zB,if_pos q1];rw [wy jE] at hold;refine ⟨by simpa [aV] using hold.1,?_⟩;have h2:=hold.2.frame (w':=w.setRow g (cur.toList.take (q*K+j)++vy.cells.toList++cur.toList.drop (q*K+j+vy.cells.toList.length)).toArray) (fun b' aJ=>setRow_other w g b' _ fun e=>hI.apart g ho (e▸aJ)) fun _ h=>h;simpa [aV] using h2
       ·by_cases q2:z<j+i.cells
        ·rw [if_neg (by omega),if_pos (by omega),zB,if_neg q1,if_pos q2];have VD:=hZ (z-j) (by omega)
         have NF:fu ((bz y).getD (z-j) .χ)=true:=ej.1 g_ _ (by
          rw [fW,bF (show z-j<(bz y).length by omega)];exact ek _)
         have h2:=(nR NF VD.2).frame (w':=w.setRow g (cur.toList.take (q*K+j)++vy.cells.toList++cur.toList.drop (q*K+j+vy.cells.toList.length)).toArray) (fun b' aJ=>setRow_other w g b' _ fun e=>hI.apart g ho (e▸aJ)) fun _ h=>h;rw [show q*K+z-(q*K+j)=z-j by omega];exact ⟨by simpa [aV] using VD.1,by simpa [aV] using h2⟩
        ·rw [if_neg (by omega),if_neg (by omega),zB,if_neg q1,if_neg q2];rw [wy jE] at hold;have h2:=hold.2.frame (w':=w.setRow g (cur.toList.take (q*K+j)++vy.cells.toList++cur.toList.drop (q*K+j+vy.cells.toList.length)).toArray) (fun b' aJ=>setRow_other w g b' _ fun e=>hI.apart g ho (e▸aJ)) fun _ h=>h;exact ⟨by simpa [aV] using hold.1,by simpa [aV] using h2⟩
      ·rw [if_neg mW]
       have s6:q*K+z<m*K+j∨m*K+j+i.cells≤q*K+z:=by
        rcases Nat.lt_or_gt_of_ne mW with h|h
        ·left
         calc q*K+z<q*K+K:=by omega
          _=(q+1)*K:=by rw [bM];omega
          _≤m*K:=cI _ h
          _≤m*K+j:=by omega
        ·right
         calc m*K+j+i.cells≤m*K+K:=by omega
          _=(m+1)*K:=by rw [bM];omega
          _≤q*K:=cI _ h
          _≤q*K+z:=by omega
       have h2:=hold.2.frame (w':=w.setRow g (cur.toList.take (m*K+j)++vy.cells.toList++cur.toList.drop (m*K+j+vy.cells.toList.length)).toArray) (fun b' aJ=>setRow_other w g b' _ fun e=>hI.apart g ho (e▸aJ)) fun _ h=>h
       rcases s6 with h|h
       ·rw [if_pos h];exact ⟨by simpa [aV] using hold.1,by simpa [aV] using h2⟩
       ·rw [if_neg (by omega),if_neg (by omega)];exact ⟨by simpa [aV] using hold.1,by simpa [aV] using h2⟩
   ·cases h
  ·cases h
 ·cases h
end
section
variable {P:Program} {T:TT} {w:World} {F:Nat→Prop} {β:Nat→Value} {st:ah} {k:AV→ah→Prop}
def AO:Chunk→Bool
 |.box cells=>cells.all fu
 |.own ..=>true
 |.mp ..=>true
 |.lp ..=>false
 |.si ..=>true
def pI {F':Nat→Prop} {av:Nat→Value} {i j:Nat} {c:Chunk} (hc:AO c=true) (hF:∀b,F b→F' b) (ai:av j=β i) (h:c.holds w F β i):c.holds w F' av j:=by
 cases c with
 |box cells =>
  obtain ⟨b,cs,e,hb,hh,hs,h1,hr⟩:=h;refine ⟨b,cs,e,ai.trans hb,hh,hs,h1,fun k hk=>?_⟩;have:fu (cells.getD k .χ)=true:=ej.1 hc _ (by rw [fW,bF hk];exact ek _);exact .i ((nR this (hr k hk)).frame (fun _ _=>rfl) hF)
 |si s pos =>
  unfold Chunk.holds at *;rw [ai];exact h
 |mp ag rows =>
  unfold Chunk.holds at *;rw [ai];obtain ⟨b,es,ck,h0,hh,bT,hs,hm,hr⟩:=h;refine ⟨b,es,ck,h0,hh,bT,hs,hm,fun i r hi=>?_⟩;obtain ⟨e,h1,h2,h3,h4⟩:=hr i r hi;exact ⟨e,h1,h2,h3,h4.frame (fun _ _=>rfl) hF⟩
 |lp l e R L=>cases hc
 |own E K rows =>
  unfold Chunk.holds at *;rw [ai]
  rcases h with h|⟨g,cap,cur,hv,hc,hg,hn,hm,hs,hk,hr⟩
  ·exact .inl h
  ·exact .inr ⟨g,cap,cur,hv,hc,hg,hn,hm,hs,hk,fun i j hi hj=>⟨(hr i j hi hj).1,(hr i j hi hj).2.frame (fun _ _=>rfl) hF⟩⟩
def lG {id:Nat} {rows:List (List AV)}:∀{H:Hp} {i:Nat} {c:Chunk},(i,c)∈oC id rows H→i≠id∧∃c',(i,c')∈H∧c=Ty id rows c'
 |[],_,_,h=>by cases h
 |(j,c')::r,i,c,h=>by
  simp only [oC] at h;cases hb:aH j id with
  |true =>
   rw [hb] at h;obtain ⟨h1,c2,h2,h3⟩:=lG (H:=r) h;exact ⟨h1,c2,cj _ h2,h3⟩
  |false =>
   rw [hb] at h;simp only [cond_false,bj,im] at h
   rcases h with ⟨rfl,rfl⟩|h
   ·exact ⟨fun e=>(by rw [e,iY] at hb;cases hb),c',by simp,rfl⟩
   ·obtain ⟨h1,c2,h2,h3⟩:=lG (H:=r) h;exact ⟨h1,c2,cj _ h2,h3⟩
def DL {id:Nat} {rows:List (List AV)}:∀{H:Hp},(H.map (·.1)).Nodup→((oC id rows H).map (·.1)).Nodup
 |[],_=>by simp [oC]
 |(j,c)::r,h=>by
  simp only [jI,ix] at h;simp only [oC];cases hb:aH j id with
  |true=>exact DL h.2
  |false =>
   simp only [cond_false,jI,ix];refine ⟨fun hm=>?_,DL h.2⟩;obtain ⟨x,hx,lN⟩:=dq.1 hm;obtain ⟨i,c'⟩:=x;obtain ⟨_,c2,h2,_⟩:=lG hx;exact h.1 (dq.2 ⟨(i,c2),h2,lN⟩)
def Ws {id E K:Nat} {rows:List (List AV)} {u:Value} {H:Hp} (hI:Inv w F β H) (hm:(id,Chunk.own E K rows)∈H) (hu:Rd w F β (.o id) u):bh w (fun b=>F b∨bD β H b) (.s rows) u:=by
 obtain ⟨a,n,c,ai,rfl⟩:=hu.jY
 rcases hI.holds _ _ hm with ⟨rfl,a',hv⟩|⟨g,cap,cur,hv,hc,hg,hn,gu,hs,hK,hr⟩
 ·rw [ai] at hv;cases hv;exact .s0
 ·rw [ai] at hv;cases hv
  have h0:aH c 0=false:=by cases c<;>first|rfl|omega
  have eP:=(JG (hI.holds _ _ hm) ai).2.2.2;obtain ⟨u,hu⟩:=eP;exact .s (off:=0) (u:=u) (.inr ⟨id,_,hm,by rw [ai];simp [bP,h0]⟩) hn gu hK (fun i j hi hj=>by rw [jJ];exact (hu i j hi hj).1) (fun i j hi hj=>(hu i j hi hj).2.1) fun i j hi hj=>(hu i j hi hj).2.2.frame (fun _ _=>rfl) fun _ h=>.inl h
def oA (id:Nat) (H:Hp):Hp:=H.filter fun p=>!Nat.beq p.1 id
def wc {id:Nat} {H:Hp} {x:Nat×Chunk}:x∈oA id H↔x∈H∧x.1≠id:=by
 have hb:(!Nat.beq x.1 id)=true↔x.1≠id:=by
  cases h:aH x.1 id with
  |true=>simp [cW h]
  |false=>simp only [Bool.not_false,true_iff];exact fun e=>by rw [e,iY] at h;cases h
 unfold oA;rw [List.mem_filter,hb]
def Inv.oA {H:Hp} (h:Inv w F β H) (id:Nat):Inv w F β (oA id H) :=
 ⟨h.cA,fun i c hm=>h.holds i c (wc.1 hm).1,(List.Sublist.map _ (List.filter_sublist)).nodup h.keys,fun b ⟨i,c,hm,hb⟩=>h.apart b ⟨i,c,(wc.1 hm).1,hb⟩,
  fun i c i' c' b h1 h2=>h.eo i c i' c' b (wc.1 h1).1 (wc.1 h2).1,h.fh⟩
def MF {id E K:Nat} {rows:List (List AV)} {H:Hp} (hI:Inv w F β H) (hm:(id,Chunk.own E K rows)∈H) {u:Value} (hu:Rd w F β (.o id) u):bh w (fun b=>F b∨bP (β id)=some b) (.s rows) u:=by
 have h1:=hI.oA id
 have uF:Inv w F β [(id,.own E K rows)]:=⟨hI.cA,fun i c h=>by
   simp only [dB,im] at h;obtain ⟨rfl,rfl⟩:=h;exact hI.holds _ _ hm,by simp,
  fun b ⟨i,c,h,hb⟩=>by simp only [dB,im] at h;obtain ⟨rfl,rfl⟩:=h;exact hI.apart b ⟨_,_,hm,hb⟩,
  fun i c i' c' b h h' _ _=>by simp only [dB,im] at h h';rw [h.1,h'.1],hI.fh⟩
 refine (Ws uF (dB.2 rfl) hu).frame (fun _ _=>rfl) fun b hb=>hb.elim .inl fun ⟨i,c,h,hb⟩=>.inr ?_;simp only [dB,im] at h;rw [←h.1];exact hb
structure Src (w:World) (F:Nat→Prop) (K:Nat) (rows:List (List AV)) (ad:Addr) (news:List Value):Prop where
 len:news.length=rows.length*K
 cell:∀j v,news[j]?=some v→w.cell? (ad.add j)=some v
 one:∀u,u∈news→u.oneCell'=true
 rd:∀i j,i<rows.length→j<K→bh w F ((rows.getD i []).getD j .χ) (news.getD (i*K+j) undef)
def Qx {K K' b off:Nat} {rows:List (List AV)} {u:Nat→Nat→Value} (hlen:o9 rows K) (hK:∀i,i<rows.length→(rows.getD i []).length=K')
  (hv:∀i j,i<rows.length→j<K'→w.cell? ⟨b,off+(i*K'+j),none⟩=some (u i j)∧(u i j).oneCell'=true∧bh w F ((rows.getD i []).getD j .χ) (u i j)) :
  ∃news,Src w F K rows ⟨b,off,none⟩ news:=by
 have A4:rows=[]∨K'=K:=by
  cases rows with
  |nil=>exact .inl rfl
  |cons r rs=>exact .inr ((hK 0 (by simp)).symm.trans (hlen r (by simp)))
 refine ⟨(gA (rows.length*K)).map fun q=>u (q/K) (q % K),by simp,fun q v hq=>?_,fun v jU=>?_,fun i j hi hj=>?_⟩
 ·simp only [uj,De] at hq;obtain ⟨q',wP,rfl⟩:=hq;obtain ⟨Φ,rfl⟩:=fk.1 wP
  have Φ:q<rows.length*K:=by simpa using Φ
  simp only [List.getElem_range]
  rcases A4 with rfl|rfl
  ·simp at Φ
  ·have kQ:0<K':=by
    rcases oY K' with h|h
    ·rw [h] at Φ;simp at Φ
    ·exact h
   have h1:q/K'<rows.length:=(qP kQ).2 Φ;have:=(hv (q/K') (q % K') h1 (se _ kQ)).1;rw [gk]
   have e:q/K'*K'+q % K'=q:=by rw [oi];exact RU q K'
   rwa [e] at this
 ·obtain ⟨q,hq,rfl⟩:=dq.1 jU
  have Φ:q<rows.length*K:=by simpa using hq
  rcases A4 with rfl|rfl
  ·simp at Φ
  ·have kQ:0<K':=by
    rcases oY K' with h|h
    ·rw [h] at Φ;simp at Φ
    ·exact h
   exact (hv (q/K') (q % K') ((qP kQ).2 Φ) (se _ kQ)).2.1
 ·rcases A4 with rfl|rfl
  ·simp at hi
  ·have Φ:i*K'+j<rows.length*K':=by
    calc i*K'+j<i*K'+K':=by omega
     _=(i+1)*K':=by rw [bM];omega
     _≤rows.length*K':=cI _ hi
   have e1:(i*K'+j)/K'=i:=by rw [oi,al3 (by omega)];simp [al2 hj]
   have e2:(i*K'+j) % K'=j:=by rw [oi,Dd];exact Dc hj
   have:=(hv i j hi hj).2.2;simpa [aV,Φ,e1,e2] using this
def aij {x:AV} {vx:Value} {no K:Nat} {kk:List (List AV)→Prop} (hI:Inv w F β st.H) (hx:Rd w F β x vx) (h:Qw x no st.H kk) (hk:∀rows,kk rows→o9 rows K) :
  ∃rows,kk rows∧((vx=.slice none 0 0∧rows=[])∨∃ad c news,vx=.slice (some ad) rows.length c∧Src w F K rows ad news):=by
 unfold Qw at h;split at h
 ·rename_i rows;refine ⟨rows,h,?_⟩
  rcases hx.oR.tJ with ⟨rfl,a,rfl⟩|⟨b,off,c,K',v,hb,hc,hm,rfl,hK,hv⟩
  ·cases a with
   |none=>exact .inl ⟨rfl,rfl⟩
   |some ad=>exact .inr ⟨ad,0,[],rfl,by simp,fun j v hj=>by simp at hj,fun u hu=>by simp at hu,fun i j hi=>by simp at hi⟩
  ·obtain ⟨news,hn⟩:=Qx (hk _ h) hK hv;exact .inr ⟨_,_,news,rfl,hn⟩
 ·cases hx.bK;exact ⟨[],h,.inl ⟨rfl,rfl⟩⟩
 ·rename_i id;cases hb:aH id no with
  |true=>rw [hb] at h;cases h
  |false =>
   rw [hb] at h;simp only [cond_false] at h;split at h
   ·rename_i E K' rows hc;refine ⟨rows,h,?_⟩;obtain ⟨a,n,c,ai,rfl⟩:=hx.jY;have hh:=hI.holds _ _ (fc hc)
    rcases tr hh with ⟨rfl,a',hv⟩|⟨g,cap,hv,hm,hn⟩
    ·rw [ai] at hv;cases hv;cases a with
     |none=>exact .inl ⟨rfl,rfl⟩
     |some ad =>
      refine .inr ⟨ad,0,[],rfl,by simp,fun j v hj=>by simp at hj,fun u hu=>by simp at hu,fun i j hi=>by simp at hi⟩
    ·rw [ai] at hv;cases hv;obtain ⟨_,_,_,u,hu⟩:=JG hh ai;obtain ⟨news,hn⟩:=Qx (b:=g) (off:=0) (u:=u) (hk _ h) (Wr hh) (fun i j hi hj=>by have:=hu i j hi hj;rwa [jJ]);exact .inr ⟨_,_,news,rfl,hn⟩
   ·cases h
 ·cases h
def Fg {d E K cap:Nat} {rows:List (List AV)} {us:Array Value} {w1:World} (hd:d<1000) (hI:Inv w F β st.H) (hh:w1.heap=w.heap) (ho:w1.os=w.os) (ht:js w w1) (hp:w1.output=w.output)
  (hs:us.size=cap*K) (hn:rows.length≤cap) (hm:cap≤maxLen) (hK:∀i,i<rows.length→(rows.getD i []).length=K)
  (hr:∀i j,i<rows.length→j<K→(us.getD (i*K+j) undef).oneCell'=true∧bh w F ((rows.getD i []).getD j .χ) (us.getD (i*K+j) undef))
  (hk:k (.o d) (gR st d (.own E K rows))):EPost w F β st k (.slice (some ⟨w.heap.size,0,none⟩) rows.length cap) (w1.alloc (.cells us E)):=by
 have aS:∀b,b<w.heap.size→(w1.alloc (.cells us E)).heap[b]?=w.heap[b]?:=fun b hb=>by
  rw [_root_.Go.heap_alloc_old w1 _ (by rw [hh];exact hb),hh]
 have eU:(w1.alloc (.cells us E)).heap[w.heap.size]?=some (.cells us E (0,0)):=by rw [←hh];exact heap_alloc_new w1 _
 have ha:ga F w (w1.alloc (.cells us E)):=fun b hb=>aS b (hI.cA b hb);refine ⟨_,_,F,_,hk,.o (by simp),qd (v:=.slice (some ⟨w.heap.size,0,none⟩) rows.length cap) hd hI ho ht hp (by simp [hh]) (fun b hb _=>aS b hb) (fun i c b _ hm hb=>aS b (hI.fJ ⟨i,c,hm,hb⟩)) (fun b hb=>?_) ?_⟩
 ·cases h0:aH cap 0<;>simp [bP,h0] at hb
  left;omega
 ·by_cases h0:cap=0
  ·subst h0;have:rows=[]:=qL (by omega);subst this;exact .inl ⟨rfl,_,by simp;rfl⟩
  ·exact .inr ⟨w.heap.size,cap,us,by simp,by omega,eU,hn,hm,hs,hK,fun i j hi hj=>⟨(hr i j hi hj).1,(hr i j hi hj).2.frame ha fun _ h=>h⟩⟩
def vS (A:Array Value) (l:List Value) (h:A.toList=l) (i:Nat):A.getD i undef=l.getD i undef:=by
 subst h;simp [lA,aV]
def Lg (z:Array Value) (n:Nat):(dI z n).size=n*z.size:=by simp [dI]
def Kb {rows bR:List (List AV)} {K:Nat} {xs news zs:List Value} (hx:xs.length=rows.length*K) (hn:news.length=bR.length*K)
  {Q:AV→Value→Prop} (h1:∀i j,i<rows.length→j<K→Q ((rows.getD i []).getD j .χ) (xs.getD (i*K+j) undef))
  (h2:∀i j,i<bR.length→j<K→Q ((bR.getD i []).getD j .χ) (news.getD (i*K+j) undef)) :
  ∀i j,i<(rows++bR).length→j<K→Q (((rows++bR).getD i []).getD j .χ) ((xs++news++zs).getD (i*K+j) undef):=by
 intro i j hi hj
 have below:∀m n,m<n→m*K+j<n*K:=fun m n h=>by
  calc m*K+j<m*K+K:=by omega
   _=(m+1)*K:=by rw [bM];omega
   _≤n*K:=cI _ h
 simp only [cP] at hi;by_cases Φ:i<rows.length
 ·have:=below i rows.length Φ
  have e1:(rows++bR).getD i []=rows.getD i []:=by simp [aV,gK,Φ]
  have e2:(xs++news++zs).getD (i*K+j) undef=xs.getD (i*K+j) undef:=by
   simp [aV,gK,hx,this]
  rw [e1,e2];exact h1 i j Φ hj
 ·have hb:=below (i-rows.length) bR.length (by omega);have gI:rows.length*K≤i*K+j:=fo (cI K (al1 Φ)) (Nat.le_add_right _ _)
  have e1:(rows++bR).getD i []=bR.getD (i-rows.length) []:=by simp [aV,gK,Φ]
  have e0:i*K+j-rows.length*K=(i-rows.length)*K+j:=by rw [Nat.sub_mul];have:=cI K (al1 Φ);omega
  have e2:(xs++news++zs).getD (i*K+j) undef=news.getD ((i-rows.length)*K+j) undef:=by
   have h3:¬i*K+j<rows.length*K:=by omega
   simp [aV,gK,hx,hn,h3,e0,hb]
  rw [e1,e2];exact h2 _ j (by omega) hj
def Px {rows bR:List (List AV)} {K:Nat} (h1:∀i,i<rows.length→(rows.getD i []).length=K) (h2:o9 bR K):∀i,i<(rows++bR).length→((rows++bR).getD i []).length=K:=by
 intro i hi;simp only [cP] at hi;by_cases Φ:i<rows.length
 ·have e1:(rows++bR).getD i []=rows.getD i []:=by simp [aV,gK,Φ]
  rw [e1];exact h1 i Φ
 ·have s5:i-rows.length<bR.length:=by omega
  have e1:(rows++bR).getD i []=bR[i-rows.length]:=by simp [aV,gK,Φ,s5]
  rw [e1];exact h2 _ (ek _)
def ag3 (w:World) (t tx ty e:TypeId) (i:TypeInfo) (ht:P.underlying t=some (.slice e)) (hi:P.info? e=some i) (g lO z8:Nat) (cur:Array Value) (hg:w.heap[g]?=some (.cells cur e (0,0)))
  (x:Value) (n:Nat) (news:List Value) (hs:Go.Src P i.size tx x n news w) (fz:lO+n≤z8) (jh:lO*i.size+news.length≤cur.size) :
  (ig #[t,tx] ty #[.slice (some ⟨g,0,none⟩) lO z8,x]).run P w =
   .ok (.slice (some ⟨g,0,none⟩) (lO+n) z8) (w.setRow g (cur.toList.take (lO*i.size)++news++cur.toList.drop (lO*i.size+news.length)).toArray):=by
 have bT:=run_storeCells_at P g (lO*i.size) e news 0 cur w hg (by simpa using jh) hs.one;simp only [lW] at bT
 rcases hs.kind with ⟨e',hk⟩|hk<;>simp [ig,run_underlying ht,run_underlying hk,sizeOf,typeInfo,hi,hs.len,fz,hs.cells,gk,bT]
structure Hl (w:World) (F:Nat→Prop) (K:Nat) (rows:List (List AV)) (news:List Value):Prop where
 len:news.length=rows.length*K
 one:∀u,u∈news→u.oneCell'=true
 rd:∀i j,i<rows.length→j<K→bh w F ((rows.getD i []).getD j .χ) (news.getD (i*K+j) undef)
structure xM (P:Program) (t tx ty e:TypeId) (i:TypeInfo) (z:Value) (vx:Value) (n:Nat) (news:List Value) (w:World):Prop where
 none:n=0→news=[]→∀(base:Option Addr) (len cap:Nat),len≤cap→(ig #[t,tx] ty #[.slice base len cap,vx]).run P w=.ok (.slice base len cap) w
 grow:∀(base:Option Addr) (len cap:Nat) (olds:List Value),(xB i.size len (.slice base len cap)).run P w.drew=.ok olds.toArray w.drew→cap<len+n→((len+n:Nat):Int)≤9223372036854775807 →
  Ru (len+n) cap*i.bytes≤281474976710656→(ig #[t,tx] ty #[.slice base len cap,vx]).run P w =
   .ok (.slice (some ⟨w.heap.size,0,.none⟩) (len+n) (grownCap w (len+n) cap e)) (w.drew.alloc (.cells ((olds++news).toArray++dI z.cells (grownCap w (len+n) cap e-(len+n))) e))
 room:∀(g len cap:Nat) (cur:Array Value),w.heap[g]?=some (.cells cur e (0,0))→len+n≤cap→len*i.size+news.length≤cur.size →
  (ig #[t,tx] ty #[.slice (some ⟨g,0,.none⟩) len cap,vx]).run P w =
   .ok (.slice (some ⟨g,0,.none⟩) (len+n) cap) (w.setRow g (cur.toList.take (len*i.size)++news++cur.toList.drop (len*i.size+news.length)).toArray)
def xM.ae2 {t tx ty e:TypeId} {i:TypeInfo} {z vx:Value} {n:Nat} {news:List Value} (hu:P.underlying t=some (.slice e)) (hi:P.info? e=some i) (hz:i.zero=some z) (h:Go.Src P i.size tx vx n news w):xM P t tx ty e i z vx n news w where
 none h0 h1 base len cap hle:=by subst h0;subst h1;exact run_append_nothing w t tx ty e i hu hi base len cap hle vx h
 grow base len cap olds hold hg MS jh:=run_append_grow_src (P:=P) w t tx ty e i z hu hi hz base len cap olds hold vx n news h hg MS jh
 room g len cap cur hg fz jh:=ag3 (P:=P) w t tx ty e i hu hi g len cap cur hg vx n news h fz jh
def xM.ak0 {t tx ty e:TypeId} {i:TypeInfo} {z:Value} {kx kn:IntKind} {n:Nat} (hu:P.underlying t=some (.slice e)) (iS:P.underlying tx=some (.int kn)) (hi:P.info? e=some i) (hz:i.zero=some z) (iH:z.cells.size=i.size) (h1:∀v,v∈(dI z.cells n).toList→v.oneCell'=true)
  (hn:n≤140737488355328) (kS:n*i.bytes≤140737488355328):xM P t tx ty e i z (.int kx (n:Int)) n (dI z.cells n).toList w:=by
 have qp:IntKind.i64.wrap (n:Int)=(n:Int):=qI _ (by omega)
 have acj:(n:Int)*(i.bytes:Int)≤140737488355328:=by
  have h5:((n*i.bytes:Nat):Int)=(n:Int)*(i.bytes:Int):=RI _ _;rw [←h5];omega
 have g1:¬((n:Int)<0):=by omega
 have g2:¬(281474976710656<(n:Int)*(i.bytes:Int)):=by omega
 have ES:n*i.size=0→dI z.cells n=#[]:=fun h=>by simp [dI,iH,h]
 refine ⟨fun h0 _ base len cap hle=>?_,fun base len cap olds hold hg MS jh=>?_,fun g len cap cur hg fz jh=>?_⟩
 ·subst h0;have EL:IntKind.i64.wrap 0=0:=rfl;cases base<;>simp [ig,run_underlying hu,run_underlying iS,sizeOf,typeInfo,hi,asInt,asIntOf,EL,hle,storeCells]
 ·have wL:¬(len+n≤cap):=by omega
  have TW:¬(9223372036854775807<((len:Int)+(n:Int))):=by omega
  have TV:¬(281474976710656<Ru (len+n) cap*i.bytes):=by omega
  by_cases h5:n*i.size=0
  ·simp [ig,run_underlying hu,run_underlying iS,sizeOf,typeInfo,zeroValue,hi,hz,asInt,asIntOf,qp,g1,g2,wL,TW,TV,h5,ES h5,RZ,hold,newRow,grownCap]
  ·simp [ig,run_underlying hu,run_underlying iS,sizeOf,typeInfo,zeroValue,hi,hz,asInt,asIntOf,qp,g1,g2,wL,TW,TV,h5,RZ,hold,newRow,grownCap];congr 2;apply Array.ext';simp [kD]
 ·have bT:=run_storeCells_at P g (len*i.size) e (dI z.cells n).toList 0 cur w hg (by simpa using jh) h1;simp only [lW] at bT;by_cases h5:n*i.size=0
  ·rw [ES h5] at bT ⊢;simp [ig,run_underlying hu,run_underlying iS,sizeOf,typeInfo,hi,asInt,asIntOf,qp,g1,g2,fz,h5,gk,bT]
  ·simp [ig,run_underlying hu,run_underlying iS,sizeOf,typeInfo,zeroValue,hi,hz,asInt,asIntOf,qp,g1,g2,fz,h5,gk,bT]
def Sn {t tx e L:Nat} {i j:TI} {ty:TypeId} {rows bR:List (List AV)} {v vx:Value} (hd:L<1000) (hT:bL P T) (hI:Inv w F β st.H) (hi:T t=some i) (he:i.kind=.slice e) (hj:T e=some j)
  (ep:j.bytes≠0) (hz:j.zero.cells.size=j.cells)
  (hv:(rows=[]∧v=.slice none 0 0)∨((L,Chunk.own e j.cells rows)∈st.H∧β L=v))
  (hx:∃news,(∀i z,P.info? e=some i→i.zero=some z→i.size=j.cells→i.bytes=j.bytes→xM P t tx ty e i z vx bR.length news w)∧Hl w F j.cells bR news)
  (hlen:o9 bR j.cells) (nF:(rows.length+bR.length)*j.bytes≤140737488355328)
  (hk:k (.o L) (gR st L (.own e j.cells (rows++bR)))) :
  ∃v' w',(ig #[t,tx] ty #[v,vx]).run P w=.ok v' w'∧EPost w F β st k v' w':=by
 have hu:=(hT _ _ hi).slice he;obtain ⟨inf,pB,hzero,eM,kS⟩:=(hT _ _ hj).info;have dR:rows.length+bR.length≤140737488355328:=fo (RV _ (RY ep)) nF
 have jC:rows.length+bR.length≤maxLen:=by unfold maxLen;omega
 have same:∀a,(rows=[]∧v=.slice none 0 0)∨((L,Chunk.own e j.cells rows)∈st.H∧β L=v)→bR=[]→v=.slice a rows.length rows.length∨True→EPost w F β st k v w:=by
  intro a jU hr _;subst hr;refine ⟨_,_,F,fun q=>if q=L then v else β q,hk,?_,qd (v:=v) hd hI rfl ⟨rfl,fun _=>(by first|exact bG _|exact j3 _)⟩ rfl (bG _) (fun _ _ _=>rfl) (fun _ _ _ _ _ _=>rfl) (fun b hb=>?_) ?_⟩
  ·rcases jU with ⟨_,rfl⟩|⟨hm,ai⟩
   ·exact .o (by simp)
   ·rcases tr (hI.holds _ _ hm) with ⟨_,a,ha⟩|⟨g,cap,ha,_⟩
    ·rw [ai] at ha;subst ha;exact .o (by simp)
    ·rw [ai] at ha;subst ha;exact .o (by simp)
  ·rcases jU with ⟨_,rfl⟩|⟨hm,ai⟩
   ·simp [bP] at hb
   ·exact .inr ⟨_,hm,by rw [ai];exact hb⟩
  ·rw [qJ]
   rcases jU with ⟨rfl,rfl⟩|⟨hm,ai⟩
   ·exact .inl ⟨rfl,none,by simp⟩
   ·have:=hI.holds _ _ hm;unfold Chunk.holds at this ⊢;simpa [ai] using this
 have form:(rows=[]∧∃a,v=.slice a 0 0)∨∃g cap cur,(L,Chunk.own e j.cells rows)∈st.H∧β L=v∧v=.slice (some ⟨g,0,none⟩) rows.length cap∧0<cap∧w.heap[g]?=some (.cells cur e (0,0))∧rows.length≤cap∧cap≤maxLen ∧
   cur.size=cap*j.cells∧(∀i,i<rows.length→(rows.getD i []).length=j.cells) ∧
   ∀q z,q<rows.length→z<j.cells→(cur.getD (q*j.cells+z) undef).oneCell'=true∧bh w F ((rows.getD q []).getD z .χ) (cur.getD (q*j.cells+z) undef):=by
  rcases hv with ⟨hr,rfl⟩|⟨hm,ai⟩
  ·exact .inl ⟨hr,none,rfl⟩
  ·rcases hI.holds _ _ hm with ⟨hr,a,ha⟩|⟨g,cap,cur,ha,h1,h2,h3,h4,h5,h6,h7⟩
   ·exact .inl ⟨hr,a,by rw [←ai,ha]⟩
   ·exact .inr ⟨g,cap,cur,hm,ai,by rw [←ai,ha],h1,h2,h3,h4,h5,h6,h7⟩
 obtain ⟨news,wJ,iG⟩:=hx;have Iy:=wJ inf _ pB hzero eM kS
 have Ex:news.length=bR.length*inf.size:=by rw [eM];exact iG.len
 ·
  rcases form with ⟨rfl,a,rfl⟩|⟨g,cap,cur,hm,ai,rfl,iP,hg,hn,gu,fZ,hK,fy⟩
  ·by_cases h0:bR=[]
   ·subst h0;refine ⟨_,w,?_,same none hv rfl (.inr LF)⟩;have Bq:news=[]:=qL (by simpa using iG.len);subst Bq;exact Iy.none rfl rfl a 0 0 (bG _)
   ·have rz:0<bR.length:=List.length_pos_iff.2 h0;simp only [List.length_nil,jJ] at nF dR jC;have Et:=grownCap_ge w bR.length 0 e;have Eu:=grownCap_le_maxLen w bR.length 0 e jC
    have post:EPost w F β st k (.slice (some ⟨w.heap.size,0,none⟩) bR.length (grownCap w bR.length 0 e)) (w.drew.alloc (.cells (news.toArray++dI j.zero.cells (grownCap w bR.length 0 e-bR.length)) e)):=by
     refine Fg (d:=L) (K:=j.cells) (rows:=bR) hd hI rfl rfl ⟨rfl,fun _=>j3 _⟩ rfl ?_ Et Eu (fun q hq=>?_) (fun q z hq hz=>?_) (by simpa using hk)
     ·simp only [ue,lC,Lg,iG.len,hz,←bM];congr 1;omega
     ·have:=hlen (bR.getD q []) (by rw [fW,bF hq];exact ek _);exact this
     ·have:=Kb (rows:=[]) (xs:=[]) (zs:=(dI j.zero.cells (grownCap w bR.length 0 e-bR.length)).toList) (Q:=fun x u=>u.oneCell'=true∧bh w F x u) (by simp) iG.len (fun _ _ h=>by simp at h) (fun i j' hi dz=>⟨iG.one _ ?_,iG.rd i j' hi dz⟩) q z (by simpa using hq) hz
      ·rw [vS _ ([]++news++(dI j.zero.cells (grownCap w bR.length 0 e-bR.length)).toList) (by simp)];exact this
      ·have Φ:i*j.cells+j'<news.length:=by
        rw [iG.len]
        calc i*j.cells+j'<i*j.cells+j.cells:=by omega
         _=(i+1)*j.cells:=by rw [bM];omega
         _≤bR.length*j.cells:=cI _ hi
       rw [fW,bF Φ];exact ek _
    have hold:(xB inf.size 0 (.slice a 0 0)).run P w.drew=.ok ([]:List Value).toArray w.drew:=by cases a<;>simp [xB,loadCells,loadCellsFrom]
    have hr:=Iy.grow a 0 0 [] hold (by omega) (by omega) (by rw [kS];exact growslice_fits (by omega) (by rw [jJ];exact nF));simp only [jJ,List.nil_append] at hr;exact ⟨_,_,hr,post⟩
  ·-- a block of its own
   have hrc:rows.length*j.cells≤cap*j.cells:=cI _ hn
   have h0:aH cap 0=false:=by cases cap<;>first|rfl|omega
   have db:bD β st.H g:=⟨L,_,hm,by rw [ai];simp [bP,h0]⟩;let xs:List Value:=cur.toList.take (rows.length*j.cells)
   have nQ:xs.length=rows.length*j.cells:=by simp only [xs,dN,lR];omega
   have below:∀(m n z:Nat),m<n→z<j.cells→m*j.cells+z<n*j.cells:=fun m n z h hz=>by
    calc m*j.cells+z<m*j.cells+j.cells:=by omega
     _=(m+1)*j.cells:=by rw [bM];omega
     _≤n*j.cells:=cI _ h
   have hxg:∀q z,q<rows.length→z<j.cells→xs.getD (q*j.cells+z) undef=cur.getD (q*j.cells+z) undef:=fun q z hq hz=>by
    have h1:=below q rows.length z hq hz
    have h2:q*j.cells+z<cur.size:=by omega
    simp [xs,aV,h1,h2]
   have h2:∀q z,q<bR.length→z<j.cells→(news.getD (q*j.cells+z) undef).oneCell'=true∧bh w F ((bR.getD q []).getD z .χ) (news.getD (q*j.cells+z) undef):=fun q z hq hz=>by
    refine ⟨iG.one _ ?_,iG.rd q z hq hz⟩
    have Φ:q*j.cells+z<news.length:=by rw [iG.len];exact below q _ z hq hz
    rw [fW,bF Φ];exact ek _
   have h1:∀q z,q<rows.length→z<j.cells→(xs.getD (q*j.cells+z) undef).oneCell'=true∧bh w F ((rows.getD q []).getD z .χ) (xs.getD (q*j.cells+z) undef):=fun q z hq hz=>by
    rw [hxg q z hq hz];exact fy q z hq hz
   by_cases fz:rows.length+bR.length≤cap
   ·have jh:rows.length*inf.size+news.length≤cur.size:=by
     rw [Ex,eM,fZ,←bM];exact cI _ fz
    have hr:=Iy.room g rows.length cap cur hg fz jh;rw [eM] at hr;refine ⟨_,_,hr,_,_,F,fun q=>if q=L then .slice (some ⟨g,0,none⟩) (rows.length+bR.length) cap else β q,hk,.o (by simp),?_⟩;have hU:∀b cs,b≠g→(w.setRow g cs).heap[b]?=w.heap[b]?:=fun b cs hb=>setRow_other w g b cs hb;refine qd (v:=.slice (some ⟨g,0,none⟩) (rows.length+bR.length) cap) hd hI rfl ⟨rfl,fun _=>(by first|exact bG _|exact j3 _)⟩ rfl (by simp) (fun b _ ho=>hU b _ fun e=>ho (e▸db)) (fun i' c' b aQ bQ hb=>hU b _ fun e=>aQ (hI.eo i' c' L _ b bQ hm hb (by rw [ai,e];simp [bP,h0]))) (fun b hb=>?_) (.inr ?_)
    ·refine .inr ⟨_,hm,?_⟩;rw [ai];simpa [bP,h0] using hb
    ·have ha:∀cs,ga F w (w.setRow g cs):=fun cs b hb=>hU b cs fun e=>hI.apart g db (e▸hb);refine ⟨g,cap,(xs++news++cur.toList.drop (rows.length*j.cells+news.length)).toArray,by simp,iP,setRow_heap w g cur _ e _ hg,by simpa using fz,gu,?_,Px hK hlen,fun q z hq hz=>?_⟩
     ·simp only [lC,cP,lV,lR];rw [eM] at jh;omega
     ·have:=Kb (zs:=cur.toList.drop (rows.length*j.cells+news.length)) (Q:=fun x u=>u.oneCell'=true∧bh w F x u) nQ iG.len h1 h2 q z hq hz;rw [vS _ (xs++news++cur.toList.drop (rows.length*j.cells+news.length)) rfl];exact ⟨this.1,this.2.frame (ha _) fun _ h=>h⟩
   ·have eP:∀q u,xs[q]?=some u→w.cell? ((⟨g,0,none⟩:Addr).add q)=some u:=fun q u hq=>by
     rw [gk,jJ,cell_of_row w g q cur e (0,0) hg];simp only [xs,gn] at hq;split at hq
     ·simpa using hq
     ·cases hq
    have hold:=run_firstCells_some (P:=P) w.drew inf.size rows.length ⟨g,0,none⟩ rows.length cap xs (by rw [eM];exact nQ) (by simpa using eP);have hr:=Iy.grow (some ⟨g,0,none⟩) rows.length cap xs hold (by omega) (by omega) (by rw [kS];exact growslice_fits (by omega) nF);refine ⟨_,_,hr,?_⟩;have Et:=grownCap_ge w (rows.length+bR.length) cap e;have Eu:=grownCap_le_maxLen w (rows.length+bR.length) cap e jC;have:=Fg (d:=L) (E:=e) (K:=j.cells) (cap:=grownCap w (rows.length+bR.length) cap e) (rows:=rows++bR) (us:=(xs++news).toArray++dI j.zero.cells (grownCap w (rows.length+bR.length) cap e-(rows.length+bR.length)))
     (w1:=w.drew) (k:=k) hd hI rfl rfl ⟨rfl,fun _=>j3 _⟩ rfl ?_ (by simpa using Et) Eu (Px hK hlen) (fun q z hq hz=>?_) hk
    ·simpa using this
    ·simp only [ue,lC,cP,Lg,iG.len,nQ,hz,←bM];congr 1;omega
    ·have:=Kb (zs:=(dI j.zero.cells (grownCap w (rows.length+bR.length) cap e-(rows.length+bR.length))).toList) (Q:=fun x u=>u.oneCell'=true∧bh w F x u) nQ iG.len h1 h2 q z hq hz;rw [vS _ (xs++news++(dI j.zero.cells (grownCap w (rows.length+bR.length) cap e-(rows.length+bR.length))).toList) (by simp)];exact this
def LY {t tx e L:Nat} {i j:TI} {ty:TypeId} {rows bR:List (List AV)} {v vx:Value} (hd:L<1000) (hT:bL P T) (hI:Inv w F β st.H) (hi:T t=some i) (he:i.kind=.slice e) (hj:T e=some j)
  (ep:j.bytes≠0) (hz:j.zero.cells.size=j.cells)
  (hv:(rows=[]∧v=.slice none 0 0)∨((L,Chunk.own e j.cells rows)∈st.H∧β L=v))
  (hx:∃news,Go.Src P j.cells tx vx bR.length news w∧Hl w F j.cells bR news)
  (hlen:o9 bR j.cells) (nF:(rows.length+bR.length)*j.bytes≤140737488355328)
  (hk:k (.o L) (gR st L (.own e j.cells (rows++bR)))) :
  ∃v' w',(ig #[t,tx] ty #[v,vx]).run P w=.ok v' w'∧EPost w F β st k v' w':=by
 have hu:=(hT _ _ hi).slice he;obtain ⟨news,wJ,iG⟩:=hx;exact Sn hd hT hI hi he hj ep hz hv ⟨news,fun i z h1 h2 h3 _=>xM.ae2 hu h1 h2 (by rw [h3];exact wJ),iG⟩ hlen nF hk
end
section
variable {P:Program} {T:TT} {w:World} {F:Nat→Prop} {β:Nat→Value} {st:ah} {k:AV→ah→Prop}
def abx {t d:Nat} (hd:d<1000) (hT:bL P T) (hI:Inv w F β st.H) (h:Mt T t d st k):c8 P (do pure (.value (←RG t none))) w F β st k:=by
 unfold Mt at h;split at h
 ·rename_i ti jF;split at h
  ·rename_i kt e hk;split at h
   ·rename_i ik ie nI uL;split at h
    ·have aZ:(RG t none).run P w=.ok (.map (some w.heap.size)) (w.alloc (.map #[] 0)):=by simp [RG,newObj,G']
     have hb:=vV w (.map #[] 0);have eU:(w.alloc (.map #[] 0)).heap[w.heap.size]?=some (.map #[] 0):=(Go.MapKept.heap_alloc w _).1;refine c8.value aZ ⟨_,_,F,fun q=>if q=d then .map (some w.heap.size) else β q,h,.m (by simp),qd (v:=.map (some w.heap.size)) hd hI hb.os hb.tape hb.output hb.size (fun b aJ _=>hb.block b aJ) (fun i c' b _ hm aJ=>hb.block b (hI.fJ ⟨i,c',hm,aJ⟩)) (fun b aJ=>.inl ?_) ?_⟩
     ·simp [bP] at aJ;omega
     ·exact ⟨w.heap.size,#[],0,by simp,eU,Go.MapKept.stamped_empty 0,rfl,by simp,fun i r hi=>by simp at hi⟩
    ·cases h
   ·cases h
  ·cases h
 ·cases h
def XR {w:World} {b b':Nat} (o:Obj) (h:b'≠b):({ w with heap:=w.heap.setIfInBounds b o }:World).heap[b']?=w.heap[b']?:=by
 simp [Array.getElem?_setIfInBounds,Ne.symm h]
def Tc {t:Nat} {m i y:AV} {vm vi vy:Value} (hT:bL P T) (hI:Inv w F β st.H) (hm:Rd w F β m vm) (hi:Rd w F β i vi) (hy:Rd w F β y vy) (h:HW T t m i y st k) :
  c8 P (do G0 t vm vi vy;pure .skip) w F β st k:=by
 unfold HW at h;split at h
 ·rename_i ti jF;split at h
  ·rename_i kt e hk;have hu:=(hT _ _ jF).map hk;split at h
   ·rename_i ik nI;split at h
    ·rename_i id n rm;have hd:=(hT _ _ nI).int rm;cases hi.bK;split at h
     ·rename_i ag rows hc;split at h
      ·rename_i yc hyc;obtain ⟨hn,hlen,R,rfl,cJ⟩:=h;have bC:=fc hc;obtain ⟨b,ai,rfl⟩:=hm.zD;obtain ⟨b',es,ck,iU,hh,bT,hs,gu,wS⟩:=hI.holds _ _ bC;rw [ai] at iU;cases iU;have ra:b<w.heap.size:=kJ hh;have hg:=Go.MapKept.run_getObj_map (P:=P) hh;have eQ:=Go.MapKept.run_checkKey (P:=P) (w:=w) (k:=.int .i64 n) hd rfl false 9999;obtain ⟨ed,hf⟩:=Ts bT hs wS n;have VB:=Wf hyc hy
       have hblk:bP (β id)=some b:=by rw [ai];rfl
       have fin:∀(nC:Array MapEntry) (Dv:Nat),(G0 t (.map (some b)) (.int .i64 n) vy).run P w=.ok () { w with heap:=w.heap.setIfInBounds b (.map nC Dv) } →
         Go.MapKept.Stamped nC Dv→nC.size=(cO n yc rows).length→nC.size≤140737488355328 →
         (∀(i:Nat) (r:Int×List AV),(cO n yc rows)[i]?=some r→∃e:MapEntry,nC[i]?=some e∧e.key=.int .i64 r.1∧Ξ r.1∧bh w F (rT ag r.2) e.val) →
         c8 P (do G0 t (.map (some b)) (.int .i64 n) vy;pure .skip) w F β st k:=fun nC Dv aZ h1 h2 h3 h4=>by
        have sP:ga F w { w with heap:=w.heap.setIfInBounds b (.map nC Dv) }:=fun q hq=>XR _ fun e=>hI.apart b ⟨id,_,bC,hblk⟩ (e▸hq);refine c8.skip aZ ⟨_,_,F,β,cJ,.i (.v (.inr rfl)),wj hI bC rfl ⟨rfl,fun _=>bG _⟩ rfl (by simp) (fun b' aJ=>XR _ fun e=>aJ (by rw [hblk,e])) ?_⟩;refine ⟨b,nC,Dv,ai,(Go.MapKept.heap_set hh).1,h1,h2,h3,fun i r nJ=>?_⟩;obtain ⟨e,g1,g2,g3,g4⟩:=h4 i r nJ;exact ⟨e,g1,g2,g3,g4.frame sP fun _ h=>h⟩
       rcases hf with ⟨h1,h2,h3⟩|⟨j,e0,c',h1,h2,UM,h3,h4,_,h6⟩
       ·have yQ:=GY (P:=P) (w:=w) hd h1
        have jS:cO n yc rows=rows++[(n,yc)]:=by
         rcases BL n yc rows with ⟨_,h,_⟩|⟨j,c,_,h,_⟩
         ·exact h
         ·rw [h2] at h;cases h
        refine fin (es.push { key:=.int .i64 n,val:=vy,born:=ck }) (ck+1) ?_ (Go.MapKept.stamped_push bT h3) (by rw [jS];simp [hs]) (by simp;omega) (fun i r nJ=>?_)
        ·have Of:=ZT (P:=P) (.map (es.push { key:=.int .i64 n,val:=vy,born:=ck }) (ck+1)) hh;simp [G0,run_underlying hu,hg,eQ,yQ,Of]
        ·rw [jS] at nJ
         rcases Nat.lt_or_ge i rows.length with Φ|gI
         ·rw [List.getElem?_append_left Φ] at nJ;obtain ⟨e,g1,g2⟩:=wS i r nJ;exact ⟨e,by rw [np,if_neg (by omega)];exact g1,g2⟩
         ·rw [List.getElem?_append_right gI] at nJ
          have rh:i-rows.length=0:=by
           have:=(fk.1 nJ).1;simpa using this
          rw [rh] at nJ;cases nJ;exact ⟨_,by rw [np,if_pos (by omega)],rfl,hn,VB⟩
       ·have yQ:=GY (P:=P) (w:=w) hd h1;have sY:j<es.size:=(Array.getElem?_eq_some_iff.1 h2).1;have iv:=Go.MapKept.run_keyThatStays (P:=P) (w:=w) (d:=.int .i64) (k:=.int .i64 n) rfl;let nC:=es.modify j fun e=>{ e with key:=.int .i64 n,val:=vy };have lJ:∀i,nC[i]?=if j=i then (es[i]?).map (fun e=>{ e with key:=.int .i64 n,val:=vy }) else es[i]?:=fun i=>Array.getElem?_modify;refine fin nC ck ?_ (Go.MapKept.stamped_modify bT j _ (fun _ _=>rfl) fun e _ he=>by rw [h2] at he;cases he;exact UM.symm) (by rw [h6];simp [nC,hs]) (by simpa [nC] using gu) (fun i r nJ=>?_)
        ·have Of:=ZT (P:=P) (.map nC ck) hh;simp [G0,run_underlying hu,hg,eQ,yQ,h2,UM,iv,Of,nC]
        ·rw [h6,List.getElem?_set] at nJ;rw [lJ];by_cases uM:j=i
         ·subst uM;rw [if_pos rfl,if_pos (by omega)] at nJ;cases nJ;rw [if_pos rfl,h2];exact ⟨_,rfl,rfl,hn,VB⟩
         ·rw [if_neg uM] at nJ;rw [if_neg uM];exact wS i r nJ
      ·cases h
     ·cases h
    ·cases h
   ·cases h
  ·cases h
 ·cases h
end
section
variable {P:Program} {T:TT} {w:World} {F:Nat→Prop} {β:Nat→Value} {st:ah} {k:AV→ah→Prop}
def LX {t t' e no:Nat} {i j:TI} {x:AV} {vx:Value} {kk:List (List AV)→Prop} (hT:bL P T) (hI:Inv w F β st.H) (hi:T t=some i) (he:i.kind=.slice e) (_hj:T e=some j) (hx:Rd w F β x vx) (h:Dp T t t' e x no st.H kk) (hk:∀rows,kk rows→o9 rows j.cells) :
  ∃rows,kk rows∧∃news,Go.Src P j.cells t' vx rows.length news w∧Hl w F j.cells rows news:=by
 unfold Dp at h;cases hb:aH t t' with
 |true =>
  rw [hb] at h;obtain rfl:=cW hb;have hu:=(hT _ _ hi).slice he;obtain ⟨rows,rm,gv⟩:=aij hI hx h hk;refine ⟨rows,rm,?_⟩
  rcases gv with ⟨rfl,rfl⟩|⟨ad,c,news,rfl,hs⟩
  ·exact ⟨[],Go.Src.ofNil w hu 0,⟨by simp,fun u hu=>by simp at hu,fun i j hi=>by simp at hi⟩⟩
  ·exact ⟨news,Go.Src.ofSlice w hu ad rows.length c news hs.len hs.cell hs.one,⟨hs.len,hs.one,hs.rd⟩⟩
 |false =>
  rw [hb] at h;simp only [cond_false] at h;split at h
  ·rename_i i' je s bm Bh;split at h
   ·rename_i adB Vr;obtain ⟨ar,h⟩:=cond_prop h
    have hj:j=je:=by rw [_hj] at Bh;exact Option.some.inj Bh
    have ar:j.cells=1:=by rw [hj];exact cW ar
    have hu:=(hT _ _ bm).str adB;cases hx.bK;refine ⟨_,h,byteCells s,?_,?_⟩
    ·rw [ar];have:=Go.Src.ofString w hu s
     have e:(s.data.toList.map lF).length=s.size:=by rw [ax,lR];rfl
     rw [e];exact this
    ·rw [ar];refine ⟨by simp [byteCells],fun u hu=>by obtain ⟨_,_,rfl⟩:=dq.1 hu;rfl,fun a b ha hb=>?_⟩
     have ep:b=0:=by omega
     subst ep
     have sO:a<s.data.toList.length:=by simpa using ha
     have e1:((s.data.toList.map lF).getD a []).getD 0 .χ=.v (.int .u8 ((s.data.toList[a]).toNat:Int)):=by
      have e0:(s.data.toList.map lF).getD a []=lF (s.data.toList[a]):=by rw [fW,uj,bF sO];rfl
      rw [e0];rfl
     have e2:(byteCells s).getD (a*1+0) undef=.int .u8 ((s.data.toList[a]).toNat:Int):=by
      rw [Nat.mul_one,lW,fW];unfold byteCells;rw [uj,bF sO];rfl
     rw [e1,e2];exact .v (.inl rfl)
   ·cases h
  ·cases h
def Ta {t t' d:Nat} {s x:AV} {vs vx:Value} (hd:d<1000) (hT:bL P T) (hI:Inv w F β st.H) (hs:Rd w F β s vs) (hx:Rd w F β x vx) (h:AQ T t t' s x d st k) (ty:TypeId) :
  c8 P (do pure (.value (←ig #[t,t'] ty #[vs,vx]))) w F β st k:=by
 unfold AQ at h;split at h
 ·rename_i i hi;split at h
  ·rename_i e he;split at h
   ·rename_i j hj;cases hb:(aH j.bytes 0||(aH j.cells 0||!(aH j.zero.cells.size j.cells))) with
    |true=>rw [hb] at h;cases h
    |false =>
     rw [hb] at h;simp only [cond_false] at h;simp only [Rs,Rr] at hb;obtain ⟨ep,_,hz⟩:=hb;have hz:j.zero.cells.size=j.cells:=cW hz
     have ep:j.bytes≠0:=fun e=>by rw [e] at ep;cases ep
     split at h
     ·cases hs.bK;obtain ⟨bR,⟨hlen,kS,R,rfl,hk⟩,gv⟩:=LX hT hI hi he hj hx h fun rows h=>h.1;obtain ⟨v',w',hr,hp⟩:=LY (P:=P) (L:=d) (ty:=ty) (rows:=[]) hd hT hI hi he hj ep hz (.inl ⟨rfl,rfl⟩) gv hlen (by simpa using kS) (by simpa using hk);exact c8.value hr hp
     ·rename_i id;split at h
      ·rename_i E K rows hc;obtain ⟨Ix,h'⟩:=cond_prop h;clear h;simp only [bJ] at Ix
       have hid:id<1000:=by simpa using Ix.2
       obtain rfl:=cW Ix.1.1;obtain rfl:=cW Ix.1.2;obtain ⟨bR,⟨hlen,kS,R,rfl,hk⟩,gv⟩:=LX hT hI hi he hj hx h' fun rows h=>h.1;obtain ⟨a,n,c,ai,rfl⟩:=hs.jY;obtain ⟨v',w',hr,hp⟩:=LY (P:=P) (L:=id) (ty:=ty) hid hT hI hi he hj ep hz (.inr ⟨fc hc,ai⟩) gv hlen kS hk;exact c8.value hr hp
      ·cases h
     ·cases h
   ·cases h
  ·cases h
 ·cases h
def HZ {d e K:Nat} {a:Option Addr} (hd:d<1000) (hI:Inv w F β st.H) (hk:k (.o d) (gR st d (.own e K []))):EPost w F β st k (.slice a 0 0) w:=by
 refine ⟨_,_,F,fun q=>if q=d then .slice a 0 0 else β q,hk,.o (by simp),qd (v:=.slice a 0 0) hd hI rfl ⟨rfl,fun _=>(by first|exact bG _|exact j3 _)⟩ rfl (bG _) (fun _ _ _=>rfl) (fun _ _ _ _ _ _=>rfl) (fun b hb=>?_) (.inl ⟨rfl,a,by simp⟩)⟩;cases a<;>simp [bP] at hb
def abB {t d:Nat} {x:AV} {vx:Value} {lo hi mx:Option AV} {vlo vhi vmx:Option Value} (hd:d<1000) (hT:bL P T) (hI:Inv w F β st.H) (hx:Rd w F β x vx) (k_:xN lo vlo w F β) (kW:xN hi vhi w F β) (gu:xN mx vmx w F β)
  (h:HX T t x lo hi mx d st k):c8 P (do pure (.value (←lT t vx vlo vhi vmx))) w F β st k:=by
 unfold HX at h;split at h
 ·rename_i i bm;split at h
  ·rename_i e k1 k2 he;have hu:=(hT _ _ bm).slice he;cases vlo with
   |some v=>exact k_.elim
   |none =>
    cases vhi with
    |none=>exact kW.elim
    |some v1 =>
     cases vmx with
     |none=>exact gu.elim
     |some v2 =>
      cases (show Rd w F β _ v1 from kW).bK;cases (show Rd w F β _ v2 from gu).bK;split at h
      ·rename_i j hj;have aX:=(hT _ _ hj).lj w
       have aZ:∀a n c,(lT t (.slice a n c) none (some (.int k1 0)) (some (.int k2 0))).run P w=.ok (.slice a 0 0) w:=fun a n c=>by
        simp [lT,Instr.slice,Instr.sliceBounds,Instr.sliceBound,asIntOf,run_underlying hu,aX]
       split at h
       ·rcases hx.oR.tJ with ⟨_,a,rfl⟩|⟨b,off,c,K',v,_,_,_,rfl,_⟩
        iterate 2 exact c8.value (aZ _ _ _) (HZ hd hI h)
       ·obtain ⟨a,n,c,_,rfl⟩:=hx.jY;exact c8.value (aZ _ _ _) (HZ hd hI h)
       ·cases hx.bK;exact c8.value (aZ _ _ _) (HZ hd hI h)
       ·cases h
      ·cases h
  ·cases h
 ·cases h
def abo {t n d:Nat} {parts:List (Nat×AV)} {vs:Array (Nat×Value)} (hd:d<1000) (hT:bL P T) (hI:Inv w F β st.H) (hl:parts.length=vs.size)
  (hv:∀i,i<parts.length→(parts.getD i (0,.χ)).1=(vs.toList.getD i (0,undef)).1∧Rd w F β (parts.getD i (0,.χ)).2 (vs.toList.getD i (0,undef)).2)
  (h:Tb T t n parts d st k):c8 P (do pure (.value (←Instr.buildSlice t n vs))) w F β st k:=by
 obtain ⟨rows,e,size,us,hk,_,hs,nN,lL,fB,aX,aZ,hlen⟩:=Pz hT hl hv h;obtain ⟨hi,hk⟩:=cond_prop hk;have g_:=VH hi fB;refine c8.value aZ ?_
 have hg:∀i,i<rows.length→(rows.map (fun r=>r.map nz)).getD i []=(rows.getD i []).map nz:=fun i hi=>by simp [aV,hi]
 have aF:∀i j,i<rows.length→j<size→((rows.map (fun r=>r.map nz)).getD i []).getD j .χ=nz ((rows.getD i []).getD j .χ):=fun i j hi hj=>by
  rw [hg i hi]
  have dz:j<(rows.getD i []).length:=by rw [lL i hi];exact hj
  simp only [fW,uj] at dz ⊢;rw [bF dz];rfl
 have:=Fg (d:=d) (E:=e) (K:=size) (cap:=n) (rows:=rows.map fun r=>r.map nz) (us:=us) (w1:=w) (k:=k) hd hI rfl rfl ⟨rfl,fun _=>(by first|exact bG _|exact j3 _)⟩ rfl aX (by rw [ax];omega) (by unfold maxLen;omega)
  (fun i hi=>by rw [ax] at hi;rw [hg i hi,ax];exact lL i hi) (fun i j hi hj=>?_) hk
 ·rwa [ax,nN] at this
 ·rw [ax] at hi;rw [aF i j hi hj]
  have Φ:i*size+j<rows.flatten.length:=by
   rw [H7 rows lL]
   calc i*size+j<i*size+size:=by omega
    _=(i+1)*size:=by rw [bM];omega
    _≤rows.length*size:=cI _ hi
  have:=g_ _ Φ;rw [MB rows i j lL hi hj] at this;exact ⟨this.1,BR this.2⟩
def aby {t d:Nat} {l c:AV} {vl vc:Value} (hd:d<1000) (hT:bL P T) (hI:Inv w F β st.H) (hl:Rd w F β l vl) (hc:Rd w F β c vc) (h:Ms T t l c d st k) :
  c8 P (do pure (.value (←vG t vl vc))) w F β st k:=by
 unfold Ms at h;split at h
 ·rename_i i kl nl kc nc hi;cases hl.bK;cases hc.bK;split at h
  ·rename_i e he;have hu:=(hT _ _ hi).slice he;split at h
   ·rename_i j hj;obtain ⟨hb,n,m,rfl,rfl,dR,hm,kS,R,rfl,hk⟩:=cond_prop h;simp only [bJ] at hb;obtain ⟨bU,hlen,g_⟩:=hb;have hlen:(bz (cd j.zero)).length=j.cells:=cW hlen;have hz:=pa (nV w F j.zero β) bU
    have iH:j.zero.cells.size=j.cells:=by rw [hz.1,hlen]
    obtain ⟨inf,pB,hzero,eM,nF⟩:=(hT _ _ hj).info;have qp:IntKind.i64.wrap (n:Int)=(n:Int):=qI _ (by omega);have EM:IntKind.i64.wrap (m:Int)=(m:Int):=qI _ (by omega)
    have hbm:(inf.bytes:Int)*(m:Int)≤140737488355328:=by
     have h5:((m*j.bytes:Nat):Int)=(j.bytes:Int)*(m:Int):=by rw [RI,Int.mul_comm]
     rw [nF,←h5];omega
    have aZ:(vG t (.int kl (n:Int)) (.int kc (m:Int))).run P w=.ok (.slice (some ⟨w.heap.size,0,none⟩) n m) (w.alloc (.cells ((nr (m*j.cells)).map (j.zero.cells[· % j.zero.cells.size]!)) e)):=by
     have h1:¬((m:Int)<0):=by omega
     have h2:¬(281474976710656<(inf.bytes:Int)*(m:Int)):=by omega
     have h3:¬((n:Int)<0):=by omega
     have h4:¬((m:Int)<(n:Int)):=by omega
     by_cases h0:m*j.cells=0
     ·have de:nr (m*j.cells)=#[]:=by rw [h0];exact ud (by simp)
      simp [vG,run_underlying hu,asInt,asIntOf,typeInfo,pB,qp,EM,h1,h2,h3,h4,sizeOf,eM,h0,newRow];rw [h0] at de;simp [de]
     ·simp [vG,run_underlying hu,asInt,asIntOf,typeInfo,pB,qp,EM,h1,h2,h3,h4,sizeOf,eM,h0,newRow,zeroValue,hzero]
    refine c8.value aZ ?_;have:=Fg (d:=d) (E:=e) (K:=j.cells) (cap:=m) (rows:=il n ((bz (cd j.zero)).map nz)) (us:=(nr (m*j.cells)).map (j.zero.cells[· % j.zero.cells.size]!)) (w1:=w) (k:=k)
     hd hI rfl rfl ⟨rfl,fun _=>(by first|exact bG _|exact j3 _)⟩ rfl (by simp) (by simpa using dR) (by unfold maxLen;omega) (fun q hq=>?_) (fun q z hq iT=>?_) hk
    ·simpa using this
    ·simp at hq;simp [aV,hq,hlen]
    ·simp at hq
     have Φ:q*j.cells+z<m*j.cells:=by
      calc q*j.cells+z<q*j.cells+j.cells:=by omega
       _=(q+1)*j.cells:=by rw [bM];omega
       _≤m*j.cells:=cI _ (by omega)
     rw [V9 Φ,iH]
     have e1:(q*j.cells+z) % j.cells=z:=by rw [oi,Dd];exact Dc iT
     rw [e1];have h2:=hz.2 z (by omega)
     have e2:j.zero.cells[z]! = j.zero.cells.getD z undef:=by
      have:z<j.zero.cells.size:=by omega
      simp [this]
     have e3:((il n ((bz (cd j.zero)).map nz)).getD q []).getD z .χ=nz ((bz (cd j.zero)).getD z .χ):=by
      have zv:z<(bz (cd j.zero)).length:=by omega
      simp [aV,hq,zv]
     rw [e2,e3];refine ⟨h2.1,BR (nR (ej.1 g_ _ ?_) h2.2)⟩;rw [fW,bF (show z<(bz (cd j.zero)).length by omega)];exact ek _
   ·cases h
  ·cases h
 ·cases h
def akZ {z:Value} {n k:Nat} {w:World} {F:Nat→Prop} {β:Nat→Value} (hz:z.cells.size=k) (bU:jo (cd z)=true) (hlen:(bz (cd z)).length=k) (g_:(bz (cd z)).all fu=true) :
  Hl w F k (il n ((bz (cd z)).map nz)) (dI z.cells n).toList:=by
 have hc:=pa (nV w F z β) bU;refine ⟨by simp [dI,hz],fun u hu=>?_,fun i j hi hj=>?_⟩
 ·simp only [dI,ZH,dq] at hu;obtain ⟨q,hq,rfl⟩:=hu
  have rz:0<z.cells.size:=by
   have:q∈nr (n*z.cells.size):=by simpa using hq
   rcases oY z.cells.size with h|h
   ·rw [h] at this;simp at this
   ·exact h
  have Φ:=se q rz;have h2:=(hc.2 (q % z.cells.size) (by omega)).1;simpa [Φ] using h2
 ·have hi:i<n:=by simpa using hi
  have Φ:i*k+j<n*k:=by
   calc i*k+j<i*k+k:=by omega
    _=(i+1)*k:=by rw [bM];omega
    _≤n*k:=cI _ (by omega)
  have e0:(dI z.cells n).toList.getD (i*k+j) undef=z.cells[(i*k+j) % z.cells.size]! := by
   simp [dI,hz,aV,Φ]
  have e1:(i*k+j) % k=j:=by rw [oi,Dd];exact Dc hj
  rw [e0,hz,e1];have h2:=(hc.2 j (by omega)).2
  have e2:((il n ((bz (cd z)).map nz)).getD i []).getD j .χ=nz ((bz (cd z)).getD j .χ):=by
   simp [aV,hi,hlen,hj]
  rw [e2]
  have e3:z.cells[j]! = z.cells.getD j undef:=by
   have:j<z.cells.size:=by omega
   simp [this]
  rw [e3];refine BR (nR ?_ h2);have:=ej.1 g_ ((bz (cd z)).getD j .χ) (by simp [aV,hlen,hj]);exact this
def abl {t t' id:Nat} {x:AV} {vs vx:Value} (hT:bL P T) (hI:Inv w F β st.H) (hs:Rd w F β (.o id) vs) (hx:Rd w F β x vx) (h:Mo T t t' id x st k) (ty:TypeId) :
  c8 P (do pure (.value (←ig #[t,t'] ty #[vs,vx]))) w F β st k:=by
 unfold Mo at h;split at h
 ·rename_i i i' kx nx hi bm;cases hx.bK;split at h
  ·rename_i e kn he fw;have hu:=(hT _ _ hi).slice he;have iS:=(hT _ _ bm).int fw;split at h
   ·rename_i j E K rows hj hc;cases hb:(aH j.bytes 0||(aH j.cells 0||!(jo (cd j.zero)&&(aH (bz (cd j.zero)).length j.cells&&(bz (cd j.zero)).all fu)))) with
    |true=>rw [hb] at h;cases h
    |false =>
     rw [hb] at h;simp only [Rs,Rr,bJ] at hb;obtain ⟨ep,oD,bU,hlen,g_⟩:=hb;have hlen:(bz (cd j.zero)).length=j.cells:=cW hlen
     have ep:j.bytes≠0:=fun e=>by rw [e] at ep;cases ep
     obtain ⟨hg,n,rfl,kS,R,rfl,hk⟩:=cond_prop h;simp only [bJ] at hg;obtain ⟨⟨hE,hK⟩,Φ⟩:=hg;obtain rfl:=cW hE;obtain rfl:=cW hK
     have hid:id<1000:=by simpa [gO] using Φ
     have hz:=pa (nV w F j.zero β) bU
     have iH:j.zero.cells.size=j.cells:=by rw [hz.1,hlen]
     have Vk:=akZ (n:=n) (w:=w) (F:=F) (β:=β) iH bU hlen g_;obtain ⟨a,m,c,ai,rfl⟩:=hs.jY;have pE:n*j.bytes≤140737488355328:=fo (cI _ (Nat.le_add_left _ _)) kS;have hn:n≤140737488355328:=fo (RV _ (RY ep)) pE;obtain ⟨v',w',hr,hp⟩:=Sn (P:=P) (L:=id) (tx:=t') (vx:=.int kx (n:Int)) (ty:=ty) (rows:=rows) (bR:=il n ((bz (cd j.zero)).map nz)) hid hT hI hi he hj ep iH (.inr ⟨fc hc,ai⟩)
      ⟨_,fun inf z h1 h2 h3 h4=>by
       obtain ⟨alu,pB,hzero,eM,nF⟩:=(hT _ _ hj).info;rw [pB] at h1;cases h1;rw [hzero] at h2;cases h2;have:=xM.ak0 (P:=P) (w:=w) (t:=t) (tx:=t') (ty:=ty) (kx:=kx) (n:=n) hu iS pB hzero (by rw [iH,eM]) Vk.one hn (by rw [nF];exact pE)
       simpa using this,Vk⟩ (fun r hr=>by
       rw [(List.mem_replicate.1 hr).2,ax,hlen]) (by simpa using kS) hk
     exact c8.value hr hp
   ·cases h
  ·cases h
 ·cases h
def abw {t t':Nat} {x y:AV} {vx vy:Value} (hT:bL P T) (hI:Inv w F β st.H) (hx:Rd w F β x vx) (hy:Rd w F β y vy) (h:HV T t x y st k) (ty:TypeId) :
  c8 P (do pure (.value (←qG #[t,t'] ty #[vx,vy]))) w F β st k:=by
 unfold HV at h;split at h
 ·rename_i i hi;split at h
  ·rename_i e he;have hu:=(hT _ _ hi).slice he;split at h
   ·rename_i j hj;split at h
    ·rename_i id Kw d news;split at h
     ·rename_i E K rows hc;obtain ⟨hb,zd,R,rfl,hk⟩:=cond_prop h;simp only [bJ] at hb;have hK:K=j.cells:=cW hb.1;have Eg:Kw=K:=cW hb.2;subst Eg;have hm:=fc hc;have aX:=(hT _ _ hj).lj w;obtain ⟨a,a',n,c,ai,hd,ha,rfl⟩:=hx.xw
      have hn:n=rows.length:=by
       rcases tr (hI.holds _ _ hm) with ⟨rfl,a2,hv⟩|⟨g,cap,hv,_,iP⟩
       iterate 2 (rw [ai] at hv;cases hv;rfl)
      subst hn;obtain ⟨m,Bo⟩:∃m,m=Nat.min news.length (rows.length-d):=⟨_,rfl⟩;rw [←Bo] at hk
      have iQ:m≤news.length:=by rw [Bo];exact Nat.min_le_left _ _
      have zb:m≤rows.length-d:=by rw [Bo];exact Nat.min_le_right _ _
      have hRe:rows.take d++news.take (rows.length-d)++rows.drop (d+news.length)=rows.take d++news.take m++rows.drop (d+m):=by
       rcases Nat.le_total news.length (rows.length-d) with h1|h1
       ·have:m=news.length:=by rw [Bo];exact Nat.min_eq_left h1
        rw [this,RS h1,RS (bG _)]
       ·have:m=rows.length-d:=by rw [Bo];exact Nat.min_eq_right h1
        rw [this,qK (by omega),qK (by omega)]
      rw [hRe] at hk;obtain ⟨b0,alG,c0,hvy,us,fB,Ol,Vu⟩:∃(aa:Option Addr) (ln cp:Nat),vy=.slice aa ln cp∧∃us:List Value,(us.length=m*j.cells∧ln=news.length)∧((xB j.cells m vy).run P w=.ok us.toArray w) ∧
        (∀q z,q<m→z<j.cells→(us.getD (q*j.cells+z) undef).oneCell'=true∧bh w F ((news.getD q []).getD z .χ) (us.getD (q*j.cells+z) undef)):=by
       rcases hy.oR.tJ with ⟨rfl,a,rfl⟩|⟨b,off,cc,K',v,aJ,fP,jC,rfl,yE,hv⟩
       ·have oF:m=0:=by simpa using iQ
        subst oF;exact ⟨a,0,0,rfl,[],⟨by simp,rfl⟩,by cases a<;>simp [xB,loadCells,loadCellsFrom],fun q z hq=>by omega⟩
       ·have A4:∀q,q<news.length→K'=j.cells:=fun q hq=>by
         rw [←yE q hq];exact zd _ (by rw [fW,bF hq];exact ek _)
        have Φ:∀q,q<m*j.cells→q/j.cells<m∧q % j.cells<j.cells∧q/j.cells*j.cells+q % j.cells=q:=fun q hq=>by
         have yU:0<j.cells:=(oY j.cells).elim (fun h=>by rw [h] at hq;simp at hq) fun h=>h;exact ⟨(qP yU).2 hq,se _ yU,by rw [oi];exact RU q j.cells⟩
        refine ⟨_,_,_,rfl,(gA (m*j.cells)).map fun q=>v (q/j.cells) (q % j.cells),⟨by simp,rfl⟩,?_,fun q z hq hz=>?_⟩
        ·refine run_firstCells_some (P:=P) w j.cells m ⟨b,off,none⟩ news.length cc _ (by simp) fun q u hq=>?_;simp only [uj,De] at hq;obtain ⟨q',wP,rfl⟩:=hq
         have mW:q<m*j.cells∧q'=q:=by
          obtain ⟨h1,h2⟩:=fk.1 wP;exact ⟨by simpa using h1,by simpa using h2.symm⟩
         obtain ⟨mW,rfl⟩:=mW;obtain ⟨h1,h2,h3⟩:=Φ _ mW;have h4:=A4 _ (show q'/j.cells<news.length by omega);have:=(hv (q'/j.cells) (q' % j.cells) (by omega) (by rw [h4];exact h2)).1;rw [h4,h3] at this;rw [gk];exact this
        ·have oH:q*j.cells+z<m*j.cells:=by
          calc q*j.cells+z<q*j.cells+j.cells:=by omega
           _=(q+1)*j.cells:=by rw [bM];omega
           _≤m*j.cells:=cI _ hq
         have yU:0<j.cells:=by omega
         have e1:(q*j.cells+z)/j.cells=q:=by rw [oi,al3 yU,al2 hz];rfl
         have e2:(q*j.cells+z) % j.cells=z:=by rw [oi,Dd];exact Dc hz
         have e3:((gA (m*j.cells)).map fun q=>v (q/j.cells) (q % j.cells)).getD (q*j.cells+z) undef=v q z:=by
          simp [aV,oH,e1,e2]
         rw [e3];exact (hv q z (by omega) (by rw [A4 q (by omega)];exact hz)).2
      obtain ⟨fj,Ex⟩:=fB
      have k_:(Builtin.lenOf vy).run P w=.ok news.length w:=by rw [hvy,←Ex];rfl
      have dR:Nat.min news.length (rows.length-d)=m:=Bo.symm;by_cases h0:m=0
      ·have aZ:(qG #[t,t'] ty #[.slice a' (rows.length-d) (c-d),vy]).run P w=.ok (.int .i64 (m:Int)) w:=by
        have Oj:us=[]:=qL (by rw [fj,h0];simp);rw [Oj] at Ol
        have hw:IntKind.i64.wrap (m:Int)=(m:Int):=by rw [h0];rfl
        cases a'<;>simp [qG,run_underlying hu,k_,dR,aX,Ol,storeCells,goInt]
       refine c8.value aZ ⟨_,_,F,β,hk,.i (.v (.inl rfl)),?_⟩
       have e:rows.take d++news.take m++rows.drop (d+m)=rows:=by rw [h0];simp
       rw [e];exact wj hI hm rfl ⟨rfl,fun _=>bG _⟩ rfl rfl (fun _ _=>rfl) (hI.holds _ _ hm)
      ·rcases hI.holds _ _ hm with ⟨rfl,_⟩|⟨g,cap,cur,hv,iP,hg,hn,gu,hs,A5,hr⟩
       ·simp at zb;omega
       ·rw [ai] at hv;cases hv
        have sO:a'=some ⟨g,d*Kw,none⟩:=by rw [ha (by omega)];simp [gk]
        subst sO
        have q7:aH c 0=false:=by cases c<;>first|rfl|omega
        have ho:bD β st.H g:=⟨id,_,hm,by rw [ai];simp [bP,q7]⟩;have hcK:rows.length*Kw≤c*Kw:=cI _ hn
        have Us:d*Kw+m*Kw≤rows.length*Kw:=by rw [←bM];exact cI _ (by omega)
        have fj:us.length=m*Kw:=by rw [fj,hK]
        have fi:∀x,x∈us→x.oneCell'=true:=fun x hx=>by
         obtain ⟨q,hq,rfl⟩:=List.getElem_of_mem hx;have yU:0<Kw:=(oY Kw).elim (fun h=>by rw [h] at fj;simp at fj;rw [fj] at hq;simp at hq) fun h=>h;rw [fj] at hq;have h1:q/Kw<m:=(qP yU).2 hq;have h2:q % Kw<Kw:=se _ yU
         have h3:q/Kw*Kw+q % Kw=q:=by rw [oi];exact RU q Kw
         have:=(Vu (q/Kw) (q % Kw) h1 (by rw [←hK];exact h2)).1;rw [←hK,h3] at this
         have e:us.getD q undef=us[q]:=by simp [aV,fj,hq]
         rwa [e] at this
        have bT:=run_storeCells_at P g (d*Kw) E us 0 cur w hg (by rw [fj];omega) fi;simp only [lW] at bT
        have aZ:(qG #[t,t'] ty #[.slice (some ⟨g,d*Kw,none⟩) (rows.length-d) (c-d),vy]).run P w=.ok (.int .i64 (m:Int)) (w.setRow g (cur.toList.take (d*Kw)++us++cur.toList.drop (d*Kw+us.length)).toArray):=by
         simp [qG,run_underlying hu,k_,dR,aX,Ol,bT,goInt]
        refine c8.value aZ ⟨_,_,F,β,hk,.i (.v (.inl rfl)),?_⟩;have hU:∀b cs,b≠g→(w.setRow g cs).heap[b]?=w.heap[b]?:=fun b cs hb=>setRow_other w g b cs hb;have ha:∀cs,ga F w (w.setRow g cs):=fun cs b hb=>hU b cs fun e=>hI.apart g ho (e▸hb);refine wj hI hm rfl ⟨rfl,fun _=>bG _⟩ rfl (by simp) (fun b' aJ=>hU b' _ (fun e=>aJ (by rw [ai,e];simp [bP,q7]))) (.inr ?_)
        have y0:(rows.take d++news.take m++rows.drop (d+m)).length=rows.length:=by simp;omega
        have hR:∀q,q<rows.length→(rows.take d++news.take m++rows.drop (d+m)).getD q []=if q<d then rows.getD q [] else if q<d+m then news.getD (q-d) [] else rows.getD q []:=fun q hq=>by
         simp only [aV,gK,cP,dN,gn,jq];by_cases h1:q<d
         ·have h2:q<min d rows.length:=by omega
          have h3:q<min d rows.length+min m news.length:=by omega
          simp [h1,h2,h3]
         ·have h2:¬q<min d rows.length:=by omega
          by_cases h4:q<d+m
          ·have h3:q<min d rows.length+min m news.length:=by omega
           have h5:q-min d rows.length<m:=by omega
           have h6:q-min d rows.length=q-d:=by omega
           simp [h1,h2,h3,h4,h5,h6];simp [show q-d<m by omega]
          ·have h3:¬q<min d rows.length+min m news.length:=by omega
           have h6:d+m+(q-(min d rows.length+min m news.length))=q:=by omega
           simp [h1,h3,h4,h6]
        refine ⟨g,c,_,by rw [ai,y0],iP,setRow_heap w g cur _ E _ hg,by rw [y0];exact hn,gu,?_,fun q hq=>?_,fun q z hq iT=>?_⟩
        ·simp only [lC,cP,dN,lV,lR,fj];omega
        ·rw [y0] at hq;rw [hR q hq];split
         ·exact A5 q hq
         ·split
          ·rw [hK];exact zd _ (by rw [fW,bF (show q-d<news.length by omega)];exact ek _)
          ·exact A5 q hq
        ·rw [y0] at hq
         have hqz:q*Kw+z<rows.length*Kw:=by
          calc q*Kw+z<q*Kw+Kw:=by omega
           _=(q+1)*Kw:=by rw [bM];omega
           _≤rows.length*Kw:=cI _ hq
         have fZ:q*Kw+z<cur.size:=by omega
         have eP:(cur.toList.take (d*Kw)++us++cur.toList.drop (d*Kw+us.length)).toArray.getD (q*Kw+z) undef=if q<d then cur.getD (q*Kw+z) undef else if q<d+m then us.getD ((q-d)*Kw+z) undef else cur.getD (q*Kw+z) undef:=by
          rw [lA,List.getElem?_toArray];simp only [gK,cP,dN,lR,gn,jq,fj];by_cases h1:q<d
          ·have Φ:q*Kw+z<d*Kw:=by
            calc q*Kw+z<q*Kw+Kw:=by omega
             _=(q+1)*Kw:=by rw [bM];omega
             _≤d*Kw:=cI _ h1
           have h2:q*Kw+z<min (d*Kw) cur.size:=by omega
           have h3:q*Kw+z<min (d*Kw) cur.size+m*Kw:=by omega
           simp [h1,h2,h3,Φ]
          ·have gI:d*Kw≤q*Kw:=cI _ (by omega)
           have h2:¬q*Kw+z<min (d*Kw) cur.size:=by omega
           have alo:(q-d)*Kw=q*Kw-d*Kw:=Nat.sub_mul _ _ _;by_cases h4:q<d+m
           ·have Φ:q*Kw+z<(d+m)*Kw:=by
             calc q*Kw+z<q*Kw+Kw:=by omega
              _=(q+1)*Kw:=by rw [bM];omega
              _≤(d+m)*Kw:=cI _ h4
            rw [bM] at Φ
            have h3:q*Kw+z<min (d*Kw) cur.size+m*Kw:=by omega
            have h5:q*Kw+z-min (d*Kw) cur.size=(q-d)*Kw+z:=by omega
            simp [h1,h2,h3,h4,h5,aV]
           ·have acR:(d+m)*Kw≤q*Kw:=cI _ (by omega);rw [bM] at acR
            have h3:¬q*Kw+z<min (d*Kw) cur.size+m*Kw:=by omega
            have h5:d*Kw+m*Kw+(q*Kw+z-(min (d*Kw) cur.size+m*Kw))=q*Kw+z:=by omega
            simp [h1,h3,h4,h5,fZ]
         rw [eP,hR q hq];have old:=hr q z hq iT;by_cases h1:q<d
         ·rw [if_pos h1,if_pos h1];exact ⟨old.1,old.2.frame (ha _) fun _ h=>h⟩
         ·rw [if_neg h1,if_neg h1];by_cases h2:q<d+m
          ·rw [if_pos h2,if_pos h2];have:=Vu (q-d) z (by omega) (by rw [←hK];exact iT);rw [←hK] at this;exact ⟨this.1,this.2.frame (ha _) fun _ h=>h⟩
          ·rw [if_neg h2,if_neg h2];exact ⟨old.1,old.2.frame (ha _) fun _ h=>h⟩
     ·cases h
    ·cases h
   ·cases h
  ·cases h
 ·cases h
def abv {args:Array Operand} {argTypes:Array TypeId} {a:Act} {type:TypeId} {f:Nat→AV} (hT:bL P T) (hI:Inv w F β st.H) (bI:∀x,x∈args→Rd w F β (ev f x) (a.eval x))
  (h:match argTypes.toList,args.toList.map (ev f) with
   |[t,_],[x,y]=>HV T t x y st k
   |_,_=>False) :
  c8 P (do let d ←resolve a.eval { callee:=.builtin .copy,args:=args,argTypes:=argTypes } type;invoke d.target d.args) w F β st k:=by
 split at h
 ·rename_i t t' x y ht hx;obtain ⟨l,rfl⟩:∃l:List Operand,args=l.toArray:=⟨args.toList,by simp⟩;obtain ⟨lt,rfl⟩:∃l:List TypeId,argTypes=l.toArray:=⟨argTypes.toList,by simp⟩;simp only at ht hx;subst ht
  match l,hx with
  |[o1,o2],hx =>
   simp only [jI,List.map_nil,G4,and_true] at hx;obtain ⟨rfl,rfl⟩:=hx;have:=abw (t':=t') hT hI (bI o1 (by simp)) (bI o2 (by simp)) h type;unfold c8 at this ⊢;simpa [resolve,invoke,builtin] using this
 ·cases h
def abk {t t' d:Nat} {s x:AV} {vs vx:Value} (hd:d<1000) (hT:bL P T) (hI:Inv w F β st.H) (hs:Rd w F β s vs) (hx:Rd w F β x vx) (h:HS T t t' s x d st k) (ty:TypeId) :
  c8 P (do pure (.value (←ig #[t,t'] ty #[vs,vx]))) w F β st k:=by
 unfold HS at h;split at h
 ·exact abl hT hI hs hx h ty
 split at h
 ·rename_i i i' kx nx hi bm _;cases hs.bK;cases hx.bK;split at h
  ·rename_i e ki he fw;have hu:=(hT _ _ hi).slice he;have iS:=(hT _ _ bm).int fw;split at h
   ·rename_i j hj;cases hb:(aH j.bytes 0||(aH j.cells 0||!(jo (cd j.zero)&&(aH (bz (cd j.zero)).length j.cells&&(bz (cd j.zero)).all fu)))) with
    |true=>rw [hb] at h;cases h
    |false =>
     rw [hb] at h;simp only [Rs,Rr,bJ] at hb;obtain ⟨ep,oD,bU,hlen,g_⟩:=hb;have hlen:(bz (cd j.zero)).length=j.cells:=cW hlen
     have ep:j.bytes≠0:=fun e=>by rw [e] at ep;cases ep
     have oD:j.cells≠0:=fun e=>by rw [e] at oD;cases oD
     obtain ⟨n,rfl,kS,R,rfl,hk⟩:=h;have hz:=pa (nV w F j.zero β) bU
     have iH:j.zero.cells.size=j.cells:=by rw [hz.1,hlen]
     obtain ⟨inf,pB,hzero,eM,nF⟩:=(hT _ _ hj).info;have hn:n≤140737488355328:=fo (RV _ (RY ep)) kS;have qp:IntKind.i64.wrap (n:Int)=(n:Int):=qI _ (by omega)
     have acj:(n:Int)*(j.bytes:Int)≤140737488355328:=by
      have h5:((n*j.bytes:Nat):Int)=(n:Int)*(j.bytes:Int):=RI _ _;rw [←h5];omega
     by_cases h0:n=0
     ·subst h0
      have aZ:(ig #[t,t'] ty #[.slice none 0 0,.int kx ((0:Nat):Int)]).run P w=.ok (.slice none 0 0) w:=by
       have EL:IntKind.i64.wrap 0=0:=rfl;simp [ig,run_underlying hu,run_underlying iS,sizeOf,typeInfo,pB,asInt,asIntOf,EL]
      exact c8.value aZ (HZ hd hI (by simpa using hk))
     ·have jC:n≤maxLen:=by unfold maxLen;omega
      have Et:=grownCap_ge w n 0 e;have Eu:=grownCap_le_maxLen w n 0 e jC
      have h1:¬((n:Int)<0):=by omega
      have h2:¬(281474976710656<(n:Int)*(inf.bytes:Int)):=by rw [nF];omega
      have h3:¬(9223372036854775807<(n:Int)):=by omega
      have h4:¬(281474976710656<Ru n 0*inf.bytes):=by rw [nextslicecap_zero (by omega),nF];omega
      have h5:n*inf.size≠0:=by rw [eM];exact Nat.mul_ne_zero h0 oD
      have aZ:(ig #[t,t'] ty #[.slice none 0 0,.int kx (n:Int)]).run P w=.ok (.slice (some ⟨w.heap.size,0,none⟩) n (grownCap w n 0 e)) (w.drew.alloc (.cells (dI j.zero.cells n++dI j.zero.cells (grownCap w n 0 e-n)) e)):=by
       simp [ig,run_underlying hu,run_underlying iS,sizeOf,typeInfo,pB,asInt,asIntOf,qp,h1,h2,h3,h4,h0,zeroValue,hzero,RZ,run_firstCells_none,newRow,grownCap];intro h7;exact absurd h7 h5
      refine c8.value aZ ?_;have:=Fg (d:=d) (E:=e) (K:=j.cells) (cap:=grownCap w n 0 e) (rows:=il n ((bz (cd j.zero)).map nz)) (us:=dI j.zero.cells n++dI j.zero.cells (grownCap w n 0 e-n)) (w1:=w.drew) (k:=k)
       hd hI rfl rfl ⟨rfl,fun _=>(by first|exact bG _|exact j3 _)⟩ rfl (by simp only [ue,Lg,iH,←bM];congr 1;omega) (by simpa using Et) Eu (fun q hq=>?_) (fun q z hq iT=>?_) hk
      ·simpa using this
      ·simp at hq;simp [aV,hq,hlen]
      ·simp at hq
       have Φ:q*j.cells+z<n*j.cells:=by
        calc q*j.cells+z<q*j.cells+j.cells:=by omega
         _=(q+1)*j.cells:=by rw [bM];omega
         _≤n*j.cells:=cI _ (by omega)
       have e0:(dI j.zero.cells n++dI j.zero.cells (grownCap w n 0 e-n)).getD (q*j.cells+z) undef=j.zero.cells[(q*j.cells+z) % j.zero.cells.size]! := by
        simp [pX,dI,iH,Φ]
       rw [e0,iH]
       have e1:(q*j.cells+z) % j.cells=z:=by rw [oi,Dd];exact Dc iT
       rw [e1];have h2:=hz.2 z (by omega)
       have e2:j.zero.cells[z]! = j.zero.cells.getD z undef:=by
        have:z<j.zero.cells.size:=by omega
        simp [this]
       have e3:((il n ((bz (cd j.zero)).map nz)).getD q []).getD z .χ=nz ((bz (cd j.zero)).getD z .χ):=by
        have zv:z<(bz (cd j.zero)).length:=by omega
        simp [aV,hq,zv]
       rw [e2,e3];refine ⟨h2.1,BR (nR (ej.1 g_ _ ?_) h2.2)⟩;rw [fW,bF (show z<(bz (cd j.zero)).length by omega)];exact ek _
   ·cases h
  ·cases h
 ·cases h
def abC {t:Nat} {x:AV} {vx:Value} {hi:Option AV} {vhi:Option Value} (hT:bL P T) (hI:Inv w F β st.H) (hx:Rd w F β x vx) (kW:xN hi vhi w F β) (h:Mw T t x hi st k) :
  c8 P (do pure (.value (←lT t vx none vhi none))) w F β st k:=by
 unfold Mw at h;split at h
 ·rename_i i id kh nh bm;split at h
  ·rename_i e he;have hu:=(hT _ _ bm).slice he;cases vhi with
   |none=>exact kW.elim
   |some v1 =>
    cases (show Rd w F β _ v1 from kW).bK;split at h
    ·rename_i j hj;have aX:=(hT _ _ hj).lj w;split at h
     ·rename_i E K rows hc;obtain ⟨TZ,m,rfl,hm,R,rfl,hk⟩:=cond_prop h
      have hid:id<1000:=by
       simp only [bJ] at TZ;simpa using TZ.2
      have bC:=fc hc;obtain ⟨a,n,c,ai,rfl⟩:=hx.jY
      have aZ:n=rows.length→rows.length≤c→(lT t (.slice a n c) none (some (.int kh (m:Int))) none).run P w=.ok (.slice a m c) w:=fun hn fP=>by
       have hb:=zZ (P:=P) (w:=w) (is:=true) (lo:=none) (hi:=some (.int kh (m:Int))) (len:=rows.length) (cap:=c) (l:=0) (h:=m) (.inl ⟨rfl,rfl⟩) (.inr ⟨_,rfl⟩) (Nat.zero_le _) hm fP;subst hn
       have hs:(lT t (.slice a rows.length c) none (some (.int kh (m:Int))) none).run P w=.ok (.slice (if c=0 then a else a.map (·.add (0*j.cells))) (m-0) (c-0)) w:=by
        simp [lT,Instr.slice,run_underlying hu,hb,aX]
       rw [hs]
       have:(if c=0 then a else a.map (·.add (0*j.cells)))=a:=by
        split
        ·rfl
        ·cases a<;>simp [Addr.add]
       rw [this];simp
      rcases hI.holds _ _ bC with ⟨rfl,a',hv⟩|⟨g,cap,cur,hv,iP,hg,hn,gu,fZ,hK,hr⟩
      ·rw [ai] at hv;cases hv
       have oF:m=0:=by simpa using hm
       subst oF;refine c8.value (aZ rfl (bG _)) ⟨_,_,F,fun q=>if q=id then .slice a 0 0 else β q,hk,.o (by simp),qd (v:=.slice a 0 0) hid hI rfl ⟨rfl,fun _=>(by first|exact bG _|exact j3 _)⟩ rfl (bG _) (fun _ _ _=>rfl) (fun _ _ _ _ _ _=>rfl) (fun b hb=>?_) (.inl ⟨by simp,a,by simp⟩)⟩;cases a<;>simp [bP] at hb
      ·rw [ai] at hv;cases hv;refine c8.value (aZ rfl hn) ⟨_,_,F,fun q=>if q=id then .slice (some ⟨g,0,none⟩) m c else β q,hk,.o (by simp),qd (v:=.slice (some ⟨g,0,none⟩) m c) hid hI rfl ⟨rfl,fun _=>(by first|exact bG _|exact j3 _)⟩ rfl (bG _) (fun _ _ _=>rfl) (fun _ _ _ _ _ _=>rfl) (fun b hb=>.inr ⟨_,bC,?_⟩) (.inr ?_)⟩
       ·rw [ai];simpa [bP] using hb
       ·have hlen:(rows.take m).length=m:=by simp;omega
        have fT:∀q,q<m→(rows.take m).getD q []=rows.getD q []:=fun q hq=>by simp [aV,hq]
        refine ⟨g,c,cur,by simp [hlen],iP,hg,by omega,gu,fZ,fun q hq=>?_,fun q z hq hz=>?_⟩
        ·rw [hlen] at hq;rw [fT q hq];exact hK q (by omega)
        ·rw [hlen] at hq;rw [fT q hq];exact hr q z (by omega) hz
     ·cases h
    ·cases h
  ·cases h
 ·cases h
def Ht {fs xs cs:List AV} {us vs ws:Array Value} (hs:us.size=fs.length) (hl:vs.size=xs.length) (ak6:ws.size=cs.length) (hu:∀i,i<fs.length→Rd w F β (fs.getD i .χ) (us.getD i undef))
  (hv:∀i,i<xs.length→Rd w F β (xs.getD i .χ) (vs.getD i undef)) (hw:∀i,i<cs.length→Rd w F β (cs.getD i .χ) (ws.getD i undef)) :
  ∀i,i<(fs++(xs++cs)).length→Rd w F β ((fs++(xs++cs)).getD i .χ) ((us++vs++ws).getD i undef):=by
 intro i hi;simp only [cP] at hi
 have e1:(fs++(xs++cs)).getD i .χ=if i<fs.length then fs.getD i .χ else if i<fs.length+xs.length then xs.getD (i-fs.length) .χ else cs.getD (i-fs.length-xs.length) .χ:=by
  simp only [aV,gK];by_cases h1:i<fs.length
  ·simp [h1]
  ·by_cases h2:i<fs.length+xs.length
   ·simp [h1,h2,show i-fs.length<xs.length by omega]
   ·simp [h1,h2,show ¬i-fs.length<xs.length by omega]
 have e2:(us++vs++ws).getD i undef=if i<fs.length then us.getD i undef else if i<fs.length+xs.length then vs.getD (i-fs.length) undef else ws.getD (i-fs.length-xs.length) undef:=by
  simp only [lA,pX,ue,hs,hl];by_cases h1:i<fs.length
  ·simp [h1,show i<fs.length+xs.length by omega]
  ·by_cases h2:i<fs.length+xs.length
   ·simp [h1,h2]
   ·simp [h1,h2,Nat.sub_sub]
 rw [e1,e2];by_cases h1:i<fs.length
 ·rw [if_pos h1,if_pos h1];exact hu i h1
 ·rw [if_neg h1,if_neg h1];by_cases h2:i<fs.length+xs.length
  ·rw [if_pos h2,if_pos h2];exact hv _ (by omega)
  ·rw [if_neg h2,if_neg h2];exact hw _ (by omega)
def abq {f:AV} {vf:Value} {xs:List AV} {vs:Array Value} (hI:Inv w F β st.H) (hf:Rd w F β f vf) (hl:vs.size=xs.length)
  (hv:∀i,i<xs.length→Rd w F β (xs.getD i .χ) (vs.getD i undef)) (h:HT P f xs st k) :
  c8 P (do let d ←mg vf vs;invoke d.target d.args) w F β st k:=by
 unfold HT at h;split at h
 ·rename_i g fs cs;obtain ⟨⟨fn,c,dK,dR,yH⟩,hp⟩:=h;obtain ⟨us,ws,rfl,hs,ez,hu,hw⟩:=hf.nB
  have rv : ¬ fn.name = "runtime.NumGoroutine" := by simpa using dR
  refine .inr (.inr (.inl ⟨g,us++vs++ws,by simp [mg,invoke,callFunc,dK,rv,yH],?_⟩));refine Calls.mono (hp w F β (us++vs++ws) hI ?_ (Ht hs hl ez hu hv hw)) ?_
  ·simp [hs,hl,ez]
  ·rintro e w' ⟨v,rfl,r,au,F',av,hk,hr,he⟩;exact ⟨v,rfl,r,au,F',av,hk,hr,he⟩
 ·rename_i l;obtain ⟨us,ws,rfl,hs,ez,_,_⟩:=hf.nB;have e1:us=#[]:=ud (by simpa using hs);have e2:ws=#[]:=ud (by simpa using ez);subst e1;subst e2;obtain ⟨fn,tmps,assign,body,hy,hR⟩:=h.2 w F β vs hI hl hv;exact .inr (.inr (.inr ⟨l,fn,tmps,assign,body,by simpa [mg,invoke] using hy,hR⟩))
 ·cases h
def abp {f:Operand} {args:Array Operand} {argTypes:Array TypeId} {ρ:Operand→AV} {a:Act} {type:TypeId} (hI:Inv w F β st.H) (hf:Rd w F β (ρ f) (a.eval f))
  (mR:∀i,i<(args.toList.map ρ).length→Rd w F β ((args.toList.map ρ).getD i .χ) ((args.map a.eval).getD i undef)) (h:HT P (ρ f) (args.toList.map ρ) st k) :
  c8 P (do let d ←resolve a.eval { callee:=.value f,args:=args,argTypes:=argTypes } type;invoke d.target d.args) w F β st k:=by
 have e:(do let d ←resolve a.eval { callee:=.value f,args:=args,argTypes:=argTypes } type;invoke d.target d.args:Sem Next)=(do let d ←mg (a.eval f) (args.map a.eval);invoke d.target d.args):=rfl;rw [e];exact abq hI hf (by simp) mR h
def abm {args:Array Operand} {argTypes:Array TypeId} {a:Act} {type:TypeId} {d:Nat} {f:Nat→AV} (hd:d<1000) (hT:bL P T) (hI:Inv w F β st.H) (bI:∀x,x∈args→Rd w F β (ev f x) (a.eval x))
  (h:match argTypes.toList,args.toList.map (ev f) with
   |[t,t'],[s,x]=>bif aH t t' then AQ T t t' s x d st k else match x with
    |.v (.string _)=>AQ T t t' s x d st k
    |_=>HS T t t' s x d st k
   |_,_=>False) :
  c8 P (do let d ←resolve a.eval { callee:=.builtin .append,args:=args,argTypes:=argTypes } type;invoke d.target d.args) w F β st k:=by
 split at h
 ·rename_i t t' s x ht hx;obtain ⟨l,rfl⟩:∃l:List Operand,args=l.toArray:=⟨args.toList,by simp⟩;obtain ⟨lt,rfl⟩:∃l:List TypeId,argTypes=l.toArray:=⟨argTypes.toList,by simp⟩;simp only at ht hx;subst ht
  match l,hx with
  |[o1,o2],hx =>
   simp only [jI,List.map_nil,G4,and_true] at hx;obtain ⟨rfl,rfl⟩:=hx;cases hb:aH t t' with
   |true =>
    rw [hb] at h;have:=Ta hd hT hI (bI o1 (by simp)) (bI o2 (by simp)) h type;unfold c8 at this ⊢;simpa [resolve,invoke,builtin] using this
   |false =>
    rw [hb] at h;simp only [cond_false] at h;split at h
    ·have:=Ta hd hT hI (bI o1 (by simp)) (bI o2 (by simp)) h type;unfold c8 at this ⊢;simpa [resolve,invoke,builtin] using this
    ·have:=abk hd hT hI (bI o1 (by simp)) (bI o2 (by simp)) h type;unfold c8 at this ⊢;simpa [resolve,invoke,builtin] using this
 ·cases h
def abu {s t id:Nat} {vx:Value} (hT:bL P T) (hI:Inv w F β st.H) (hx:Rd w F β (.o id) vx) (h:Mr T s t id st k) :
  c8 P (do pure (.value (←convert s t vx))) w F β st k:=by
 unfold Mr at h;split at h
 ·rename_i i hi;split at h
  ·rename_i e he;split at h
   ·rename_i j hj;split at h
    ·rename_i h8;have bT:=(cond_prop h).1;replace h:=(cond_prop h).2;obtain rfl:=cW bT;split at h
     ·rename_i E K rows hc;obtain ⟨aQ,hk⟩:=h;have hu:=(hT _ _ hi).slice he;have Vr:=(hT _ _ hj).int h8;have hm:=fc hc;obtain ⟨a,n,c,ai,rfl⟩:=hx.jY
      rcases hI.holds _ _ hm with ⟨h0,_⟩|⟨g,cap,cur,hv,iP,hg,hn,gu,hs,hK,hr⟩
      ·exact absurd h0 aQ
      rw [ai] at hv;cases hv
      have h0:aH c 0=false:=by cases c<;>first|rfl|omega
      have hblk:bP (β id)=some g:=by rw [ai];simp [bP,h0]
      have db:bD β st.H g:=⟨id,_,hm,hblk⟩;let w':=w.freeze ⟨g,cur.size,none⟩ 1
      have rq:(markStringish ⟨g,0,none⟩).run P w=.ok () w':=by
       have:w.shape? g=some (E,cur.size):=by simp [World.shape?,hg]
       simp [markStringish,this,w']
      have aZ:(convert s s (.slice (some ⟨g,0,none⟩) rows.length c)).run P w=.ok (.slice (some ⟨g,0,none⟩) rows.length c) w':=by
       simp [convert,run_underlying hu,run_underlying Vr,rq]
      have Be:w'.heap[g]?=some (.cells cur E (cur.size,cur.size+1)):=Uv hg;have hU:∀b,b≠g→w'.heap[b]?=w.heap[b]?:=fun b hb=>Uu (fun e=>hb e.symm);have hF:∀b,F b→w'.heap[b]?=w.heap[b]?:=fun b hb=>hU b fun e=>hI.apart g db (e▸hb)
      have aX:w'.heap.size=w.heap.size:=by simp [w',World.freeze]
      have alm:∀o,w'.cell? ⟨g,o,none⟩=w.cell? ⟨g,o,none⟩:=fun o=>by
       rw [cell_of_row w' g o cur E _ Be,cell_of_row w g o cur E _ hg]
      let F2:Nat→Prop:=fun b=>F b∨bP (β id)=some b
      have Ve:bh w' F2 (.s rows) (.slice (some ⟨g,0,none⟩) rows.length c):=by
       refine .s (off:=0) (k:=K) (u:=fun i j=>cur.getD (i*K+j) undef) (.inr hblk) hn gu hK (fun i j hi hj=>?_) (fun i j hi hj=>(hr i j hi hj).1) fun i j hi hj=>(hr i j hi hj).2.frame hF fun _ h=>.inl h
       have:i*K+j<cur.size:=by
        rw [hs]
        calc i*K+j<i*K+K:=by omega
         _=(i+1)*K:=by rw [bM];omega
         _≤c*K:=cI _ (by omega)
       rw [jJ,cell_of_row w' g _ cur E _ Be];simp [this]
      have hz:∀u,Rd w' F2 β (.o id) u→Rd w' F2 β (.s rows) u:=fun u hu=>by
       obtain ⟨a',n',c',h1,rfl⟩:=hu.jY;rw [ai] at h1;cases h1;exact .i Ve
      have up:∀{x u},Rd w F β x u→Rd w' F2 β x u:=fun h=>h.frame hF fun _ h=>.inl h
      have kP:Inv w' F2 β (oC id rows st.H):=by
       refine ⟨fun b hb=>by rw [aX];exact hb.elim (hI.cA b) fun hb=>hI.fJ ⟨id,_,hm,hb⟩,fun i c2 h=>?_,DL hI.keys,fun b ⟨i,c2,h,hb⟩ Ed=>?_,fun i c2 i' AJ b h h' hb aJ=>?_,hI.fh.frame hF fun _ h=>.inl h⟩
       ·obtain ⟨rj,c3,h3,rfl⟩:=lG h;have hh:=hI.holds i c3 h3;have ac_:∀b,bP (β i)=some b→w'.heap[b]?=w.heap[b]?:=fun b hb=>hU b fun e=>rj (hI.eo i c3 id _ b h3 hm hb (by rw [hblk,e]));have qk:=pH (F':=F2) hF (fun _ h=>.inl h) ac_ hh;cases c3 with
        |own E' K' r=>exact qk
        |mp ag r=>exact qk
        |si s pos=>exact qk
        |lp l e R L =>
         obtain ⟨fn,tmps,D,hb,yR,pE,zn⟩:=qk;refine ⟨fn,tmps,D,hb,yR,pE,fun p hp=>?_⟩;obtain ⟨q,hq,rfl⟩:=dq.1 hp;exact rN hz (fun _ _=>rfl) 2 (zn q hq)
        |box cells =>
         obtain ⟨b,cs,e,hb,yR,Oe,h1b,zn⟩:=qk;refine ⟨b,cs,e,hb,yR,by simpa using Oe,fun j hj=>h1b j (by simpa using hj),fun j hj=>?_⟩
         have hj:j<cells.length:=by simpa using hj
         have:(cells.map (sb (.s rows) 1 id)).getD j .χ=sb (.s rows) 1 id (cells.getD j .χ):=by simp [aV,hj]
         rw [this];exact rN hz (fun _ _=>rfl) 1 (zn j hj)
       ·obtain ⟨rj,c3,h3,_⟩:=lG h
        rcases Ed with Ed|Ed
        ·exact hI.apart b ⟨i,c3,h3,hb⟩ Ed
        ·exact rj (hI.eo i c3 id _ b h3 hm hb Ed)
       ·obtain ⟨_,c3,h3,_⟩:=lG h;obtain ⟨_,c4,h4,_⟩:=lG h';exact hI.eo i c3 i' c4 b h3 h4 hb aJ
      have zi:∀b,bD β (oC id rows st.H) b→bD β st.H b:=fun b ⟨i,c2,h,hb⟩=>by
       obtain ⟨_,c3,h3,_⟩:=lG h;exact ⟨i,c3,h3,hb⟩
      refine c8.value aZ ⟨_,_,F2,β,hk,.i Ve,⟨rfl,⟨rfl,fun _=>(by first|exact bG _|exact j3 _)⟩,rfl,Nat.le_of_eq aX.symm,fun b _ bw=>hU b fun e=>bw (e▸db),fun _ h=>.inl h,fun b hb=>?_,fun b hb=>.inr (zi b hb),fun t u hu=>rN hz (fun _ _=>rfl) 2 (up hu),kP,fun _ _=>rfl⟩⟩;exact hb.imp (fun h=>h) fun h=>.inr ⟨id,_,hm,h⟩
     ·cases h
    ·cases h
   ·cases h
  ·cases h
 ·cases h
def abt {t:Nat} {x:AV} {vx:Value} (hT:bL P T) (hI:Inv w F β st.H) (hx:Rd w F β x vx) (h:HU T t x st k) (ty:TypeId) :
  c8 P (do pure (.value (←vC #[t] ty #[vx]))) w F β st k:=by
 unfold HU at h;split at h
 ·rename_i i hi;split at h
  ·rename_i e he;have hu:=(hT _ _ hi).slice he;split at h
   ·rename_i j hj;split at h
    ·rename_i id Kw d;split at h
     ·rename_i E K rows hc;obtain ⟨hb,R,rfl,hk⟩:=cond_prop h;simp only [bJ] at hb;obtain ⟨⟨hK,Eg⟩,bU,hlen,g_⟩:=hb;have hK:K=j.cells:=cW hK;have Eg:Kw=K:=cW Eg;have hlen:(bz (cd j.zero)).length=j.cells:=cW hlen;subst Eg;have hm:=fc hc;obtain ⟨a,a',n,c,ai,hd,ha,rfl⟩:=hx.xw;have hz:=fun w' F'=>pa (nV w' F' j.zero β) bU
      have iH:j.zero.cells.size=j.cells:=by rw [(hz w F).1,hlen]
      have hn:n=rows.length:=by
       rcases tr (hI.holds _ _ hm) with ⟨rfl,a2,hv⟩|⟨g,cap,hv,_,iP⟩
       iterate 2 (rw [ai] at hv;cases hv;rfl)
      subst hn;by_cases h0:rows.length-d=0
      ·have aZ:(vC #[t] ty #[.slice a' (rows.length-d) (c-d)]).run P w=.ok (.tuple #[]) w:=by
        rw [h0];cases a'<;>simp [vC,run_underlying hu]
       refine c8.value aZ ⟨_,_,F,β,hk,.i (.t rfl fun i hi=>by simp at hi),?_⟩;rw [h0,List.replicate_zero,qJ,RS (by omega)];exact wj hI hm rfl ⟨rfl,fun _=>bG _⟩ rfl rfl (fun _ _=>rfl) (hI.holds _ _ hm)
      ·rcases hI.holds _ _ hm with ⟨rfl,_⟩|⟨g,cap,cur,hv,iP,hg,hn,gu,hs,A5,hr⟩
       ·simp at h0
       ·rw [ai] at hv;cases hv
        have sO:a'=some ⟨g,d*Kw,none⟩:=by rw [ha (by omega)];simp [gk]
        subst sO
        have q7:aH c 0=false:=by cases c<;>first|rfl|omega
        have ho:bD β st.H g:=⟨id,_,hm,by rw [ai];simp [bP,q7]⟩
        have hdK:d*Kw+(rows.length-d)*Kw=rows.length*Kw:=by rw [←bM];congr 1;omega
        have hcK:rows.length*Kw≤c*Kw:=cI _ hn;let zs:=dI j.zero.cells (rows.length-d)
        have mX:zs.toList.length=(rows.length-d)*Kw:=by simp only [zs,lR,Lg,iH,hK]
        have fi:∀x,x∈zs.toList→x.oneCell'=true:=fun x hx=>by
         simp only [zs,dI,ZH,dq] at hx;obtain ⟨q,hq,rfl⟩:=hx
         have rz:0<j.zero.cells.size:=by
          have:q∈nr ((rows.length-d)*j.zero.cells.size):=by simpa using hq
          rcases oY j.zero.cells.size with h|h
          ·rw [h] at this;simp at this
          ·exact h
         have Φ:=se q rz;have h2:=((hz w F).2 (q % j.zero.cells.size) (by omega)).1;simpa [Φ] using h2
        have bT:=run_storeCells_at P g (d*Kw) E zs.toList 0 cur w hg (by rw [mX];omega) fi;simp only [lW] at bT;have Oz:=(hT _ _ hj).tH w
        have aZ:(vC #[t] ty #[.slice (some ⟨g,d*Kw,none⟩) (rows.length-d) (c-d)]).run P w=.ok (.tuple #[]) (w.setRow g (cur.toList.take (d*Kw)++zs.toList++cur.toList.drop (d*Kw+zs.toList.length)).toArray):=by
         obtain ⟨q,hq⟩:∃q,rows.length-d=q+1:=⟨rows.length-d-1,by omega⟩;have Vl:=bT;simp only [zs,hq] at Vl ⊢;simp [vC,run_underlying hu,Oz,Vl]
        refine c8.value aZ ⟨_,_,F,β,hk,.i (.t rfl fun i hi=>by simp at hi),?_⟩;have hU:∀b cs,b≠g→(w.setRow g cs).heap[b]?=w.heap[b]?:=fun b cs hb=>setRow_other w g b cs hb;refine wj hI hm rfl ⟨rfl,fun _=>bG _⟩ rfl (by simp) (fun b' aJ=>hU b' _ (fun e=>aJ (by rw [ai,e];simp [bP,q7]))) (.inr ?_);have ha:∀cs,ga F w (w.setRow g cs):=fun cs b hb=>hU b cs fun e=>hI.apart g ho (e▸hb)
        have y0:(rows.take d++il (rows.length-d) ((bz (cd j.zero)).map nz)).length=rows.length:=by simp;omega
        have wW:(rows.take d).length=d:=by simp;omega
        have nQ:(cur.toList.take (d*Kw)).length=(rows.take d).length*Kw:=by simp only [dN,lR,wW];omega
        refine ⟨g,c,_,by rw [ai,y0],iP,setRow_heap w g cur _ E _ hg,by rw [y0];exact hn,gu,?_,Px (fun q hq=>?_) (fun r cK=>?_),fun q z hq iT=>?_⟩
        ·simp only [lC,cP,dN,lV,lR,mX];omega
        ·have wP:q<d:=by omega
         have:(rows.take d).getD q []=rows.getD q []:=by simp [aV,wP]
         rw [this];exact A5 q (by omega)
        ·rw [List.eq_of_mem_replicate cK,ax,hlen,hK]
        ·have below:∀(m n z:Nat),m<n→z<Kw→m*Kw+z<n*Kw:=fun m n z h hz=>by
          calc m*Kw+z<m*Kw+Kw:=by omega
           _=(m+1)*Kw:=by rw [bM];omega
           _≤n*Kw:=cI _ h
         have h1:∀q z,q<(rows.take d).length→z<Kw→((cur.toList.take (d*Kw)).getD (q*Kw+z) undef).oneCell'=true∧bh w F (((rows.take d).getD q []).getD z .χ) ((cur.toList.take (d*Kw)).getD (q*Kw+z) undef):=fun q z hq hz=>by
          rw [wW] at hq;have h3:=below q d z hq hz
          have h4:q*Kw+z<cur.size:=by omega
          have e1:(rows.take d).getD q []=rows.getD q []:=by simp [aV,hq]
          have e2:(cur.toList.take (d*Kw)).getD (q*Kw+z) undef=cur.getD (q*Kw+z) undef:=by simp [aV,h3,h4]
          rw [e1,e2];exact hr q z (by omega) hz
         have h2:∀q z,q<(il (rows.length-d) ((bz (cd j.zero)).map nz)).length→z<Kw→(zs.toList.getD (q*Kw+z) undef).oneCell'=true∧bh w F (((il (rows.length-d) ((bz (cd j.zero)).map nz)).getD q []).getD z .χ) (zs.toList.getD (q*Kw+z) undef):=fun q z hq VE=>by
          simp only [Z'] at hq;have h3:=below q (rows.length-d) z hq VE
          have e3:zs.toList.getD (q*Kw+z) undef=j.zero.cells.getD z undef:=by
           have h5:(q*Kw+z) % j.zero.cells.size=z:=by rw [iH,←hK,oi,Dd];exact Dc VE
           have h6:q*Kw+z<(rows.length-d)*j.zero.cells.size:=by rw [iH,←hK];exact h3
           have h7:z<j.zero.cells.size:=by omega
           simp [zs,dI,aV,h6,h5,h7]
          have e4:((il (rows.length-d) ((bz (cd j.zero)).map nz)).getD q []).getD z .χ=nz ((bz (cd j.zero)).getD z .χ):=by
           have h5:z<(bz (cd j.zero)).length:=by omega
           simp [aV,hq,h5]
          rw [e3,e4];have h4:=(hz w F).2 z (by omega);refine ⟨h4.1,BR (nR (ej.1 g_ _ ?_) h4.2)⟩;rw [fW,bF (show z<(bz (cd j.zero)).length by omega)];exact ek _
         have:=Kb (zs:=cur.toList.drop (d*Kw+zs.toList.length)) (Q:=fun x u=>u.oneCell'=true∧bh w F x u) nQ (by simp only [Z'];exact mX) h1 h2 q z hq iT;rw [vS _ (cur.toList.take (d*Kw)++zs.toList++cur.toList.drop (d*Kw+zs.toList.length)) rfl];exact ⟨this.1,this.2.frame (ha _) fun _ h=>h⟩
     ·cases h
    ·cases h
   ·cases h
  ·cases h
 ·cases h
def abr {args:Array Operand} {argTypes:Array TypeId} {a:Act} {type:TypeId} {f:Nat→AV} (hT:bL P T) (hI:Inv w F β st.H) (bI:∀x,x∈args→Rd w F β (ev f x) (a.eval x))
  (h:match argTypes.toList,args.toList.map (ev f) with
   |[t],[x]=>HU T t x st k
   |_,_=>False) :
  c8 P (do let d ←resolve a.eval { callee:=.builtin .clear,args:=args,argTypes:=argTypes } type;invoke d.target d.args) w F β st k:=by
 split at h
 ·rename_i t x e1 e2
  have Mk:argTypes=#[t]:=by rw [←Array.toArray_toList (xs:=argTypes),e1]
  have hl:args.size=1:=by have:=congrArg List.length e2;simpa using this
  have ex:x=ev f args[0]:=by
   have:=congrArg (fun l=>l[0]?) e2;simp [hl] at this;exact this.symm
  have ea:args.map a.eval=#[a.eval args[0]]:=by
   apply Array.ext
   ·simp [hl]
   ·intro i h1 h2
    have:i=0:=by simp at h2;omega
    subst this;simp
  have e:(do let d ←resolve a.eval { callee:=.builtin .clear,args:=args,argTypes:=argTypes } type;invoke d.target d.args:Sem Next)=builtin .clear argTypes type (args.map fun|.const _=>true|_=>false) (args.map a.eval):=rfl;rw [e,ea,Mk];exact abt hT hI (by rw [ex];exact bI _ (by simp)) h type
 ·cases h
def abA {t d:Nat} {x:AV} {vx:Value} (hd:d<1000) (hT:bL P T) (hI:Inv w F β st.H) (hx:Rd w F β x vx) (h:Mv T t x d st k):c8 P (do pure (.value (←Instr.range t vx))) w F β st k:=by
 unfold Mv at h;split at h
 ·rename_i i s hi;cases hx.bK;split at h
  ·rename_i hk;have hu:=(hT _ _ hi).str hk;have aZ:=run_range_string w t s hu;have eU:(w.iter s 0).heap[w.heap.size]?=some (.stringIter s 0):=World.iter_heap w s 0;have hb:=vV w (.stringIter s 0);refine c8.value aZ ⟨_,_,F,_,h,.b (by simp),qd (v:=.pointer (some ⟨w.heap.size,0,none⟩)) hd hI hb.os hb.tape hb.output hb.size (fun b Φ _=>hb.block b Φ) (fun i c b _ hm kR=>hb.block b (hI.fJ ⟨i,c,hm,kR⟩)) (fun b kR=>?_) ?_⟩
   ·simp [bP] at kR;left;omega
   ·exact ⟨w.heap.size,by simp,eU⟩
  ·cases h
 ·cases h
def abz {x:AV} {vx:Value} {Jf:Bool} {ty:TypeId} (hI:Inv w F β st.H) (hx:Rd w F β x vx) (h:Mu x Jf st k):c8 P (do pure (.value (←G1 vx Jf ty))) w F β st k:=by
 unfold Mu at h;split at h
 ·rename_i id;split at h
  ·rename_i s pos hc;have hm:=fc hc;obtain ⟨b,ai,hh⟩:=hI.holds _ _ hm;obtain ⟨eZ,hb,rfl⟩:=hx.mM;rw [ai] at hb;cases hb
   have kR:bP (β id)=some b:=by rw [ai];rfl
   have Φ:=kJ hh;by_cases hp:pos<s.size
   ·have aZ:(G1 (.pointer (some ⟨b,0,none⟩)) true ty).run P w=.ok (.tuple #[.bool true,.int .i64 (pos:Int),.int .i32 ((LH s pos).1:Int)]) { w with heap:=w.heap.setIfInBounds b (.stringIter s (pos+(LH s pos).2)) }:=by
     simp only [G1,getObj,setObj,kF,G',hh,Result.andThen,hp,if_true];simp [goInt,G',hh]
    refine c8.value aZ ⟨_,_,F,β,h.1 hp,.i (.t rfl fun i hi=>?_),wj hI hm rfl ⟨rfl,fun _=>bG _⟩ rfl (by simp) (fun b' aJ=>?_) ?_⟩
    ·match i,hi with
     |0,_=>exact .v (.inl rfl)
     |1,_=>exact .v (.inl rfl)
     |2,_=>exact .v (.inl rfl)
    ·exact xA fun e=>aJ (by rw [kR,e])
    ·exact ⟨b,ai,by simp [Φ]⟩
   ·have aZ:(G1 (.pointer (some ⟨b,0,none⟩)) true ty).run P w=.ok (.tuple #[.bool false]) w:=by
     simp [G1,getObj,G',hh,hp]
    refine c8.value aZ ⟨_,_,F,β,h.2 hp,.i (.t rfl fun i hi=>?_),Ext.refl hI⟩
    match i,hi with
    |0,_=>exact .v (.inl rfl)
  ·cases h
 ·cases h
def Yr {o:Oper} {a:Act} (hT:bL P T) (hI:Inv w F β st.H) (bI:∀x,x∈o.op.operands→Rd w F β (ev st.f x) (a.eval x)) (h:step P T o st k):c8 P (execOp a.eval o) w F β st k:=by
 have A9:=(cond_prop h).1;replace h:=(cond_prop h).2
 have hd:o.dst.getD 0<1000:=by simpa using A9
 clear A9;have quiet:ni P T o (ev st.f) st.H (fun r=>k r st)→c8 P (execOp a.eval o) w F β st k:=fun h=>agI hI (KN hT hI bI h);obtain ⟨dst,op,type,pos,after,guard⟩:=o;cases op<;>simp only [Op.operands] at bI
 case alloc t=>simp only [execOp];exact abj hd hT hI h
 case box t x=>simp only [execOp];exact abn hd hI (bI x (by simp)) h
 case makeMap t r =>
  cases r with
  |none=>simp only [execOp];exact abx hd hT hI h
  |some r=>exact quiet h
 case range t x=>simp only [execOp];exact abA hd hT hI (bI x (by simp)) h
 case next x s=>simp only [execOp];exact abz hI (bI x (by simp)) h
 case mapUpdate t m i y=>simp only [execOp];exact Tc hT hI (bI m (by simp)) (bI i (by simp)) (bI y (by simp)) h
 case insert t m i y=>simp only [execOp];exact Tc hT hI (bI m (by simp)) (bI i (by simp)) (bI y (by simp)) h
 case store t x y=>simp only [execOp];exact abE hT hI (bI x (by simp)) (bI y (by simp)) h
 case buildSlice t n parts =>
  rcases h with h|h
  ·exact quiet h
  ·simp only [execOp];exact abo hd hT hI (JP (ev st.f) a.eval parts) (JQ fun x hx=>bI x (by simpa using hx)) h
 case slice t x lo hi mx =>
  cases mx with
  |none =>
   cases lo with
   |some l=>exact quiet h
   |none =>
    simp only [Cw] at h;split at h
    ·simp only [execOp];refine abC (vhi:=hi.map a.eval) hT hI (bI x (by simp)) ?_ h;cases hi with
     |none=>exact LF
     |some l=>exact bI l (by simp)
    ·exact quiet h
  |some m =>
   have h:HX T t (ev st.f x) (lo.map (ev st.f)) (hi.map (ev st.f)) (some (ev st.f m)) (dst.getD 0) st k:=by cases lo<;>exact h
   simp only [execOp];refine abB (vlo:=lo.map a.eval) (vhi:=hi.map a.eval) (vmx:=some (a.eval m)) hd hT hI (bI x (by simp)) ?_ ?_ ?_ h
   ·cases lo with
    |none=>exact LF
    |some l=>exact bI l (by simp)
   ·cases hi with
    |none=>exact LF
    |some l=>exact bI l (by simp)
   ·exact bI m (by simp)
 case makeSlice t l c =>
  rcases h with h|h
  ·exact quiet h
  ·simp only [execOp];exact aby hd hT hI (bI l (by simp)) (bI c (by simp)) h
 case convert s t x =>
  simp only [Cw] at h;split at h
  ·rename_i id hid;simp only [execOp];have hx:=bI x (by simp);rw [hid] at hx;exact abu hT hI hx h
  ·exact quiet h
 case call c =>
  obtain ⟨callee,args,argTypes⟩:=c
  have mR:∀i,i<(args.toList.map (ev st.f)).length→Rd w F β ((args.toList.map (ev st.f)).getD i .χ) ((args.map a.eval).getD i undef):=fun i hi=>by
   simp at hi;simpa [aV,hi] using bI args[i] (by simp [qH])
  cases callee with
  |builtin b =>
   cases b
   case append=>simp only [execOp];exact abm hd hT hI (fun x hx=>bI x (by simp [qH,hx])) h
   case copy=>simp only [execOp];exact abv hT hI (fun x hx=>bI x (by simp [qH,hx])) h
   case clear=>simp only [execOp];exact abr hT hI (fun x hx=>bI x (by simp [qH,hx])) h
   all_goals exact quiet h
  |value f=>simp only [execOp];exact abp hI (bI f (by simp [qH])) mR h
  |invoke r m=>exact quiet h
 all_goals exact quiet h
def aip {o:Oper} {a:Act} (hT:bL P T) (hI:Inv w F β st.H) (hf:∀t,Rd w F β (st.f t) (a.tmps.getD t undef)) (h:step P T o st k):c8 P (execOp a.eval o) w F β st k :=
 Yr hT hI (fun x _=>AW hf x) h
end
def Br (b want:Bool) (yes no:Prop):Prop :=
 match b,want with
 |true,true=>yes
 |false,false=>yes
 |true,false=>no
 |false,true=>no
def Br.y {b want:Bool} {yes no:Prop} (h:Br b want yes no) (hb:b=want):yes:=by subst hb;cases b<;>exact h
def Br.n {b want:Bool} {yes no:Prop} (h:Br b want yes no) (hb:b=!want):no:=by subst hb;cases want<;>exact h
def Br.tt {yes no:Prop} (h:yes):Br true true yes no:=h
def Br.ff {yes no:Prop} (h:yes):Br false false yes no:=h
def Br.tf {yes no:Prop} (h:no):Br true false yes no:=h
def Br.ft {yes no:Prop} (h:no):Br false true yes no:=h
def Br.yes {b want:Bool} {yes no:Prop} (hb:b=want) (h:yes):Br b want yes no:=by
 subst hb;cases b
 ·exact Br.ff h
 ·exact Br.tt h
def Br.no {b want:Bool} {yes no:Prop} (hb:b=!want) (h:no):Br b want yes no:=by
 subst hb;cases want
 ·exact Br.tf h
 ·exact Br.ft h
def Br.ite {b:Bool} {ρ:Type} {X Y:Option ρ} {r:ρ} {yes no:Prop} (h:(if b=true then X else Y)=some r) (y:b=true→X=some r→yes) (n:b=false→Y=some r→no):Br b true yes no:=by
 cases b with
 |true=>exact y rfl (by simpa using h)
 |false=>exact n rfl (by simpa using h)
def Br.eh {b:Bool} {ρ:Type} {X Y:Option ρ} {r:ρ} {yes no:Prop} (h:(if b=true then X else Y)=some r) (y:b=true→X=some r→no) (n:b=false→Y=some r→yes):Br b false yes no:=by
 cases b with
 |true=>exact y rfl (by simpa using h)
 |false=>exact n rfl (by simpa using h)
def Tz (x:AV) (k:AV→Prop):Prop :=
 match x with
 |.v a=>k (.v a)
 |.s a=>k (.s a)
 |.p a=>k (.p a)
 |.a a=>k (.a a)
 |.t a=>k (.t a)
 |.c a b c=>k (.c a b c)
 |.b a b=>k (.b a b)
 |.o a=>k (.o a)
 |.e a b c d=>k (.e a b c d)
 |.w a b c=>k (.w a b c)
 |.m a=>k (.m a)
 |.z=>k .z
 |.χ=>k .χ
def ab4 (x:AV) (k:AV→Prop):Tz x k=k x:=by cases x<;>rfl
def put (n:Nat) (dst:Option Nat) (st:ah) (r:AV) (K:ah→Prop):Prop :=
 match st with
 |⟨f,H⟩=>match dst with
  |none=>K ⟨f,H⟩
  |some d=>bif eO d n then Tz r fun r=>K ⟨dZ f d r,H⟩ else False
def put_eq (n:Nat) (dst:Option Nat) (st:ah) (r:AV) (K:ah→Prop):put n dst st r K=match dst with
  |none=>K st
  |some d=>bif eO d n then K ⟨dZ st.f d r,st.H⟩ else False:=by
 cases st;cases dst with
 |none=>rfl
 |some d=>simp only [put,ab4]
def gd (n:Nat) (all:Array Oper) (o:Oper) (st:ah) (yes no:ah→Prop):Prop :=
 match st with
 |⟨f,H⟩=>match o.guard with
  |none=>yes ⟨f,H⟩
  |some (j,want)=>match (all[j]?).bind (·.dst) with
   |some d=>bif eO d n then
     match f d with
     |.v (.bool b)=>Br b want (yes ⟨dZ f d (.v (.bool want)),H⟩) (no ⟨dZ f d (.v (.bool (!want))),H⟩)
     |.v (.tuple _)=>no ⟨f,H⟩
     |_=>False
    else False
   |none=>False
def sM (n:Nat) (all:Array Oper) (o:Oper) (st:ah) (yes no:ah→Prop):gd n all o st yes no=match o.guard with
 |none=>yes st
 |some (j,want)=>match (all[j]?).bind (·.dst) with
  |some d=>bif eO d n then
    match st.f d with
    |.v (.bool b)=>Br b want (yes ⟨dZ st.f d (.v (.bool want)),st.H⟩) (no ⟨dZ st.f d (.v (.bool (!want))),st.H⟩)
    |.v (.tuple _)=>no st
    |_=>False
   else False
  |none=>False:=by cases st;rfl
def iW (P:Program) (T:TT) (n:Nat) (all:Array Oper):List Oper→ah→(ah→Prop)→Prop
 |[],st,K=>K st
 |o::os,st,K=>gd n all o st (fun st=>step P T o st fun r au=>put n o.dst au r fun fL=>iW P T n all os fL K) fun st=>put n o.dst st (.v undef) fun au=>iW P T n all os au K
class eE where
 any:Prop
abbrev eE.yes:eE:=⟨True⟩
abbrev eE.no:eE:=⟨False⟩
variable [R:eE]
structure Ctx where
 w:World
 F:Nat→Prop
 β:Nat→Value
 H:Hp
 n:Nat
 ro:Option Nat:=none
 EI:ro=none∨R.any:=by exact .inl rfl
 dl:List Deferred:=[]
def Ctx.ms (C:Ctx) (ds:List Deferred):List Deferred:=ds.take (ds.length-C.dl.length)
structure XM (C:Ctx) (ds:List Deferred) (w:World) (F:Nat→Prop) (β:Nat→Value) (H:Hp):Prop where
 x:Ext C.w C.F C.β ⟨aG,C.H⟩ w F β ⟨aG,H⟩
 m:∀d,d∈C.ms ds→∃D,d={ target:=.collected D,args:=#[] }∧C.w.heap.size≤D∧w.heap[D]?=some (.deferred (some []))∧¬F D∧¬bD β H D
 nd:(C.ms ds).Nodup
 sp:∃l,ds=l++C.dl
section
variable {C:Ctx} {ds:List Deferred} {w w':World} {F F':Nat→Prop} {β av:Nat→Value} {H H':Hp}
def Ctx.aeO {d:Deferred} (h:∃l,ds=l++C.dl):C.ms (d::ds)=d::C.ms ds:=by
 obtain ⟨l,rfl⟩:=h;unfold Ctx.ms
 have e1:(d::(l++C.dl)).length-C.dl.length=l.length+1:=by simp;omega
 have e2:(l++C.dl).length-C.dl.length=l.length:=by simp
 rw [e1,e2];rfl
def Ctx.Wd (h:C.dl=[]):C.ms ds=ds:=by unfold Ctx.ms;rw [h];simp
def Ctx.E7 {l:List Deferred}:C.ms (l++C.dl)=l:=by unfold Ctx.ms;simp
def XM.inv (h:XM C ds w F β H):Inv w F β H:=h.x.inv
def Ext.no {st au:ah} (h:Ext w F β st w' F' av au):Ext w F β ⟨aG,st.H⟩ w' F' av ⟨aG,au.H⟩ :=
 ⟨h.os,h.tape,h.output,h.size,h.block,h.mono,h.new,h.owned,fun _ _ _=>.χ,h.inv,h.gh⟩
def XM.trans {f f':Nat→AV} (h:XM C ds w F β H) (hx:Ext w F β ⟨f,H⟩ w' F' av ⟨f',H'⟩):XM C ds w' F' av H' where
 x:=h.x.trans hx.no
 m d hd:=by
  obtain ⟨D,h1,h2,h3,h4,h5⟩:=h.m d hd;have Φ:=kJ h3;refine ⟨D,h1,h2,(hx.block D Φ h5).trans h3,fun hF=>?_,fun ho=>?_⟩
  ·rcases hx.new D hF with h|h|h
   ·exact h4 h
   ·exact absurd Φ (Nat.not_lt.2 h)
   ·exact h5 h
  ·rcases hx.owned D ho with h|h
   ·exact absurd Φ (Nat.not_lt.2 h)
   ·exact h5 h
 nd:=h.nd
 sp:=h.sp
def XM.O3 (h:XM C ds w F β H):XM C ds w F β H:=h
end
def Rel (C:Ctx) (st:ah) (a:Act) (w:World):Prop :=
 ∃F β,a.tmps.size=C.n∧True∧(∀t,Rd w F β (st.f t) (a.tmps.getD t undef))∧XM C a.defers w F β st.H
def Hc (P:Program) (C:Ctx) (c:Code) (st:ah) (Q:Exit→ah→Prop):Prop :=
 ∀a w,Rel C st a w→c.wpIn (fN C.ro) 0 P (fun e a' w'=>∃au,Rel C au a' w'∧Q e au) a w
structure Sb (P:Program) (n:Nat) (c:Code) (st:ah) (Q:Exit→ah→Prop):Prop where
 h:∀C:Ctx,C.n=n→Hc P C (.loop c) st Q
structure He (P:Program) (n:Nat) (id:Nat) (ops:Array Oper) (st:ah) (K:ah→Prop):Prop where
 h:∀C:Ctx,C.n=n→Hc P C (.region id ops true) st fun e au=>match e with
  |.normal=>K au
  |_=>False
def xx (P:Program) (T:TT) (n:Nat):Code→ah→(Exit→ah→Prop)→Prop
 |.skip,st,Q=>Q .normal st
 |.label _,st,Q=>Q .normal st
 |.region id ops draw,st,Q=>bif draw then He P n id ops st (Q .normal) else iW P T n ops ops.toList st (Q .normal)
 |.seq x y,st,Q=>xx P T n x st fun e s=>match e with
  |.normal=>xx P T n y s Q
  |e=>Q e s
 |.cond c x y,st,Q=>match c with
  |.tmp d=>bif eO d n then
    match st.f d with
    |.v (.bool b)=>Br b true (xx P T n x ⟨dZ st.f d (.v (.bool true)),st.H⟩ Q) (xx P T n y ⟨dZ st.f d (.v (.bool false)),st.H⟩ Q)
    |_=>False
   else False
  |.const (.bool true)=>xx P T n x st Q
  |.const (.bool false)=>xx P T n y st Q
  |_=>False
 |.block id c,st,Q=>xx P T n c st fun e s=>match e with
  |.exit i=>bif aH i id then Q .normal s else Q (.exit i) s
  |e=>Q e s
 |.loop c,st,Q=>Sb P n c st Q
 |.exit id,st,Q=>Q (.exit id) st
 |.ret,st,Q=>Q .ret st
 |_,_,_=>False
section
variable {P:Program} {T:TT} {C:Ctx}
def Ext.vp {w:World} {F:Nat→Prop} {β:Nat→Value} {st:ah} {w':World} {F':Nat→Prop} {av:Nat→Value} {au:ah} (h:Ext w F β st w' F' av au) (f:Nat→AV) :
  Ext w F β ⟨f,st.H⟩ w' F' av ⟨aG,au.H⟩ :=
 ⟨h.os,h.tape,h.output,h.size,h.block,h.mono,h.new,h.owned,fun _ _ _=>.χ,h.inv,h.gh⟩
def Rd.put {w:World} {F:Nat→Prop} {β:Nat→Value} {f:Nat→AV} {a:Act} {d:Nat} {r:AV} {v:Value} (hf:∀t,Rd w F β (f t) (a.tmps.getD t undef)) (hv:Rd w F β r v) (hd:d<a.tmps.size) :
  ∀t,Rd w F β (dZ f d r t) ((a.put (some d) v).tmps.getD t undef):=by
 intro t;unfold dZ;cases hb:aH t d with
 |true =>
  obtain rfl:=cW hb;simpa [Act.put,hd] using hv
 |false =>
  have aQ:d≠t:=fun e=>by rw [e,iY] at hb;cases hb
  have:=hf t;simpa [Act.put,xA aQ] using this
def CU {w:World} {F:Nat→Prop} {β:Nat→Value} {f:Nat→AV} {a:Act} {d:Nat} {b c:Bool} (hf:∀t,Rd w F β (f t) (a.tmps.getD t undef)) (hd:f d=.v (.bool b)) (hb:b=c) :
  ∀t,Rd w F β (dZ f d (.v (.bool c)) t) (a.tmps.getD t undef):=by
 intro t;unfold dZ;cases ht:aH t d with
 |true =>
  obtain rfl:=cW ht;subst hb;simpa [hd] using hf t
 |false=>exact hf t
def zQ {n:Nat} {dst:Option Nat} {st:ah} {r:AV} {K:ah→Prop} {a:Act} {w:World} {F:Nat→Prop} {β:Nat→Value} {v:Value} (hn:C.n=n) (hs:a.tmps.size=C.n) (hd:True)
  (hf:∀t,Rd w F β (st.f t) (a.tmps.getD t undef)) (he:XM C a.defers w F β st.H) (hv:Rd w F β r v) (h:put n dst st r K):∃au,Rel C au (a.put dst v) w∧K au:=by
 rw [put_eq] at h;cases dst with
 |none=>exact ⟨st,⟨F,β,hs,hd,hf,he⟩,h⟩
 |some d =>
  obtain ⟨Φ,hk⟩:=cond_prop h
  have Φ:d<n:=by simpa [gO] using Φ
  exact ⟨⟨dZ st.f d r,st.H⟩,⟨F,β,by simpa [Act.put] using hs,hd,Rd.put hf hv (by omega),he⟩,hk⟩
def put_defers (a:Act) (dst:Option Nat) (v:Value):(a.put dst v).defers=a.defers:=by cases dst<;>rfl
def vZ {ro:Option Nat} {m:Nat} {f:FuncId} {args:Array Value} {w:World} {R:Ending→World→Prop} (h:Calls P f args w R):CallsIn (fN ro) m P f args w R :=
 ⟨trivial,fun cs _=>let ⟨e,w',fr,r,s,x⟩:=h cs;⟨e,w',fr,r,comesIn_wide.2 s,x⟩⟩
def XF {ro:Option Nat} {m m':Nat} {l:Nat} {f:FuncId} {tmps:Array Value} {assign body:Code} {w:World} {R:Ending→World→Prop} (h:RoundIn gl m P l f tmps assign body w R):RoundIn (fN ro) m' P l f tmps assign body w R :=
 ⟨trivial,fun c cs _=>h.2 c cs (room_wide _)⟩
def Oper.kj {o:Oper} {ro:Option Nat} {a:Act} {w:World} {N:Act→World→Prop} {Q:Exit→Act→World→Prop} {r:Result Next} (hd:∀c,o.op≠.defer c) (aZ:(execOp a.eval o).run P w=r) (h:o.uponIn (fN ro) 0 P a N Q r):o.wpIn (fN ro) 0 P a w N Q :=
 ⟨fun _ _=>trivial,by rw [Oper.semAt_eq _ _ _ hd,aZ];exact h⟩
def Yo {o:Oper} {ρ:Operand→AV} {H:Hp} {k:AV→Prop} (h:ni P T o ρ H k):∀c,o.op≠.defer c:=fun c e=>by
 unfold ni at h;rw [e] at h;exact h
def Yq {o:Oper} {st:ah} {k:AV→ah→Prop} (h:step P T o st k):∀c,o.op≠.defer c:=fun c e=>by
 have h:=(cond_prop h).2;unfold Cw at h;rw [e] at h;exact Yo h c e
def vz {n:Nat} {all:Array Oper} {o:Oper} {i:Nat} {st:ah} {K:ah→Prop} {a:Act} {w:World} {Q:Exit→Act→World→Prop} {N:Act→World→Prop} (hT:bL P T) (hn:C.n=n) (ho:all[i]?=some o) (hr:Rel C st a w)
  (hN:∀st a w,Rel C st a w→K st→N a w)
  (h:gd n all o st (fun st=>step P T o st fun r au=>put n o.dst au r K) fun st=>put n o.dst st (.v undef) K):wpOpIn (fN C.ro) 0 P all Q i N a w:=by
 obtain ⟨F,β,hs,hd,hf,he⟩:=hr;have hI:Inv w F β st.H:=he.inv
 have run:∀st,st.H=st.H→(∀t,Rd w F β (st.f t) (a.tmps.getD t undef))→Inv w F β st.H→XM C a.defers w F β st.H→(step P T o st fun r au=>put n o.dst au r K)→o.wpIn (fN C.ro) 0 P a w N Q:=by
  intro st _ hf hI he h;have dP:=Yq h
  rcases aip hT hI hf h with ⟨v,w',aZ,r,au,F',av,hk,hv,hx⟩|⟨w',aZ,r,au,F',av,hk,hv,hx⟩|⟨g,vs,aZ,hc⟩|⟨l,fn,tmps,assign,body,aZ,hc⟩
  ·refine Oper.kj dP aZ ?_;rw [Oper.uponIn_value];obtain ⟨fL,h1,h2⟩:=zQ hn hs hd (fun t=>hx.keep t _ (hf t)) (he.trans (hx.vp aG)) hv hk;exact hN _ _ _ h1 h2
  ·refine Oper.kj dP aZ ?_;rw [Oper.uponIn_skip];obtain ⟨fL,h1,h2⟩:=zQ hn hs hd (fun t=>hx.keep t _ (hf t)) (he.trans (hx.vp aG)) hv hk;exact hN _ _ _ h1 h2
  ·refine Oper.kj dP aZ ?_;rw [Oper.uponIn_enter];refine ⟨fun h=>(by cases h),vZ (hc.mono ?_)⟩;rintro e w' ⟨v,rfl,r,au,F',av,hk,hv,hx⟩;obtain ⟨fL,h1,h2⟩:=zQ hn hs hd (fun t=>hx.keep t _ (hf t)) (he.trans (hx.vp aG)) hv hk;exact hN _ _ _ h1 h2
  ·refine Oper.kj dP aZ ?_;rw [Oper.uponIn_round];refine ⟨fun h=>(by cases h),XF (hc.mono ?_)⟩;rintro e w' ⟨v,rfl,r,au,F',av,hk,hv,hx⟩;obtain ⟨fL,h1,h2⟩:=zQ hn hs hd (fun t=>hx.keep t _ (hf t)) (he.trans (hx.vp aG)) hv hk;exact hN _ _ _ h1 h2
 have skip:∀st:ah,(∀t,Rd w F β (st.f t) (a.tmps.getD t undef))→XM C a.defers w F β st.H→put n o.dst st (.v undef) K→N (a.put o.dst undef) w:=by
  intro st hf he h;obtain ⟨fL,h1,h2⟩:=zQ hn hs hd hf he (.i (.v (.inr rfl)):Rd w F β (.v undef) undef) h;exact hN _ _ _ h1 h2
 unfold wpOpIn;simp only [ho];rw [sM] at h;cases hg:o.guard with
 |none =>
  rw [hg] at h
  have hw:dW o (yielded all a.tmps)=true:=by simp [dW,hg]
  rw [if_pos hw];exact run st rfl hf hI he h
 |some jw =>
  obtain ⟨j,want⟩:=jw;rw [hg] at h;simp only at h;split at h
  ·rename_i d oE;obtain ⟨Φ,h⟩:=cond_prop h
   have Φ:d<a.tmps.size:=by rw [hs,hn];simpa [gO] using Φ
   have gr:=hf d
   have hy:∀v,a.tmps.getD d undef=v→yielded all a.tmps j=match v with|.bool b=>some b|_=>none:=by
    intro v hv
    have h2:a.tmps[d]?=some v:=by
     rw [←hv];simp [Φ]
    unfold yielded;rw [oE,Option.bind_some,h2];cases v<;>rfl
   split at h
   ·rename_i b hb;rw [hb] at gr;have hv:=gr.bK;have h_:=hy _ hv;simp only at h_;by_cases jA:b=want
    ·have hw:dW o (yielded all a.tmps)=true:=by simp [dW,hg,h_,jA]
     rw [if_pos hw];exact run ⟨dZ st.f d (.v (.bool want)),st.H⟩ rfl (CU hf hb jA) hI he (h.y jA)
    ·have qg:b=!want:=by cases b<;>cases want<;>first|rfl|exact absurd rfl jA
     have hw:¬dW o (yielded all a.tmps)=true:=by simp [dW,hg,h_,jA]
     rw [if_neg hw];exact ⟨fun _ _=>trivial,skip ⟨dZ st.f d (.v (.bool !want)),st.H⟩ (CU hf hb qg) he (h.n qg)⟩
   ·rename_i vs hb;rw [hb] at gr;have hv:=gr.bK;have h_:=hy _ hv;simp only at h_
    have hw:¬dW o (yielded all a.tmps)=true:=by simp [dW,hg,h_]
    rw [if_neg hw];exact ⟨fun _ _=>trivial,skip st hf he h⟩
   ·cases h
  ·cases h
def akQ {n:Nat} {all:Array Oper} {K:ah→Prop} {Q:Exit→Act→World→Prop} (hT:bL P T) (hn:C.n=n) (hQ:∀st a w,Rel C st a w→K st→Q .normal a w) :
  ∀(l:List Oper) (i:Nat) (st:ah) (a:Act) (w:World),(∀k,k<l.length→all[i+k]?=l[k]?)→Rel C st a w→iW P T n all l st K→wpOpsIn (fN C.ro) 0 P all Q (List.range' i l.length) a w:=by
 intro l;induction l with
 |nil=>intro i st a w _ hr h;exact hQ _ _ _ hr h
 |cons o os ih =>
  intro i st a w ed hr h
  have ho:all[i]?=some o:=by simpa using ed 0 (by simp)
  rw [List.length_cons,List.range'_succ,wpOpsIn_cons];refine vz (K:=fun st=>iW P T n all os st K) hT hn ho hr (fun st a w hr hk=>?_) h;exact ih (i+1) st a w (fun k hk=>by have:=ed (k+1) (by simp;omega);rw [show i+1+k=i+(k+1) by omega];simpa using this) hr hk
def Rk {n:Nat} (hT:bL P T) (hn:C.n=n):∀(c:Code) (st:ah) (Q:Exit→ah→Prop),xx P T n c st Q→Hc P C c st Q:=by
 intro c;induction c with
 |skip=>intro st Q h a w hr;exact wpIn_skip ⟨st,hr,h⟩
 |label l=>intro st Q h a w hr;exact wpIn_label ⟨st,hr,h⟩
 |region id ops draw =>
  intro st Q h a w hr;cases draw with
  |true =>
   refine wpIn_mono ((show He P n id ops st (Q .normal) from h).h C hn a w hr) ?_;rintro e a' w' ⟨au,cK,hq⟩
   cases e<;>first|exact ⟨au,cK,hq⟩|exact hq.elim
  |false =>
   refine wpIn_region ?_;have:=akQ (C:=C) (Q:=fun e a' w'=>∃au,Rel C au a' w'∧Q e au) hT hn (fun st a w hr hk=>⟨st,hr,hk⟩) ops.toList 0 st a w (fun k hk=>by simp) hr h;simpa [List.range_eq_range'] using this
 |seq x y EW EX =>
  intro st Q h a w hr;refine wpIn_seq (wpIn_mono (EW st _ h a w hr) ?_);rintro e a' w' ⟨au,cK,hq⟩
  cases e<;>first|exact EX au Q hq a' w' cK|exact ⟨au,cK,hq⟩
 |cond c x y EW EX =>
  intro st Q h a w hr;cases c with
  |tmp d =>
   obtain ⟨Φ,h⟩:=cond_prop h;split at h
   ·rename_i b hb;obtain ⟨F,β,hs,hd,hf,he⟩:=hr;have gr:=hf d;rw [hb] at gr;have hv:a.eval (.tmp d)=.bool b:=gr.bK;refine wpIn_cond_split hv (fun ht=>?_) fun ht=>?_
    ·exact EW _ _ (h.y ht) a w ⟨F,β,hs,hd,CU hf hb ht,he⟩
    ·exact EX _ _ (h.n (by simpa using ht)) a w ⟨F,β,hs,hd,CU hf hb ht,he⟩
   ·cases h
  |const v =>
   cases v<;>first|exact h.elim|skip
   rename_i b;cases b with
   |true=>exact wpIn_cond_true rfl (EW _ _ h a w hr)
   |false=>exact wpIn_cond_false rfl (EX _ _ h a w hr)
  |global g=>cases h
  |func g=>cases h
 |block id c ih =>
  intro st Q h a w hr;refine wpIn_block (wpIn_mono (ih st _ h a w hr) ?_);rintro e a' w' ⟨au,cK,hq⟩;cases e with
  |exit i =>
   by_cases hi:i=id
   ·subst hi;simp only [iY,cond_true] at hq;simp only [Exit.inBlock,if_true];exact ⟨au,cK,hq⟩
   ·have:aH i id=false:=by cases hb:aH i id;rfl;exact absurd (cW hb) hi
    simp only [this,cond_false] at hq;simp only [Exit.inBlock,if_neg hi];exact ⟨au,cK,hq⟩
  |_=>exact ⟨au,cK,hq⟩
 |loop c ih=>intro st Q h a w hr;exact (show Sb P n c st Q from h).h C hn a w hr
 |exit id=>intro st Q h a w hr;exact wpIn_exit ⟨st,hr,h⟩
 |ret=>intro st Q h a w hr;exact wpIn_ret ⟨st,hr,h⟩
 |scope c ih=>intro st Q h;cases h
 |goto l=>intro st Q h;cases h
 |refuse s=>intro st Q h;cases h
 |rangeFunc f ps x y EW EX=>intro st Q h;cases h
end
def Ce (T:TT):List ResultVar→ah→(List AV→Prop)→Prop
 |[],_,k=>k []
 |.tmp t::r,st,k=>Ce T r st fun vs=>k (st.f t::vs)
 |.cell t ty::r,st,k=>match st.f t with
  |.b id off=>Cf T ty (.b id off) st.H fun x=>Ce T r st fun vs=>k (x::vs)
  |_=>False
def qy (T:TT) (rs:List ResultVar) (st:ah) (k:AV→Prop):Prop :=
 Ce T rs st fun vs=>match vs with
  |[x]=>k x
  |vs=>k (.t vs)
def sK (T:TT) (rs:List ResultVar) (R:AV→ah→Prop):Exit→ah→Prop
 |.normal,st=>qy T rs st fun x=>R x st
 |.ret,st=>qy T rs st fun x=>R x st
 |_,_=>False
def lg (args:List AV):Nat→AV:=fun t=>args.getD t (.v undef)
def Fz (H:Hp) (x r:AV):Prop:=∀(w:World) (F:Nat→Prop) (β:Nat→Value) (u:Value),Inv w F β H→Rd w F β x u→bh w (fun b=>F b∨bD β H b) r u
section
variable {P:Program} {T:TT} {w:World} {F:Nat→Prop} {β:Nat→Value}
def Pu (hT:bL P T) {tmps:Array Value}:∀(rs:List ResultVar) {st:ah} {k:List AV→Prop},Inv w F β st.H→(∀t,Rd w F β (st.f t) (tmps.getD t undef))→Ce T rs st k →
  ∃vs xs,(rs.mapM fun (r:ResultVar)=>(match r with
   |.tmp t=>pure (tmps.getD t undef)
   |.cell a t=>do loadVar t (←asAddr (tmps.getD a undef)):Sem Value)).run P w=.ok vs w∧k xs∧vs.length=xs.length∧∀i,i<xs.length→Rd w F β (xs.getD i .χ) (vs.getD i undef)
 |[],st,k,_,_,h=>⟨[],[],by simp,h,rfl,fun i hi=>by simp at hi⟩
 |.tmp t::r,st,k,hI,hf,h=>by
  obtain ⟨vs,xs,hr,hk,hl,hv⟩:=Pu hT r hI hf h;refine ⟨tmps.getD t undef::vs,st.f t::xs,by rw [al4];simp only [kF,Sem.run_pure,mw,hr],hk,by simp [hl],fun i hi=>?_⟩;cases i with
  |zero=>exact hf t
  |succ i=>exact hv i (by simpa using hi)
 |.cell t ty::r,st,k,hI,hf,h=>by
  simp only [Ce] at h;split at h
  ·rename_i id off hid;have gr:=hf t;rw [hid] at gr;obtain ⟨v,x,aZ,h,hx⟩:=XN (P:=P) hT hI gr h;obtain ⟨eZ,ai,hv⟩:=gr.mM
   have ads:(loadVar ty ⟨eZ,off,none⟩).run P w=.ok v w:=by
    rw [hv] at aZ;simpa [Instr.loadAt,G2] using aZ
   obtain ⟨vs,xs,hr,hk,hl,jU⟩:=Pu hT r hI hf h;refine ⟨v::vs,x::xs,?_,hk,by simp [hl],fun i hi=>?_⟩
   ·have e:(do loadVar ty (←asAddr (tmps.getD t undef)):Sem Value).run P w=.ok v w:=by
     rw [hv];simpa [asAddr] using ads
    rw [al4,kF]
    erw [e]
    simp only [mw,kF,hr,Sem.run_pure]
   ·cases i with
    |zero=>exact hx
    |succ i=>exact jU i (by simpa using hi)
  ·cases h
def Ka (hT:bL P T) {fn:Func} {tmps:Array Value} {st:ah} {k:AV→Prop} (hI:Inv w F β st.H) (hf:∀t,Rd w F β (st.f t) (tmps.getD t undef)) (h:qy T fn.results.toList st k) :
  ∃v x,(results fn tmps).run P w=.ok v w∧k x∧Rd w F β x v:=by
 obtain ⟨vs,xs,hr,hk,hl,hv⟩:=Pu hT fn.results.toList hI hf h
 have hm:(fn.results.mapM fun (r:ResultVar)=>(match r with
   |.tmp t=>pure (tmps.getD t undef)
   |.cell a t=>do loadVar t (←asAddr (tmps.getD a undef)):Sem Value)).run P w=.ok vs.toArray w:=by
  rw [Array.mapM_eq_mapM_toList];simp only [Sem.run_map,hr,mw]
 have wR:(results fn tmps).run P w=.ok (if h:vs.toArray.size=1 then vs.toArray[0] else .tuple vs.toArray) w:=by
  unfold results;rw [kF];exact congrArg (fun z:Result (Array Value)=>z.andThen fun (a:Array Value) w'=>G' P (pure (if h:a.size=1 then a[0] else .tuple a)) w') hm
 split at hk
 ·rename_i x;obtain ⟨v,rfl⟩:=List.length_eq_one_iff.1 (by simpa using hl:vs.length=1);exact ⟨v,x,by rw [wR];rfl,hk,by simpa using hv 0 (by simp)⟩
 ·rename_i aQ
  have aX:¬vs.toArray.size=1:=fun h1=>by
   have:xs.length=1:=by simpa [hl] using h1
   match xs,this with
   |[x],_=>exact aQ x rfl
  refine ⟨.tuple vs.toArray,.t xs,by rw [wR,dif_neg aX],hk,.t (by simpa using hl) fun i hi=>?_⟩;simpa [aV] using hv i hi
def OD {args:List AV} {vs:Array Value} {n:Nat} (hs:vs.size=args.length) (hv:∀i,i<args.length→Rd w F β (args.getD i .χ) (vs.getD i undef)) :
  ∀t,Rd w F β (lg args t) ((vs++og (n-vs.size) undef).getD t undef):=by
 intro t;unfold lg;by_cases ht:t<args.length
 ·have h1:=hv t ht
  have e1:args.getD t (.v undef)=args.getD t .χ:=by simp [aV,ht]
  have e2:(vs++og (n-vs.size) undef).getD t undef=vs.getD t undef:=by
   simp [pX,hs,ht]
  rw [e1,e2];exact h1
 ·have e1:args.getD t (.v undef)=.v undef:=by simp [aV,ht]
  have e2:(vs++og (n-vs.size) undef).getD t undef=undef:=by
   simp only [lA,pX,hs,ht,if_false,Array.getElem?_replicate];split<;>rfl
  rw [e1,e2];exact .i (.v (.inr rfl))
def Fz.dL {H:Hp} {x:AV} (h:kg x=true):Fz H x x:=fun _ _ _ _ _ hr=>(I' h hr).frame (fun _ _=>rfl) fun _ h=>.inl h
def Fz.v {H:Hp} {x:Value}:Fz H (.v x) (.v x):=Fz.dL rfl
def Fz.s {H:Hp} {x:List (List AV)}:Fz H (.s x) (.s x):=Fz.dL rfl
def Fz.nil {H:Hp}:Fz H (.v (.slice none 0 0)) (.s []):=fun _ _ _ _ _ hr=>by rw [hr.bK];exact .s0
def Fz.o {H:Hp} {id E K:Nat} {rows:List (List AV)} (h:dO id H=some (.own E K rows)):Fz H (.o id) (.s rows):=fun _ _ _ _ hI hr=>Ws hI (fc h) hr
inductive oq (H:Hp):List AV→List AV→Prop where
 |nil:oq H [] []
 |cons {x y:AV} {xs ys:List AV} (h:Fz H x y) (t:oq H xs ys):oq H (x::xs) (y::ys)
def oq.spec {H:Hp} {xs ys:List AV} (h:oq H xs ys):xs.length=ys.length∧∀i,i<xs.length→Fz H (xs.getD i .χ) (ys.getD i .χ):=by
 induction h with
 |nil=>exact ⟨rfl,fun i hi=>by simp at hi⟩
 |cons h t ih =>
  refine ⟨by simp [ih.1],fun i hi=>?_⟩;cases i with
  |zero=>simpa using h
  |succ i=>simpa using ih.2 i (by simpa using hi)
def Fz.a {H:Hp} {xs ys:List AV} (h:oq H xs ys):Fz H (.a xs) (.a ys):=fun _ _ _ _ hI hr=>by
 obtain ⟨us,rfl,hs,h1,hu⟩:=hr.qS;obtain ⟨hl,hz⟩:=h.spec;exact .a (by omega) (fun i hi=>h1 i (by omega)) fun i hi=>hz i (by omega) _ _ _ _ hI (hu i (by omega))
def Fz.t {H:Hp} {xs ys:List AV} (h:oq H xs ys):Fz H (.t xs) (.t ys):=fun _ _ _ _ hI hr=>by
 obtain ⟨us,rfl,hs,hu⟩:=hr.Cy;obtain ⟨hl,hz⟩:=h.spec;exact .t (by omega) fun i hi=>hz i (by omega) _ _ _ _ hI (hu i (by omega))
def Inv.nil {H:Hp} (h:Inv w F β H):Inv w F β [] :=
 ⟨h.cA,fun _ _ hm=>(eJ hm).elim,qO,fun _ ⟨_,_,hm,_⟩=>(eJ hm).elim,fun _ _ _ _ _ hm=>(eJ hm).elim,h.fh⟩
def Le (x y:AV):Prop:=∀(w:World) (F:Nat→Prop) (β:Nat→Value) (u:Value),Rd w F β x u→Rd w F β y u
def Le.refl (x:AV):Le x x:=fun _ _ _ _ h=>h
def Le.nil:Le (.v (.slice none 0 0)) (.s []):=fun _ _ _ _ h=>by rw [h.bK];exact .i .s0
inductive iz:List AV→List AV→Prop where
 |nil:iz [] []
 |cons {x y:AV} {xs ys:List AV} (h:Le x y) (t:iz xs ys):iz (x::xs) (y::ys)
def iz.refl:∀(xs:List AV),iz xs xs
 |[]=>.nil
 |x::xs=>.cons (Le.refl x) (iz.refl xs)
def iz.spec {xs ys:List AV} (h:iz xs ys):xs.length=ys.length∧∀i,i<xs.length→Le (xs.getD i .χ) (ys.getD i .χ):=by
 induction h with
 |nil=>exact ⟨rfl,fun i hi=>by simp at hi⟩
 |cons h t ih =>
  refine ⟨by simp [ih.1],fun i hi=>?_⟩;cases i with
  |zero=>simpa using h
  |succ i=>simpa using ih.2 i (by simpa using hi)
def Le.a {xs ys:List AV} (h:iz xs ys):Le (.a xs) (.a ys):=fun _ _ _ _ hr=>by
 obtain ⟨us,rfl,hs,h1,hu⟩:=hr.qS;obtain ⟨hl,hz⟩:=h.spec;exact .a (by omega) (fun i hi=>h1 i (by omega)) fun i hi=>hz i (by omega) _ _ _ _ (hu i (by omega))
def xT.fC {g:FuncId} {xs ys:List AV} {H:Hp} {r:AV} (h:Pure P g ys r) (hle:iz xs ys):xT P g xs H r:=by
 obtain ⟨hl,hz⟩:=hle.spec;exact ⟨h.1,fun w F β vs hI hs hv=>h.2 w F β vs hI.nil (by omega) fun i hi=>hz i (by omega) _ _ _ _ (hv i (by omega))⟩
def ae.pure {g:FuncId} {xs:List AV} {st:ah} {r:AV} {k:AV→ah→Prop} (h:xT P g xs st.H r) (hk:k r st):ae P g xs st k:=by
 refine ⟨h.1,fun w F β vs hI hs hv=>(h.2 w F β vs hI hs hv).mono ?_⟩;rintro e w' ⟨v,rfl,hb,hr⟩;exact ⟨v,rfl,r,st,_,_,hk,.i hr,wi hI hb⟩
def ae.call {g:FuncId} {xs ys:List AV} {st:ah} {r:AV} {k:AV→ah→Prop} (h:Pure P g ys r) (hle:iz xs ys) (hk:k r st):ae P g xs st k:=.pure (.fC h hle) hk
def vh:AV→Bool
 |.v _=>true
 |_=>false
def Pm:AV→Bool
 |.a cs|.t cs=>cs.all vh
 |x=>vh x
def JS {w':World} {F':Nat→Prop} {x:AV} {u:Value} (hx:vh x=true) (h:bh w F x u):bh w' F' x u:=by
 cases x<;>first|(cases hx;done)|(cases h;exact .v (by assumption))
def agB {w':World} {F':Nat→Prop} {x:AV} {u:Value} (hx:Pm x=true) (h:bh w F x u):bh w' F' x u:=by
 have get:∀(l:List AV) (i:Nat),l.all vh=true→i<l.length→vh (l.getD i .χ)=true:=fun l i hl hi =>
  ej.1 hl (l.getD i .χ) (by rw [fW,bF hi];exact ek _)
 cases x with
 |a cs=>cases h with|a hs h1 h=>exact .a hs h1 fun i hi=>JS (get cs i hx hi) (h i hi)
 |t cs=>cases h with|t hs h=>exact .t hs fun i hi=>JS (get cs i hx hi) (h i hi)
 |_=>exact JS hx h
def xT.borrow {g:FuncId} {xs ys:List AV} {H:Hp} {r:AV} (h:Pure P g ys r) (hz:oq H xs ys) (hr:Pm r=true):xT P g xs H r:=by
 obtain ⟨hl,hz⟩:=hz.spec;refine ⟨h.1,fun w F β vs hI hs hv=>?_⟩;have kP:Inv w (fun b=>F b∨bD β H b) β [] :=
  ⟨fun b hb=>hb.elim (hI.cA b) hI.fJ,fun _ _ hm=>(eJ hm).elim,qO,fun _ ⟨_,_,hm,_⟩=>(eJ hm).elim,fun _ _ _ _ _ hm=>(eJ hm).elim,hI.fh.more fun _ h=>.inl h⟩
 refine (h.2 w _ β vs kP (by omega) fun i hi=>.i (hz i (by omega) _ _ _ _ hI (hv i (by omega)))).mono ?_;rintro e w' ⟨v,rfl,hb,hx⟩;exact ⟨v,rfl,hb,agB hr hx⟩
def ae.borrow {g:FuncId} {xs ys:List AV} {st:ah} {r:AV} {k:AV→ah→Prop} (h:Pure P g ys r) (hz:oq st.H xs ys) (hr:Pm r=true) (hk:k r st):ae P g xs st k:=.pure (.borrow h hz hr) hk
end
end
end Go.Cat
