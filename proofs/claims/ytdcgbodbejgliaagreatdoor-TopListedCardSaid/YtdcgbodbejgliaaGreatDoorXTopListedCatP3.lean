/- The logic that the walks are in, piece P3. No condition. -/
import Derived.Test.YtdcgbodbejgliaaGreatDoorXTopListedCatP2
import Derived.Deep.Upon
import Derived.OrdersIn
import Derived.RangeFuncIn
import Derived.RangeFuncLeaves
import Derived.RangeFuncRecord
open Array renaming getD_eq_getD_getElem? → j3, length_toList → kE, getElem?_setIfInBounds_ne → uh, getElem?_push → lN, eq_empty_of_size_eq_zero → qR, replicate → mw, getElem?_append → n_, range → lO, size_append → qS, toList_map → VN
open Bool renaming and_eq_true → bM, or_eq_false_iff → N2, not_eq_false' → N1
open Go.Addr renaming add_lit → fC
open Go.Builtin renaming zeroCells → de, append_ → gB, copy_ → oT, firstCells → ui, clear_ → rY, nextslicecap → N3
open Go.Call renaming operands → oU
open Go.Deferred renaming ofValue → kW
open Go.Fence renaming wide → fD
open Go.Instr renaming sliceAt → kF, makeSlice → sa, sureAddr → CL, mapUpdate → CI, next → CJ, alloc → N8, storeAt → Od, makeMap → Oc, box → N9
open Go.IntWalk renaming i64_in → uk
open Go.MapKept renaming run_findKey → CF, run_setObj_map → VU
open Go.Question renaming forced → OJ
open Go.Region renaming wanted → dA
open Go.Result renaming andThen_ok → k_
open Go.Sem renaming run_bind → jK, run → CV
open Go.Utf8 renaming decode → Hf
open Int renaming natCast_mul → Og
open List renaming length_map → au, getElem?_eq_getElem → bO, mem_cons_of_mem → cu, mem_cons → bp, getD → aY, length_append → cZ, getD_eq_getElem?_getD → fk, length_take → da, getElem?_eq_some_iff → fX, mem_singleton → dV, all_eq_true → dJ, mem_map → cV, getElem?_take → fo, not_mem_nil → eI, getElem?_append → fW, getElem_mem → eH, replicate → gl, getElem?_drop → gJ, map_cons → eT, nodup_cons → gK, drop_eq_nil_of_le → kH, range → fM, size_toArray → j6, eq_nil_of_length_eq_zero → oW, length_drop → lP, getElem?_map → nu, nodup_nil → oY, append_assoc → oV, append_nil → sd, take_of_length_le → OD, length_replicate → V', mapM_cons → ahs
open List.cons renaming injEq → CP
open Nat renaming mul_le_mul_right → bT, eq_of_beq_eq_true → cA, beq → aG, le_refl → bm, add_mul → bD, le_trans → dN, eq_zero_or_pos → nw, blt → ej, blt_eq → fY, zero_add → iZ, beq_refl → iz, le_succ → jt, add_zero → kJ, mul_comm → mL, mod_eq_of_lt → zG, div_lt_iff_lt_mul → xa, le_mul_of_pos_right → OF, mul_add_mod → zH, mod_lt → p6, div_add_mod → OE, le_of_not_lt → ahp, pos_of_ne_zero → OI, div_eq_of_lt → ahq, mul_add_div → ahr
open Option renaming map_eq_some_iff → zI
open Prod.mk renaming injEq → gC
open True renaming intro → Hd
namespace Go.Cat
set_option linter.all false
section
open Go.RowKit
variable [M:bU] [G:dC]
def eX (id:Nat) (c:Chunk):Hp→Hp
 |[]=>[]
 |(i,c')::r=>bif aG i id then (i,c)::eX id c r else (i,c')::eX id c r
def gq (st:ai) (d:Nat) (c:Chunk):ai:=⟨fun t=>er 2 d (st.f t),(d,c)::gu d st.H⟩
def P4 (id:Nat) (rows:List (List AV)):Chunk→Chunk
 |.box cells=>.box (cells.map (sb (.s rows) 1 id))
 |.own E K r=>.own E K r
 |.mp ag r=>.mp ag r
 |.lp l e R L=>.lp l e R (L.map fun p=>(p.1,sb (.s rows) 2 id p.2))
 |.si s pos=>.si s pos
def mV (id:Nat) (rows:List (List AV)):Hp→Hp
 |[]=>[]
 |(i,c)::r=>bif aG i id then mV id rows r else (i,P4 id rows c)::mV id rows r
def Io (id:Nat) (rows:List (List AV)) (st:ai):ai:=⟨fun t=>sb (.s rows) 2 id (st.f t),mV id rows st.H⟩
def H7 (T:TT) (s t id:Nat) (st:ai) (k:AV→ai→Prop):Prop :=
 match T s with
 |some i=>match i.kind with
  |.slice e=>match T e with
   |some j=>match j.kind with
    |.int .u8=>bif aG s t then
      match di id st.H with
      |some (.own _ _ rows)=>rows≠[]∧k (.s rows) (Io id rows st)
      |_=>False
     else False
    |_=>False
   |none=>False
  |_=>False
 |none=>False
def H2 (T:TT) (t d:Nat) (st:ai) (k:AV→ai→Prop):Prop :=
 match T t with
 |some i=>bif iL (bQ i.zero) then k (.b d 0) (gq st d (.box (bn (bQ i.zero)))) else False
 |none=>False
def H4 (x:AV) (d:Nat) (st:ai) (k:AV→ai→Prop):Prop :=
 bif iL x then k (.b d 0) (gq st d (.box ((bn x).map (er 1 d)))) else False
def y9 (n:Nat) (cells:List AV) (off:Nat) (y:AV) (k:List AV→Prop):Prop :=
 bif iL y&&(aG (bn y).length n&&Nat.ble (off+n) cells.length) then ∃C,cells.take off++(bn y++cells.drop (off+n))=C∧k C else False
def sJ (T:TT) (t:Nat) (x y:AV) (st:ai) (k:AV→ai→Prop):Prop :=
 match T t with
 |some i=>match x with
  |.b id off=>match di id st.H with
   |some (.box cells)=>y9 i.cells cells off y fun uG=>k (.v undef) ⟨st.f,eX id (.box uG) st.H⟩
   |_=>False
  |.e id K m j=>match di id st.H with
   |some (.own E K' rows)=>bif (bn y).all eL then ∃row,rows[m]?=some row∧K=K'∧y9 i.cells row j y fun acW=>∃R,rows.set m acW=R∧k (.v undef) ⟨st.f,eX id (.own E K' R) st.H⟩ else False
   |_=>False
  |_=>False
 |none=>False
def nC (rows:List (List AV)) (n:Nat):Prop:=∀r,r∈rows→r.length=n
def MV (x:AV) (not:Nat) (H:Hp) (k:List (List AV)→Prop):Prop :=
 match x with
 |.s rows=>k rows
 |.v (.slice none 0 0)=>k []
 |.o id=>bif aG id not then False else match di id H with
  |some (.own _ _ rows)=>k rows
  |_=>False
 |_=>False
def zO (T:TT) (t t' e:Nat) (x:AV) (not:Nat) (H:Hp) (k:List (List AV)→Prop):Prop :=
 bif aG t t' then MV x not H k else
 match T t',T e,x with
 |some i',some je,.v (.string s)=>match i'.kind,je.kind with
  |.str,.int .u8=>bif aG je.cells 1 then k (s.data.toList.map kg) else False
  |_,_=>False
 |_,_,_=>False
def xp (T:TT) (t t':Nat) (s x:AV) (d:Nat) (st:ai) (k:AV→ai→Prop):Prop :=
 match T t with
 |some i=>match i.kind with
  |.slice e=>match T e with
   |some j =>
    bif aG j.bytes 0||(aG j.cells 0||!(aG j.zero.cells.size j.cells)) then False else
    match s with
    |.v (.slice none 0 0)=>zO T t t' e x d st.H fun bG=>nC bG j.cells∧bG.length*j.bytes≤140737488355328∧∃R,bG=R∧k (.o d) (gq st d (.own e j.cells R))
    |.o id=>match di id st.H with
     |some (.own E K rows)=>bif (aG E e&&aG K j.cells)&&ej id 1000 then
       zO T t t' e x id st.H fun bG=>nC bG j.cells∧(rows.length+bG.length)*j.bytes≤140737488355328∧∃R,rows++bG=R∧k (.o id) (gq st id (.own e j.cells R))
      else False
     |_=>False
    |_=>False
   |none=>False
  |_=>False
 |none=>False
def H3 (T:TT) (t t' id:Nat) (x:AV) (st:ai) (k:AV→ai→Prop):Prop :=
 match T t,T t',x with
 |some i,some i',.v (.int _ nx)=>match i.kind,i'.kind with
  |.slice e,.int _=>match T e,di id st.H with
   |some j,some (.own E K rows)=>bif aG j.bytes 0||(aG j.cells 0||!(iL (bQ j.zero)&&(aG (bn (bQ j.zero)).length j.cells&&(bn (bQ j.zero)).all eL))) then False else
     bif (aG E e&&aG K j.cells)&&ej id 1000 then
      ∃n:Nat,nx=(n:Int)∧(rows.length+n)*j.bytes≤140737488355328∧∃R,rows++gl n ((bn (bQ j.zero)).map nz)=R∧k (.o id) (gq st id (.own e j.cells R))
     else False
   |_,_=>False
  |_,_=>False
 |_,_,_=>False
def Dp (T:TT) (t:Nat) (x y:AV) (st:ai) (k:AV→ai→Prop):Prop :=
 match T t with
 |some i=>match i.kind with
  |.slice e=>match T e with
   |some j=>match x,y with
    |.w id Kw d,.s news=>match di id st.H with
     |some (.own E K rows)=>bif aG K j.cells&&aG Kw K then
       nC news j.cells∧∃R,rows.take d++news.take (rows.length-d)++rows.drop (d+news.length)=R∧k (.v (.int .i64 ((Nat.min news.length (rows.length-d):Nat):Int))) ⟨st.f,eX id (.own E K R) st.H⟩
      else False
     |_=>False
    |_,_=>False
   |none=>False
  |_=>False
 |none=>False
def Dl (T:TT) (t t':Nat) (s x:AV) (d:Nat) (st:ai) (k:AV→ai→Prop):Prop :=
 match s with
 |.o id=>H3 T t t' id x st k
 |s=>match T t,T t',s,x with
 |some i,some i',.v (.slice none 0 0),.v (.int _ nx)=>match i.kind,i'.kind with
  |.slice e,.int _=>match T e with
   |some j=>bif aG j.bytes 0||(aG j.cells 0||!(iL (bQ j.zero)&&(aG (bn (bQ j.zero)).length j.cells&&(bn (bQ j.zero)).all eL))) then False else
     ∃n:Nat,nx=(n:Int)∧n*j.bytes≤140737488355328∧∃R,gl n ((bn (bQ j.zero)).map nz)=R∧k (.o d) (gq st d (.own e j.cells R))
   |none=>False
  |_,_=>False
 |_,_,_,_=>False
def Ib (T:TT) (t:Nat) (x:AV) (hi:Option AV) (st:ai) (k:AV→ai→Prop):Prop :=
 match T t,x,hi with
 |some i,.o id,some (.v (.int _ nh))=>match i.kind with
  |.slice e=>match T e with
   |some j=>match di id st.H with
    |some (.own E K rows)=>bif aG K j.cells&&ej id 1000 then ∃h:Nat,nh=(h:Int)∧h≤rows.length∧∃R,rows.take h=R∧k (.o id) (gq st id (.own E K R)) else False
    |_=>False
   |none=>False
  |_=>False
 |_,_,_=>False
def Dr (T:TT) (t:Nat) (x:AV) (lo hi mx:Option AV) (d:Nat) (st:ai) (k:AV→ai→Prop):Prop :=
 match T t with
 |some i=>match i.kind,lo,hi,mx with
  |.slice e,none,some (.v (.int _ 0)),some (.v (.int _ 0))=>match T e with
   |some j=>match x with
    |.s _=>k (.o d) (gq st d (.own e j.cells []))
    |.o _=>k (.o d) (gq st d (.own e j.cells []))
    |.v (.slice none 0 0)=>k (.o d) (gq st d (.own e j.cells []))
    |_=>False
   |none=>False
  |_,_,_,_=>False
 |none=>False
def PC (T:TT) (t n:Nat) (parts:List (Nat×AV)) (d:Nat) (st:ai) (k:AV→ai→Prop):Prop :=
 wF T t n parts fun rows e size=>bif rows.all (fun r=>r.all eL) then k (.o d) (gq st d (.own e size (rows.map fun r=>r.map nz))) else False
def H8 (T:TT) (t:Nat) (l c:AV) (d:Nat) (st:ai) (k:AV→ai→Prop):Prop :=
 match T t,l,c with
 |some i,.v (.int _ nl),.v (.int _ nc)=>match i.kind with
  |.slice e=>match T e with
   |some j=>bif iL (bQ j.zero)&&(aG (bn (bQ j.zero)).length j.cells&&(bn (bQ j.zero)).all eL) then
     ∃n m:Nat,nl=(n:Int)∧nc=(m:Int)∧n≤m∧m≤140737488355328∧m*j.bytes≤140737488355328∧∃R,gl n ((bn (bQ j.zero)).map nz)=R∧k (.o d) (gq st d (.own e j.cells R))
    else False
   |none=>False
  |_=>False
 |_,_,_=>False
inductive Tg where
 |f (g:FuncId)
 |y (l:Nat)
instance:Coe FuncId Tg:=⟨.f⟩
instance {n:Nat}:OfNat Tg n:=⟨.f n⟩
abbrev fa (ro:Option Nat):Fence:={ fD with round:=ro }
def Tg.re (P:Program):Tg→Prop
 |.f g=>oj P g
 |.y _=>True
def Tg.goes (P:Program):Tg→Array Value→World→(Ending→World→Prop)→Prop
 |.f g,vs,w,R=>Calls P g vs w R
 |.y l,vs,w,R=>∃fn tmps assign body,(Instr.yield l vs).run P w=.ok (.round l fn tmps assign body) w∧RoundIn fD 0 P l fn tmps assign body w R
def Tg.goes.mono {P:Program} {g:Tg} {vs:Array Value} {w:World} {R R':Ending→World→Prop} (h:g.goes P vs w R) (hr:∀e w',R e w'→R' e w'):g.goes P vs w R':=by
 cases g with
 |f g=>exact Calls.mono h hr
 |y l =>
  obtain ⟨fn,tmps,assign,body,h1,h2⟩:=h;exact ⟨fn,tmps,assign,body,h1,h2.mono hr⟩
def Θ (P:Program) (g:Tg) (args:List AV) (st:ai) (k:AV→ai→Prop):Prop :=
 g.re P∧∀(w:World) (F:Nat→Prop) (β:Nat→Value) (vs:Array Value),Inv w F β st.H→vs.size=args.length →
  (∀i,i<args.length→Rd w F β (args.getD i .χ) (vs.getD i undef)) →
  g.goes P vs w fun e w'=>∃v,e=.returned v∧∃r av F' aw,k r av∧Rd w' F' aw r v∧Ext w F β st w' F' aw av
def Dm (P:Program) (f:AV) (xs:List AV) (st:ai) (k:AV→ai→Prop):Prop :=
 match f with
 |.c (.func g) fs cs=>Θ P (.f g) (fs++(xs++cs)) st k
 |.c (.yield l) [] []=>Θ P (.y l) xs st k
 |_=>False
def H9 (T:TT) (t d:Nat) (st:ai) (k:AV→ai→Prop):Prop :=
 match T t with
 |some ti=>match ti.kind with
  |.map kt e=>match T kt,T e with
   |some ik,some ie=>match ik.kind with
    |.int .i64=>k (.m d) (gq st d (.mp (oo ie.kind) []))
    |_=>False
   |_,_=>False
  |_=>False
 |none=>False
def Dq (T:TT) (t:Nat) (m i y:AV) (st:ai) (k:AV→ai→Prop):Prop :=
 match T t with
 |some ti=>match ti.kind with
  |.map kt e=>match T kt with
   |some ik=>match ik.kind,m,i with
    |.int .i64,.m id,.v (.int .i64 n)=>match di id st.H with
     |some (.mp ag rows)=>match vZ ag y with
      |some yc=>Ψ n∧rows.length<140737488355328∧∃R,fB n yc rows=R∧k (.v undef) ⟨st.f,eX id (.mp ag R) st.H⟩
      |none=>False
     |_=>False
    |_,_,_=>False
   |none=>False
  |_=>False
 |none=>False
def Dn (T:TT) (t:Nat) (x:AV) (st:ai) (k:AV→ai→Prop):Prop :=
 match T t with
 |some i=>match i.kind with
  |.slice e=>match T e with
   |some j=>match x with
    |.w id Kw d=>match di id st.H with
     |some (.own E K rows)=>bif (aG K j.cells&&aG Kw K)&&(iL (bQ j.zero)&&(aG (bn (bQ j.zero)).length j.cells&&(bn (bQ j.zero)).all eL)) then
       ∃R,rows.take d++gl (rows.length-d) ((bn (bQ j.zero)).map nz)=R∧k (.t []) ⟨st.f,eX id (.own E K R) st.H⟩
      else False
     |_=>False
    |_=>False
   |none=>False
  |_=>False
 |none=>False
def Ia (T:TT) (t:Nat) (x:AV) (d:Nat) (st:ai) (k:AV→ai→Prop):Prop :=
 match T t,x with
 |some i,.v (.string s)=>match i.kind with
  |.str=>k (.b d 0) (gq st d (.si s 0))
  |_=>False
 |_,_=>False
def H_ (x:AV) (Er:Bool) (st:ai) (k:AV→ai→Prop):Prop :=
 match x,Er with
 |.b id 0,true=>match di id st.H with
  |some (.si s pos)=>(pos<s.size→k (.t [.v (.bool true),.v (.int .i64 (pos:Int)),.v (.int .i32 ((Hf s pos).1:Int))]) ⟨st.f,eX id (.si s (pos+(Hf s pos).2)) st.H⟩) ∧
    (¬pos<s.size→k (.t [.v (.bool false)]) st)
  |_=>False
 |_,_=>False
def y_ (P:Program) (T:TT) (o:Oper) (st:ai) (k:AV→ai→Prop):Prop :=
 let ρ:=ev st.f;let d:=o.dst.getD 0
 match o.op with
 |.alloc t=>H2 T t d st k
 |.box _ x=>H4 (ρ x) d st k
 |.store t x y=>sJ T t (ρ x) (ρ y) st k
 |.makeMap t none=>H9 T t d st k
 |.range t x=>Ia T t (ρ x) d st k
 |.next x s=>H_ (ρ x) s st k
 |.mapUpdate t m i y=>Dq T t (ρ m) (ρ i) (ρ y) st k
 |.insert t m i y=>Dq T t (ρ m) (ρ i) (ρ y) st k
 |.buildSlice t n parts=>lK P T o ρ st.H (fun r=>k r st)∨PC T t n (parts.toList.map fun q=>(q.1,ρ q.2)) d st k
 |.slice t x none hi none=>match ρ x with
  |.o _=>Ib T t (ρ x) (hi.map ρ) st k
  |_=>lK P T o ρ st.H fun r=>k r st
 |.slice t x lo hi (some mx)=>Dr T t (ρ x) (lo.map ρ) (hi.map ρ) (some (ρ mx)) d st k
 |.makeSlice t l c=>lK P T o ρ st.H (fun r=>k r st)∨H8 T t (ρ l) (ρ c) d st k
 |.convert s t x=>match ρ x with
  |.o id=>H7 T s t id st k
  |_=>lK P T o ρ st.H fun r=>k r st
 |.call c=>match c.callee with
  |.builtin .append=>match c.argTypes.toList,c.args.toList.map ρ with
   |[t,t'],[s,x]=>bif aG t t' then xp T t t' s x d st k else match x with
    |.v (.string _)=>xp T t t' s x d st k
    |_=>Dl T t t' s x d st k
   |_,_=>False
  |.builtin .copy=>match c.argTypes.toList,c.args.toList.map ρ with
   |[t,_],[x,y]=>Dp T t x y st k
   |_,_=>False
  |.builtin .clear=>match c.argTypes.toList,c.args.toList.map ρ with
   |[t],[x]=>Dn T t x st k
   |_,_=>False
  |.value f=>Dm P (ρ f) (c.args.toList.map ρ) st k
  |_=>lK P T o ρ st.H fun r=>k r st
 |_=>lK P T o ρ st.H fun r=>k r st
def step (P:Program) (T:TT) (o:Oper) (st:ai) (k:AV→ai→Prop):Prop:=bif ej (o.dst.getD 0) 1000 then y_ P T o st k else False
section
variable {P:Program} {T:TT} {w:World} {F:Nat→Prop} {β:Nat→Value} {st:ai} {k:AV→ai→Prop}
def EPost (w:World) (F:Nat→Prop) (β:Nat→Value) (st:ai) (k:AV→ai→Prop) (v:Value) (w':World):Prop :=
 ∃r av F' aw,k r av∧Rd w' F' aw r v∧Ext w F β st w' F' aw av
def cG (P:Program) (s:Sem Next) (w:World) (F:Nat→Prop) (β:Nat→Value) (st:ai) (k:AV→ai→Prop):Prop :=
 (∃v w',s.run P w=.ok (.value v) w'∧EPost w F β st k v w')∨(∃w',s.run P w=.ok .skip w'∧EPost w F β st k undef w') ∨
 (∃g vs,s.run P w=.ok (.enter g vs) w∧Calls P g vs w fun e w'=>∃v,e=.returned v∧EPost w F β st k v w') ∨
 (∃l fn tmps assign body,s.run P w=.ok (.round l fn tmps assign body) w∧RoundIn fD 0 P l fn tmps assign body w fun e w'=>∃v,e=.returned v∧EPost w F β st k v w')
def acx {s:Sem Next} (hI:Inv w F β st.H) (h:q6 P s w fun v w'=>∃r,k r st∧Rd w' (eU F w w') β r v):cG P s w F β st k:=by
 rcases h with ⟨v,w',hr,hb,r,hk,hv⟩|⟨g,vs,hr,hc⟩
 ·exact .inl ⟨v,w',hr,r,st,_,_,hk,hv,sL hI hb⟩
 ·refine .inr (.inr (.inl ⟨g,vs,hr,hc.mono ?_⟩));rintro e w' ⟨v,rfl,hb,r,hk,hv⟩;exact ⟨v,rfl,r,st,_,_,hk,hv,sL hI hb⟩
def cG.value {s:Sem Value} {v:Value} {w':World} (hr:s.run P w=.ok v w') (h:EPost w F β st k v w'):cG P (do pure (.value (←s))) w F β st k :=
 .inl ⟨v,w',by simp [hr],h⟩
def cG.skip {s:Sem Unit} {w':World} (hr:s.run P w=.ok () w') (h:EPost w F β st k undef w'):cG P (do s;pure .skip) w F β st k :=
 .inr (.inl ⟨w',by simp [hr],h⟩)
def O9 {d:Nat} {cells:List AV} {us:Array Value} {e:TypeId} (hd:d<1000) (hI:Inv w F β st.H) (hs:us.size=cells.length) (h1:∀i,i<cells.length→(us.getD i undef).oneCell'=true)
  (hr:∀i,i<cells.length→Rd (w.alloc (.cells us e)) F (fun i=>if i=d then .pointer (some ⟨w.heap.size,0,none⟩) else β i) (cells.getD i .χ) (us.getD i undef)) (hk:k (.b d 0) (gq st d (.box cells))) :
  EPost w F β st k (.pointer (some ⟨w.heap.size,0,none⟩)) (w.alloc (.cells us e)):=by
 refine ⟨_,_,F,_,hk,.b (by simp),ow (v:=.pointer (some ⟨w.heap.size,0,none⟩)) hd hI rfl ⟨rfl,fun _=>(by first|exact bm _|exact jt _)⟩ rfl (by simp) (fun b hb _=>heap_alloc_old w _ hb) (fun i c b _ hm hb=>heap_alloc_old w _ (hI.fj ⟨i,c,hm,hb⟩)) (fun b hb=>?_) ?_⟩
 ·simp [bF] at hb;left;omega
 ·exact ⟨w.heap.size,us,e,by simp,heap_alloc_new w _,hs,h1,hr⟩
def XC {t d:Nat} (hd:d<1000) (hT:bB P T) (hI:Inv w F β st.H) (h:H2 T t d st k):cG P (do pure (.value (←N8 t true (.tuple #[])))) w F β st k:=by
 unfold H2 at h;split at h
 ·rename_i i hi;obtain ⟨bK,hk⟩:=cond_prop h;have hz:=(hT _ _ hi).qL w
  have bc:(N8 t true (.tuple #[])).run P w=.ok (.pointer (some ⟨w.heap.size,0,none⟩)) (w.alloc (.cells i.zero.cells t)):=by
   unfold N8;simp [hz,newVar,newRow]
  refine cG.value bc ?_;have hr:=fun aw:Nat→Value=>nD (ml (w.alloc (.cells i.zero.cells t)) F i.zero aw) bK;exact O9 hd hI (hr β).1 (fun j hj=>((hr β).2 j hj).1) (fun j hj=>((hr _).2 j hj).2) hk
 ·cases h
def XG {x:AV} {vx:Value} {d t:Nat} (hd:d<1000) (hI:Inv w F β st.H) (hx:Rd w F β x vx) (h:H4 x d st k):cG P (do pure (.value (←N9 t vx))) w F β st k:=by
 unfold H4 at h;obtain ⟨bK,hk⟩:=cond_prop h
 have bc:(N9 t vx).run P w=.ok (.pointer (some ⟨w.heap.size,0,none⟩)) (w.alloc (.cells vx.cells t)):=by simp [N9,newVar,newRow]
 obtain ⟨hs,hr⟩:=nD hx bK;refine cG.value bc (O9 hd hI (by simpa using hs) (fun j hj=>(hr j (by simpa using hj)).1) (fun j hj=>?_) hk)
 have hj:j<(bn x).length:=by simpa using hj
 have e:((bn x).map (er 1 d)).getD j .χ=er 1 d ((bn x).getD j .χ):=by simp [aY,hj]
 rw [e];exact qh (fun i hi=>by simp [hi]) 1 ((hr j hj).2.frame (Below.agree (sz w _) hI.bW) fun _ h=>h)
def lJ {id:Nat} {c:Chunk}:∀{H:Hp} {i:Nat} {c':Chunk},(i,c')∈eX id c H→(i=id∧c'=c∧∃WU,(i,WU)∈H)∨(i≠id∧(i,c')∈H)
 |[],_,_,h=>by cases h
 |(j,c0)::r,i,c',h=>by
  simp only [eX] at h;cases hb:aG j id with
  |true =>
   have hj:=cA hb;rw [hb] at h;simp only [cond_true,bp,gC] at h
   rcases h with ⟨rfl,rfl⟩|h
   ·exact .inl ⟨hj,rfl,c0,by simp⟩
   ·rcases lJ (H:=r) h with ⟨h1,h2,c2,h3⟩|⟨h1,h2⟩
    ·exact .inl ⟨h1,h2,c2,cu _ h3⟩
    ·exact .inr ⟨h1,cu _ h2⟩
  |false =>
   have hj:j≠id:=fun e=>by rw [e,iz] at hb;cases hb
   rw [hb] at h;simp only [cond_false,bp,gC] at h
   rcases h with ⟨rfl,rfl⟩|h
   ·exact .inr ⟨hj,by simp⟩
   ·rcases lJ (H:=r) h with ⟨h1,h2,c2,h3⟩|⟨h1,h2⟩
    ·exact .inl ⟨h1,h2,c2,cu _ h3⟩
    ·exact .inr ⟨h1,cu _ h2⟩
def wH {id:Nat} {c:Chunk}:∀(H:Hp),(eX id c H).map (·.1)=H.map (·.1)
 |[]=>rfl
 |(j,c0)::r=>by
  simp only [eX];cases hb:aG j id<;>simp [wH r]
def sM {id:Nat} {c c0:Chunk} {w':World} (hI:Inv w F β st.H) (hm:(id,c0)∈st.H) (rI:w'.os=w.os) (JU:iP w w') (qB:w'.output=w.output) (eh:w'.heap.size=w.heap.size)
  (xK:∀b,bF (β id)≠some b→w'.heap[b]?=w.heap[b]?) (hc:c.holds w' F β id):Ext w F β st w' F β ⟨st.f,eX id c st.H⟩:=by
 have cY:∀b,br β (eX id c st.H) b→br β st.H b:=by
  rintro b ⟨i,c',h,hb⟩
  rcases lJ h with ⟨rfl,_,c2,h2⟩|⟨_,h2⟩
  ·exact ⟨i,c2,h2,hb⟩
  ·exact ⟨i,c',h2,hb⟩
 have ha:fy F w w':=fun b hb=>xK b fun jQ=>hI.apart b ⟨id,c0,hm,jQ⟩ hb;refine ⟨rI,JU,qB,by omega,fun b _ ho=>xK b fun jQ=>ho ⟨id,c0,hm,jQ⟩,fun _ h=>h,fun _ h=>.inl h,fun b h=>.inr (cY b h),fun t u h=>h.frame ha fun _ h=>h,?_,fun _ _=>rfl⟩;refine ⟨fun b hb=>by have:=hI.bW b hb;omega,fun i c' h=>?_,by rw [wH];exact hI.keys,fun b ho=>hI.apart b (cY b ho),fun i c1 i' oq b h h' hb aH=>?_,hI.eN.at ha⟩
 ·rcases lJ h with ⟨rfl,rfl,_⟩|⟨hi,h2⟩
  ·exact hc
  ·exact nQ ha (fun _ h=>h) (fun b hb=>xK b fun jQ=>hi (hI.dR i c' id c0 b h2 hm hb jQ)) (hI.holds i c' h2)
 ·have hx:∃c,(i,c)∈st.H:=by rcases lJ h with ⟨_,_,c2,h2⟩|⟨_,h2⟩<;>exact ⟨_,h2⟩
  have hy:∃c,(i',c)∈st.H:=by rcases lJ h' with ⟨_,_,c2,h2⟩|⟨_,h2⟩<;>exact ⟨_,h2⟩
  obtain ⟨c2,h2⟩:=hx;obtain ⟨c3,h3⟩:=hy;exact hI.dR i c2 i' c3 b h2 h3 hb aH
def Ux {n off:Nat} {cells:List AV} {y:AV} {K:List AV→Prop} (h:y9 n cells off y K) :
  iL y=true∧(bn y).length=n∧off+n≤cells.length∧K (cells.take off++(bn y++cells.drop (off+n))):=by
 unfold y9 at h;obtain ⟨hb,hk⟩:=cond_prop h;simp only [bM] at hb;obtain ⟨C,rfl,hk⟩:=hk;exact ⟨hb.1,cA hb.2.1,by simpa using hb.2.2,hk⟩
def M3 {α:Type} (l m:List α) (off n:Nat) (hm:m.length=n) (hl:off+n≤l.length) (d:α) (j:Nat) :
  (l.take off++(m++l.drop (off+n))).getD j d=if j<off then l.getD j d else if j<off+n then m.getD (j-off) d else l.getD j d:=by
 simp only [aY,fW,da,hm,fo,gJ];by_cases h1:j<off
 ·simp [h1,show j<min off l.length by omega]
 ·by_cases h2:j<off+n
  ·simp [h1,h2,show min off l.length=off by omega,show j-off<n by omega]
  ·simp [h1,h2,show min off l.length=off by omega,show ¬j-off<n by omega,show off+n+(j-off-n)=j by omega]
def Ui {t b off:Nat} {i:TI} {v:Value} {cur:Array Value} {e:TypeId} (hi:fN P t i) (hh:w.heap[b]?=some (.cells cur e (0,0))) (hv:v.cells.size=i.cells) (iF:off+i.cells≤cur.size)
  (h1:∀j,j<v.cells.size→(v.cells.getD j undef).oneCell'=true) :
  (Od t (.pointer (some ⟨b,off,none⟩)) v).run P w=.ok () (w.setRow b (cur.toList.take off++v.cells.toList++cur.toList.drop (off+v.cells.toList.length)).toArray):=by
 have aZ:=hi.j0 w
 have dy:=run_storeCells_at P b off e v.cells.toList 0 cur w hh (by simp;omega) (fun x hx=>by
  obtain ⟨j,hj,rfl⟩:=List.mem_iff_getElem.1 hx
  have hj:j<v.cells.size:=by simpa using hj
  have:=h1 j hj
  simpa [hj] using this)
 simp only [kJ] at dy;simp [Od,CL,storeVar,aZ,hv,dy]
def Lj {b:Nat} {cs:Array Value} (hI:Inv w F β st.H) (ho:br β st.H b) {x:AV} {u:Value} (h:Rd w F β x u):Rd (w.setRow b cs) F β x u :=
 h.frame (fun b' aH=>setRow_other w b b' cs fun e=>hI.apart b ho (e▸aH)) fun _ h=>h
def O4 (l m:List Value) (off n:Nat) (hm:m.length=n) (hl:off+n≤l.length) (d:Value) (j:Nat) :
  (l.take off++m++l.drop (off+m.length)).toArray.getD j d=if j<off then l.getD j d else if j<off+n then m.getD (j-off) d else l.getD j d:=by
 have:=M3 l m off n hm hl d j;rw [hm,oV];simpa [j3,aY] using this
def XX {t:Nat} {x y:AV} {vx vy:Value} (hT:bB P T) (hI:Inv w F β st.H) (hx:Rd w F β x vx) (hy:Rd w F β y vy) (h:sJ T t x y st k) :
  cG P (do Od t vx vy;pure .skip) w F β st k:=by
 unfold sJ at h;split at h
 ·rename_i i hi;split at h
  ·rename_i id off;split at h
   ·rename_i cells hc;obtain ⟨bK,hlen,hle,hk⟩:=Ux h;have hm:=eE hc;obtain ⟨b,cur,e,aj,hh,hs,h1,hr⟩:=hI.holds _ _ hm;obtain ⟨e9,hb,rfl⟩:=hx.lh;rw [aj] at hb;cases hb;obtain ⟨az,dM⟩:=nD hy bK
    have rL:vy.cells.size=i.cells:=by rw [az,hlen]
    have eO:off+i.cells≤cur.size:=by rw [hs];exact hle
    have bc:=Ui (off:=off) (hT _ _ hi) hh rL eO (fun j hj=>(dM j (by omega)).1)
    have AY:vy.cells.toList.length=i.cells:=by simpa using rL
    refine cG.skip bc ⟨_,_,F,β,hk,.i (.v (.inr rfl)),?_⟩;have ho:br β st.H b:=⟨id,_,hm,by rw [aj];rfl⟩;refine sM hI hm rfl ⟨rfl,fun _=>(by first|exact bm _|exact jt _)⟩ rfl (by simp) (fun b' aH=>setRow_other w b b' _ (fun e=>aH (by rw [aj,e];rfl))) ?_;have key:=fun j d=>O4 cur.toList vy.cells.toList off i.cells AY (by simpa using eO) d j;have vS:=fun j=>M3 cells (bn y) off i.cells hlen hle AV.χ j;refine ⟨b,_,e,aj,setRow_heap w b cur _ e _ hh,?_,fun j hj=>?_,fun j hj=>?_⟩
    ·simp only [j6,cZ,da,lP,kE,rL,hs,hlen];omega
    all_goals
     have iH:j<cells.length:=by
      simp only [cZ,da,lP,hlen] at hj;omega
    ·rw [key];by_cases q1:j<off
     ·rw [if_pos q1];simpa [aY] using h1 j iH
     ·rw [if_neg q1];by_cases q2:j<off+i.cells
      ·rw [if_pos q2];simpa [aY] using (dM (j-off) (by omega)).1
      ·rw [if_neg q2];simpa [aY] using h1 j iH
    ·rw [key,vS];by_cases q1:j<off
     ·rw [if_pos q1,if_pos q1];exact Lj hI ho (by simpa [aY] using hr j iH)
     ·rw [if_neg q1,if_neg q1];by_cases q2:j<off+i.cells
      ·rw [if_pos q2,if_pos q2];exact Lj hI ho (by simpa [aY] using (dM (j-off) (by omega)).2)
      ·rw [if_neg q2,if_neg q2];exact Lj hI ho (by simpa [aY] using hr j iH)
   ·cases h
  ·rename_i id K m j;split at h
   ·rename_i E K' rows hc;obtain ⟨gw,row,jy,rfl,h⟩:=cond_prop h;obtain ⟨bK,hlen,hle,R,rfl,hk⟩:=Ux h;have hm:=eE hc;have Jx:=Bb jy;obtain ⟨g,n,c,aj,rfl⟩:=hx.xq
    rcases hI.holds _ _ hm with ⟨rfl,_⟩|⟨g',cap,cur,hv,ig,hg,hn,fG,hs,hK,hr⟩
    ·simp at Jx
    ·rw [hv] at aj;cases aj
     have me:row.length=K:=by have:=hK m Jx;rwa [sO jy] at this
     obtain ⟨az,dM⟩:=nD hy bK
     have rL:vy.cells.size=i.cells:=by rw [az,hlen]
     have hmK:m*K+K≤rows.length*K:=by
      calc m*K+K=(m+1)*K:=by rw [bD];omega
       _≤rows.length*K:=bT _ Jx
     have hrc:rows.length*K≤c*K:=bT _ hn
     have eO:m*K+j+i.cells≤cur.size:=by omega
     have bc:=Ui (off:=m*K+j) (hT _ _ hi) hg rL eO (fun j hj=>(dM j (by omega)).1)
     have AY:vy.cells.toList.length=i.cells:=by simpa using rL
     have h0:aG c 0=false:=by cases c<;>first|rfl|omega
     have ho:br β st.H g:=⟨id,_,hm,by rw [hv];simp [bF,h0]⟩;refine cG.skip bc ⟨_,_,F,β,hk,.i (.v (.inr rfl)),?_⟩;refine sM hI hm rfl ⟨rfl,fun _=>(by first|exact bm _|exact jt _)⟩ rfl (by simp) (fun b' aH=>setRow_other w g b' _ (fun e=>aH (by rw [hv,e];simp [bF,h0]))) (.inr ?_);have key:=fun j' d=>O4 cur.toList vy.cells.toList (m*K+j) i.cells AY (by simpa using eO) d j'
     have yi:∀q,q<rows.length→(rows.set m (row.take j++(bn y++row.drop (j+i.cells)))).getD q []=if q=m then row.take j++(bn y++row.drop (j+i.cells)) else rows.getD q []:=by
      intro q hq;by_cases m_:q=m
      ·subst m_;simp [aY,hq]
      ·simp [aY,m_,Ne.symm m_]
     refine ⟨g,c,_,by rw [hv];simp,ig,setRow_heap w g cur _ E _ hg,by simpa using hn,fG,?_,fun q hq=>?_,fun q z hq hz=>?_⟩
     ·simp only [j6,cZ,da,lP,kE,rL];omega
     ·have hq:q<rows.length:=by simpa using hq
      rw [yi q hq];split
      ·simp only [cZ,da,lP,hlen,me];omega
      ·exact hK q hq
     ·have hq:q<rows.length:=by simpa using hq
      rw [key,yi q hq];have hold:=hr q z hq hz;by_cases m_:q=m
      ·subst m_;rw [if_pos rfl];have vS:=M3 row (bn y) j i.cells hlen (by omega) AV.χ z;by_cases q1:z<j
       ·rw [if_pos (by omega),vS,if_pos q1];rw [sO jy] at hold;refine ⟨by simpa [aY] using hold.1,?_⟩;have h2:=hold.2.frame (w':=w.setRow g (cur.toList.take (q*K+j)++vy.cells.toList++cur.toList.drop (q*K+j+vy.cells.toList.length)).toArray) (fun b' aH=>setRow_other w g b' _ fun e=>hI.apart g ho (e▸aH)) fun _ h=>h;simpa [aY] using h2
       ·by_cases q2:z<j+i.cells
        ·rw [if_neg (by omega),if_pos (by omega),vS,if_neg q1,if_pos q2];have RL:=dM (z-j) (by omega)
         have Jm:eL ((bn y).getD (z-j) .χ)=true:=dJ.1 gw _ (by
          rw [fk,bO (show z-j<(bn y).length by omega)];exact eH _)
         have h2:=(mj Jm RL.2).frame (w':=w.setRow g (cur.toList.take (q*K+j)++vy.cells.toList++cur.toList.drop (q*K+j+vy.cells.toList.length)).toArray) (fun b' aH=>setRow_other w g b' _ fun e=>hI.apart g ho (e▸aH)) fun _ h=>h;rw [show q*K+z-(q*K+j)=z-j by omega];exact ⟨by simpa [aY] using RL.1,by simpa [aY] using h2⟩
        ·rw [if_neg (by omega),if_neg (by omega),vS,if_neg q1,if_neg q2];rw [sO jy] at hold;have h2:=hold.2.frame (w':=w.setRow g (cur.toList.take (q*K+j)++vy.cells.toList++cur.toList.drop (q*K+j+vy.cells.toList.length)).toArray) (fun b' aH=>setRow_other w g b' _ fun e=>hI.apart g ho (e▸aH)) fun _ h=>h;exact ⟨by simpa [aY] using hold.1,by simpa [aY] using h2⟩
      ·rw [if_neg m_]
       have qB:q*K+z<m*K+j∨m*K+j+i.cells≤q*K+z:=by
        rcases Nat.lt_or_gt_of_ne m_ with h|h
        ·left
         calc q*K+z<q*K+K:=by omega
          _=(q+1)*K:=by rw [bD];omega
          _≤m*K:=bT _ h
          _≤m*K+j:=by omega
        ·right
         calc m*K+j+i.cells≤m*K+K:=by omega
          _=(m+1)*K:=by rw [bD];omega
          _≤q*K:=bT _ h
          _≤q*K+z:=by omega
       have h2:=hold.2.frame (w':=w.setRow g (cur.toList.take (m*K+j)++vy.cells.toList++cur.toList.drop (m*K+j+vy.cells.toList.length)).toArray) (fun b' aH=>setRow_other w g b' _ fun e=>hI.apart g ho (e▸aH)) fun _ h=>h
       rcases qB with h|h
       ·rw [if_pos h];exact ⟨by simpa [aY] using hold.1,by simpa [aY] using h2⟩
       ·rw [if_neg (by omega),if_neg (by omega)];exact ⟨by simpa [aY] using hold.1,by simpa [aY] using h2⟩
   ·cases h
  ·cases h
 ·cases h
end
section
variable {P:Program} {T:TT} {w:World} {F:Nat→Prop} {β:Nat→Value} {st:ai} {k:AV→ai→Prop}
def xl:Chunk→Bool
 |.box cells=>cells.all eL
 |.own ..=>true
 |.mp ..=>true
 |.lp ..=>false
 |.si ..=>true
def nR {F':Nat→Prop} {aw:Nat→Value} {i j:Nat} {c:Chunk} (hc:xl c=true) (hF:∀b,F b→F' b) (aj:aw j=β i) (h:c.holds w F β i):c.holds w F' aw j:=by
 cases c with
 |box cells =>
  obtain ⟨b,cs,e,hb,hh,hs,h1,hr⟩:=h;refine ⟨b,cs,e,aj.trans hb,hh,hs,h1,fun k hk=>?_⟩;have:eL (cells.getD k .χ)=true:=dJ.1 hc _ (by rw [fk,bO hk];exact eH _);exact .i ((mj this (hr k hk)).frame (fun _ _=>rfl) hF)
 |si s pos =>
  unfold Chunk.holds at *;rw [aj];exact h
 |mp ag rows =>
  unfold Chunk.holds at *;rw [aj];obtain ⟨b,es,ck,h0,hh,dy,hs,hm,hr⟩:=h;refine ⟨b,es,ck,h0,hh,dy,hs,hm,fun i r hi=>?_⟩;obtain ⟨e,h1,h2,h3,h4⟩:=hr i r hi;exact ⟨e,h1,h2,h3,h4.frame (fun _ _=>rfl) hF⟩
 |lp l e R L=>cases hc
 |own E K rows =>
  unfold Chunk.holds at *;rw [aj]
  rcases h with h|⟨g,cap,cur,hv,hc,hg,hn,hm,hs,hk,hr⟩
  ·exact .inl h
  ·exact .inr ⟨g,cap,cur,hv,hc,hg,hn,hm,hs,hk,fun i j hi hj=>⟨(hr i j hi hj).1,(hr i j hi hj).2.frame (fun _ _=>rfl) hF⟩⟩
def kj {id:Nat} {rows:List (List AV)}:∀{H:Hp} {i:Nat} {c:Chunk},(i,c)∈mV id rows H→i≠id∧∃c',(i,c')∈H∧c=P4 id rows c'
 |[],_,_,h=>by cases h
 |(j,c')::r,i,c,h=>by
  simp only [mV] at h;cases hb:aG j id with
  |true =>
   rw [hb] at h;obtain ⟨h1,c2,h2,h3⟩:=kj (H:=r) h;exact ⟨h1,c2,cu _ h2,h3⟩
  |false =>
   rw [hb] at h;simp only [cond_false,bp,gC] at h
   rcases h with ⟨rfl,rfl⟩|h
   ·exact ⟨fun e=>(by rw [e,iz] at hb;cases hb),c',by simp,rfl⟩
   ·obtain ⟨h1,c2,h2,h3⟩:=kj (H:=r) h;exact ⟨h1,c2,cu _ h2,h3⟩
def z8 {id:Nat} {rows:List (List AV)}:∀{H:Hp},(H.map (·.1)).Nodup→((mV id rows H).map (·.1)).Nodup
 |[],_=>by simp [mV]
 |(j,c)::r,h=>by
  simp only [eT,gK] at h;simp only [mV];cases hb:aG j id with
  |true=>exact z8 h.2
  |false =>
   simp only [cond_false,eT,gK];refine ⟨fun hm=>?_,z8 h.2⟩;obtain ⟨x,hx,jX⟩:=cV.1 hm;obtain ⟨i,c'⟩:=x;obtain ⟨_,c2,h2,_⟩:=kj hx;exact h.1 (cV.2 ⟨(i,c2),h2,jX⟩)
def SM {id E K:Nat} {rows:List (List AV)} {u:Value} {H:Hp} (hI:Inv w F β H) (hm:(id,Chunk.own E K rows)∈H) (hu:Rd w F β (.o id) u):bh w (fun b=>F b∨br β H b) (.s rows) u:=by
 obtain ⟨a,n,c,aj,rfl⟩:=hu.jo
 rcases hI.holds _ _ hm with ⟨rfl,a',hv⟩|⟨g,cap,cur,hv,hc,hg,hn,fG,hs,hK,hr⟩
 ·rw [aj] at hv;cases hv;exact .s0
 ·rw [aj] at hv;cases hv
  have h0:aG c 0=false:=by cases c<;>first|rfl|omega
  have ek:=(ES (hI.holds _ _ hm) aj).2.2.2;obtain ⟨u,hu⟩:=ek;exact .s (off:=0) (u:=u) (.inr ⟨id,_,hm,by rw [aj];simp [bF,h0]⟩) hn fG hK (fun i j hi hj=>by rw [iZ];exact (hu i j hi hj).1) (fun i j hi hj=>(hu i j hi hj).2.1) fun i j hi hj=>(hu i j hi hj).2.2.frame (fun _ _=>rfl) fun _ h=>.inl h
def mT (id:Nat) (H:Hp):Hp:=H.filter fun p=>!Nat.beq p.1 id
def sI {id:Nat} {H:Hp} {x:Nat×Chunk}:x∈mT id H↔x∈H∧x.1≠id:=by
 have hb:(!Nat.beq x.1 id)=true↔x.1≠id:=by
  cases h:aG x.1 id with
  |true=>simp [cA h]
  |false=>simp only [Bool.not_false,true_iff];exact fun e=>by rw [e,iz] at h;cases h
 unfold mT;rw [List.mem_filter,hb]
def Inv.mT {H:Hp} (h:Inv w F β H) (id:Nat):Inv w F β (mT id H) :=
 ⟨h.bW,fun i c hm=>h.holds i c (sI.1 hm).1,(List.Sublist.map _ (List.filter_sublist)).nodup h.keys,fun b ⟨i,c,hm,hb⟩=>h.apart b ⟨i,c,(sI.1 hm).1,hb⟩,
  fun i c i' c' b h1 h2=>h.dR i c i' c' b (sI.1 h1).1 (sI.1 h2).1,h.eN⟩
def Iq {id E K:Nat} {rows:List (List AV)} {H:Hp} (hI:Inv w F β H) (hm:(id,Chunk.own E K rows)∈H) {u:Value} (hu:Rd w F β (.o id) u):bh w (fun b=>F b∨bF (β id)=some b) (.s rows) u:=by
 have h1:=hI.mT id
 have rj:Inv w F β [(id,.own E K rows)]:=⟨hI.bW,fun i c h=>by
   simp only [dV,gC] at h;obtain ⟨rfl,rfl⟩:=h;exact hI.holds _ _ hm,by simp,
  fun b ⟨i,c,h,hb⟩=>by simp only [dV,gC] at h;obtain ⟨rfl,rfl⟩:=h;exact hI.apart b ⟨_,_,hm,hb⟩,
  fun i c i' c' b h h' _ _=>by simp only [dV,gC] at h h';rw [h.1,h'.1],hI.eN⟩
 refine (SM rj (dV.2 rfl) hu).frame (fun _ _=>rfl) fun b hb=>hb.elim .inl fun ⟨i,c,h,hb⟩=>.inr ?_;simp only [dV,gC] at h;rw [←h.1];exact hb
structure Src (w:World) (F:Nat→Prop) (K:Nat) (rows:List (List AV)) (ad:Addr) (news:List Value):Prop where
 len:news.length=rows.length*K
 cell:∀j v,news[j]?=some v→w.cell? (ad.add j)=some v
 one:∀u,u∈news→u.oneCell'=true
 rd:∀i j,i<rows.length→j<K→bh w F ((rows.getD i []).getD j .χ) (news.getD (i*K+j) undef)
def MW {K K' b off:Nat} {rows:List (List AV)} {u:Nat→Nat→Value} (hlen:nC rows K) (hK:∀i,i<rows.length→(rows.getD i []).length=K')
  (hv:∀i j,i<rows.length→j<K'→w.cell? ⟨b,off+(i*K'+j),none⟩=some (u i j)∧(u i j).oneCell'=true∧bh w F ((rows.getD i []).getD j .χ) (u i j)) :
  ∃news,Src w F K rows ⟨b,off,none⟩ news:=by
 have xH:rows=[]∨K'=K:=by
  cases rows with
  |nil=>exact .inl rfl
  |cons r rs=>exact .inr ((hK 0 (by simp)).symm.trans (hlen r (by simp)))
 refine ⟨(fM (rows.length*K)).map fun q=>u (q/K) (q % K),by simp,fun q v hq=>?_,fun v jk=>?_,fun i j hi hj=>?_⟩
 ·simp only [nu,zI] at hq;obtain ⟨q',AJ,rfl⟩:=hq;obtain ⟨Ξ,rfl⟩:=fX.1 AJ
  have Ξ:q<rows.length*K:=by simpa using Ξ
  simp only [List.getElem_range]
  rcases xH with rfl|rfl
  ·simp at Ξ
  ·have jP:0<K':=by
    rcases nw K' with h|h
    ·rw [h] at Ξ;simp at Ξ
    ·exact h
   have h1:q/K'<rows.length:=(xa jP).2 Ξ;have:=(hv (q/K') (q % K') h1 (p6 _ jP)).1;rw [fC]
   have e:q/K'*K'+q % K'=q:=by rw [mL];exact OE q K'
   rwa [e] at this
 ·obtain ⟨q,hq,rfl⟩:=cV.1 jk
  have Ξ:q<rows.length*K:=by simpa using hq
  rcases xH with rfl|rfl
  ·simp at Ξ
  ·have jP:0<K':=by
    rcases nw K' with h|h
    ·rw [h] at Ξ;simp at Ξ
    ·exact h
   exact (hv (q/K') (q % K') ((xa jP).2 Ξ) (p6 _ jP)).2.1
 ·rcases xH with rfl|rfl
  ·simp at hi
  ·have Ξ:i*K'+j<rows.length*K':=by
    calc i*K'+j<i*K'+K':=by omega
     _=(i+1)*K':=by rw [bD];omega
     _≤rows.length*K':=bT _ hi
   have e1:(i*K'+j)/K'=i:=by rw [mL,ahr (by omega)];simp [ahq hj]
   have e2:(i*K'+j) % K'=j:=by rw [mL,zH];exact zG hj
   have:=(hv i j hi hj).2.2;simpa [aY,Ξ,e1,e2] using this
def ad1 {x:AV} {vx:Value} {no K:Nat} {kk:List (List AV)→Prop} (hI:Inv w F β st.H) (hx:Rd w F β x vx) (h:MV x no st.H kk) (hk:∀rows,kk rows→nC rows K) :
  ∃rows,kk rows∧((vx=.slice none 0 0∧rows=[])∨∃ad c news,vx=.slice (some ad) rows.length c∧Src w F K rows ad news):=by
 unfold MV at h;split at h
 ·rename_i rows;refine ⟨rows,h,?_⟩
  rcases hx.np.qM with ⟨rfl,a,rfl⟩|⟨b,off,c,K',v,hb,hc,hm,rfl,hK,hv⟩
  ·cases a with
   |none=>exact .inl ⟨rfl,rfl⟩
   |some ad=>exact .inr ⟨ad,0,[],rfl,by simp,fun j v hj=>by simp at hj,fun u hu=>by simp at hu,fun i j hi=>by simp at hi⟩
  ·obtain ⟨news,hn⟩:=MW (hk _ h) hK hv;exact .inr ⟨_,_,news,rfl,hn⟩
 ·cases hx.bA;exact ⟨[],h,.inl ⟨rfl,rfl⟩⟩
 ·rename_i id;cases hb:aG id no with
  |true=>rw [hb] at h;cases h
  |false =>
   rw [hb] at h;simp only [cond_false] at h;split at h
   ·rename_i E K' rows hc;refine ⟨rows,h,?_⟩;obtain ⟨a,n,c,aj,rfl⟩:=hx.jo;have hh:=hI.holds _ _ (eE hc)
    rcases qI hh with ⟨rfl,a',hv⟩|⟨g,cap,hv,hm,hn⟩
    ·rw [aj] at hv;cases hv;cases a with
     |none=>exact .inl ⟨rfl,rfl⟩
     |some ad =>
      refine .inr ⟨ad,0,[],rfl,by simp,fun j v hj=>by simp at hj,fun u hu=>by simp at hu,fun i j hi=>by simp at hi⟩
    ·rw [aj] at hv;cases hv;obtain ⟨_,_,_,u,hu⟩:=ES hh aj;obtain ⟨news,hn⟩:=MW (b:=g) (off:=0) (u:=u) (hk _ h) (SL hh) (fun i j hi hj=>by have:=hu i j hi hj;rwa [iZ]);exact .inr ⟨_,_,news,rfl,hn⟩
   ·cases h
 ·cases h
def Bh {d E K cap:Nat} {rows:List (List AV)} {us:Array Value} {w1:World} (hd:d<1000) (hI:Inv w F β st.H) (hh:w1.heap=w.heap) (ho:w1.os=w.os) (ht:iP w w1) (hp:w1.output=w.output)
  (hs:us.size=cap*K) (hn:rows.length≤cap) (hm:cap≤maxLen) (hK:∀i,i<rows.length→(rows.getD i []).length=K)
  (hr:∀i j,i<rows.length→j<K→(us.getD (i*K+j) undef).oneCell'=true∧bh w F ((rows.getD i []).getD j .χ) (us.getD (i*K+j) undef))
  (hk:k (.o d) (gq st d (.own E K rows))):EPost w F β st k (.slice (some ⟨w.heap.size,0,none⟩) rows.length cap) (w1.alloc (.cells us E)):=by
 have aW:∀b,b<w.heap.size→(w1.alloc (.cells us E)).heap[b]?=w.heap[b]?:=fun b hb=>by
  rw [_root_.Go.heap_alloc_old w1 _ (by rw [hh];exact hb),hh]
 have eu:(w1.alloc (.cells us E)).heap[w.heap.size]?=some (.cells us E (0,0)):=by rw [←hh];exact heap_alloc_new w1 _
 have ha:fy F w (w1.alloc (.cells us E)):=fun b hb=>aW b (hI.bW b hb);refine ⟨_,_,F,_,hk,.o (by simp),ow (v:=.slice (some ⟨w.heap.size,0,none⟩) rows.length cap) hd hI ho ht hp (by simp [hh]) (fun b hb _=>aW b hb) (fun i c b _ hm hb=>aW b (hI.fj ⟨i,c,hm,hb⟩)) (fun b hb=>?_) ?_⟩
 ·cases h0:aG cap 0<;>simp [bF,h0] at hb
  left;omega
 ·by_cases h0:cap=0
  ·subst h0;have:rows=[]:=oW (by omega);subst this;exact .inl ⟨rfl,_,by simp;rfl⟩
  ·exact .inr ⟨w.heap.size,cap,us,by simp,by omega,eu,hn,hm,hs,hK,fun i j hi hj=>⟨(hr i j hi hj).1,(hr i j hi hj).2.frame ha fun _ h=>h⟩⟩
def sy (A:Array Value) (l:List Value) (h:A.toList=l) (i:Nat):A.getD i undef=l.getD i undef:=by
 subst h;simp [j3,aY]
def GU (z:Array Value) (n:Nat):(de z n).size=n*z.size:=by simp [de]
def FY {rows bG:List (List AV)} {K:Nat} {xs news zs:List Value} (hx:xs.length=rows.length*K) (hn:news.length=bG.length*K)
  {Q:AV→Value→Prop} (h1:∀i j,i<rows.length→j<K→Q ((rows.getD i []).getD j .χ) (xs.getD (i*K+j) undef))
  (h2:∀i j,i<bG.length→j<K→Q ((bG.getD i []).getD j .χ) (news.getD (i*K+j) undef)) :
  ∀i j,i<(rows++bG).length→j<K→Q (((rows++bG).getD i []).getD j .χ) ((xs++news++zs).getD (i*K+j) undef):=by
 intro i j hi hj
 have below:∀m n,m<n→m*K+j<n*K:=fun m n h=>by
  calc m*K+j<m*K+K:=by omega
   _=(m+1)*K:=by rw [bD];omega
   _≤n*K:=bT _ h
 simp only [cZ] at hi;by_cases Ξ:i<rows.length
 ·have:=below i rows.length Ξ
  have e1:(rows++bG).getD i []=rows.getD i []:=by simp [aY,fW,Ξ]
  have e2:(xs++news++zs).getD (i*K+j) undef=xs.getD (i*K+j) undef:=by
   simp [aY,fW,hx,this]
  rw [e1,e2];exact h1 i j Ξ hj
 ·have hb:=below (i-rows.length) bG.length (by omega);have eC:rows.length*K≤i*K+j:=dN (bT K (ahp Ξ)) (Nat.le_add_right _ _)
  have e1:(rows++bG).getD i []=bG.getD (i-rows.length) []:=by simp [aY,fW,Ξ]
  have e0:i*K+j-rows.length*K=(i-rows.length)*K+j:=by rw [Nat.sub_mul];have:=bT K (ahp Ξ);omega
  have e2:(xs++news++zs).getD (i*K+j) undef=news.getD ((i-rows.length)*K+j) undef:=by
   have h3:¬i*K+j<rows.length*K:=by omega
   simp [aY,fW,hx,hn,h3,e0,hb]
  rw [e1,e2];exact h2 _ j (by omega) hj
def LO {rows bG:List (List AV)} {K:Nat} (h1:∀i,i<rows.length→(rows.getD i []).length=K) (h2:nC bG K):∀i,i<(rows++bG).length→((rows++bG).getD i []).length=K:=by
 intro i hi;simp only [cZ] at hi;by_cases Ξ:i<rows.length
 ·have e1:(rows++bG).getD i []=rows.getD i []:=by simp [aY,fW,Ξ]
  rw [e1];exact h1 i Ξ
 ·have qy:i-rows.length<bG.length:=by omega
  have e1:(rows++bG).getD i []=bG[i-rows.length]:=by simp [aY,fW,Ξ,qy]
  rw [e1];exact h2 _ (eH _)
def acZ (w:World) (t tx ty e:TypeId) (i:TypeInfo) (ht:P.underlying t=some (.slice e)) (hi:P.info? e=some i) (g kz wG:Nat) (cur:Array Value) (hg:w.heap[g]?=some (.cells cur e (0,0)))
  (x:Value) (n:Nat) (news:List Value) (hs:Go.Src P i.size tx x n news w) (eQ:kz+n≤wG) (iF:kz*i.size+news.length≤cur.size) :
  (gB #[t,tx] ty #[.slice (some ⟨g,0,none⟩) kz wG,x]).run P w =
   .ok (.slice (some ⟨g,0,none⟩) (kz+n) wG) (w.setRow g (cur.toList.take (kz*i.size)++news++cur.toList.drop (kz*i.size+news.length)).toArray):=by
 have dy:=run_storeCells_at P g (kz*i.size) e news 0 cur w hg (by simpa using iF) hs.one;simp only [kJ] at dy
 rcases hs.kind with ⟨e',hk⟩|hk<;>simp [gB,run_underlying ht,run_underlying hk,sizeOf,typeInfo,hi,hs.len,eQ,hs.cells,fC,dy]
structure C_ (w:World) (F:Nat→Prop) (K:Nat) (rows:List (List AV)) (news:List Value):Prop where
 len:news.length=rows.length*K
 one:∀u,u∈news→u.oneCell'=true
 rd:∀i j,i<rows.length→j<K→bh w F ((rows.getD i []).getD j .χ) (news.getD (i*K+j) undef)
structure ux (P:Program) (t tx ty e:TypeId) (i:TypeInfo) (z:Value) (vx:Value) (n:Nat) (news:List Value) (w:World):Prop where
 none:n=0→news=[]→∀(base:Option Addr) (len cap:Nat),len≤cap→(gB #[t,tx] ty #[.slice base len cap,vx]).run P w=.ok (.slice base len cap) w
 grow:∀(base:Option Addr) (len cap:Nat) (olds:List Value),(ui i.size len (.slice base len cap)).run P w.drew=.ok olds.toArray w.drew→cap<len+n→((len+n:Nat):Int)≤9223372036854775807 →
  N3 (len+n) cap*i.bytes≤281474976710656→(gB #[t,tx] ty #[.slice base len cap,vx]).run P w =
   .ok (.slice (some ⟨w.heap.size,0,.none⟩) (len+n) (grownCap w (len+n) cap e)) (w.drew.alloc (.cells ((olds++news).toArray++de z.cells (grownCap w (len+n) cap e-(len+n))) e))
 room:∀(g len cap:Nat) (cur:Array Value),w.heap[g]?=some (.cells cur e (0,0))→len+n≤cap→len*i.size+news.length≤cur.size →
  (gB #[t,tx] ty #[.slice (some ⟨g,0,.none⟩) len cap,vx]).run P w =
   .ok (.slice (some ⟨g,0,.none⟩) (len+n) cap) (w.setRow g (cur.toList.take (len*i.size)++news++cur.toList.drop (len*i.size+news.length)).toArray)
def ux.abV {t tx ty e:TypeId} {i:TypeInfo} {z vx:Value} {n:Nat} {news:List Value} (hu:P.underlying t=some (.slice e)) (hi:P.info? e=some i) (hz:i.zero=some z) (h:Go.Src P i.size tx vx n news w):ux P t tx ty e i z vx n news w where
 none h0 h1 base len cap hle:=by subst h0;subst h1;exact run_append_nothing w t tx ty e i hu hi base len cap hle vx h
 grow base len cap olds hold hg IN iF:=run_append_grow_src (P:=P) w t tx ty e i z hu hi hz base len cap olds hold vx n news h hg IN iF
 room g len cap cur hg eQ iF:=acZ (P:=P) w t tx ty e i hu hi g len cap cur hg vx n news h eQ iF
def ux.agA {t tx ty e:TypeId} {i:TypeInfo} {z:Value} {kx kn:IntKind} {n:Nat} (hu:P.underlying t=some (.slice e)) (im:P.underlying tx=some (.int kn)) (hi:P.info? e=some i) (hz:i.zero=some z) (gT:z.cells.size=i.size) (h1:∀v,v∈(de z.cells n).toList→v.oneCell'=true)
  (hn:n≤140737488355328) (jR:n*i.bytes≤140737488355328):ux P t tx ty e i z (.int kx (n:Int)) n (de z.cells n).toList w:=by
 have oJ:IntKind.i64.wrap (n:Int)=(n:Int):=uk _ (by omega)
 have Zv:(n:Int)*(i.bytes:Int)≤140737488355328:=by
  have h5:((n*i.bytes:Nat):Int)=(n:Int)*(i.bytes:Int):=Og _ _;rw [←h5];omega
 have g1:¬((n:Int)<0):=by omega
 have g2:¬(281474976710656<(n:Int)*(i.bytes:Int)):=by omega
 have AZ:n*i.size=0→de z.cells n=#[]:=fun h=>by simp [de,gT,h]
 refine ⟨fun h0 _ base len cap hle=>?_,fun base len cap olds hold hg IN iF=>?_,fun g len cap cur hg eQ iF=>?_⟩
 ·subst h0;have AU:IntKind.i64.wrap 0=0:=rfl;cases base<;>simp [gB,run_underlying hu,run_underlying im,sizeOf,typeInfo,hi,asInt,asIntOf,AU,hle,storeCells]
 ·have s6:¬(len+n≤cap):=by omega
  have Qc:¬(9223372036854775807<((len:Int)+(n:Int))):=by omega
  have Qb:¬(281474976710656<N3 (len+n) cap*i.bytes):=by omega
  by_cases h5:n*i.size=0
  ·simp [gB,run_underlying hu,run_underlying im,sizeOf,typeInfo,zeroValue,hi,hz,asInt,asIntOf,oJ,g1,g2,s6,Qc,Qb,h5,AZ h5,OJ,hold,newRow,grownCap]
  ·simp [gB,run_underlying hu,run_underlying im,sizeOf,typeInfo,zeroValue,hi,hz,asInt,asIntOf,oJ,g1,g2,s6,Qc,Qb,h5,OJ,hold,newRow,grownCap];congr 2;apply Array.ext';simp [oV]
 ·have dy:=run_storeCells_at P g (len*i.size) e (de z.cells n).toList 0 cur w hg (by simpa using iF) h1;simp only [kJ] at dy;by_cases h5:n*i.size=0
  ·rw [AZ h5] at dy ⊢;simp [gB,run_underlying hu,run_underlying im,sizeOf,typeInfo,hi,asInt,asIntOf,oJ,g1,g2,eQ,h5,fC,dy]
  ·simp [gB,run_underlying hu,run_underlying im,sizeOf,typeInfo,zeroValue,hi,hz,asInt,asIntOf,oJ,g1,g2,eQ,h5,fC,dy]
def O1 {t tx e L:Nat} {i j:TI} {ty:TypeId} {rows bG:List (List AV)} {v vx:Value} (hd:L<1000) (hT:bB P T) (hI:Inv w F β st.H) (hi:T t=some i) (he:i.kind=.slice e) (hj:T e=some j)
  (dY:j.bytes≠0) (hz:j.zero.cells.size=j.cells)
  (hv:(rows=[]∧v=.slice none 0 0)∨((L,Chunk.own e j.cells rows)∈st.H∧β L=v))
  (hx:∃news,(∀i z,P.info? e=some i→i.zero=some z→i.size=j.cells→i.bytes=j.bytes→ux P t tx ty e i z vx bG.length news w)∧C_ w F j.cells bG news)
  (hlen:nC bG j.cells) (lZ:(rows.length+bG.length)*j.bytes≤140737488355328)
  (hk:k (.o L) (gq st L (.own e j.cells (rows++bG)))) :
  ∃v' w',(gB #[t,tx] ty #[v,vx]).run P w=.ok v' w'∧EPost w F β st k v' w':=by
 have hu:=(hT _ _ hi).slice he;obtain ⟨inf,nM,hzero,eh,jR⟩:=(hT _ _ hj).info;have dg:rows.length+bG.length≤140737488355328:=dN (OF _ (OI dY)) lZ
 have jx:rows.length+bG.length≤maxLen:=by unfold maxLen;omega
 have same:∀a,(rows=[]∧v=.slice none 0 0)∨((L,Chunk.own e j.cells rows)∈st.H∧β L=v)→bG=[]→v=.slice a rows.length rows.length∨True→EPost w F β st k v w:=by
  intro a jk hr _;subst hr;refine ⟨_,_,F,fun q=>if q=L then v else β q,hk,?_,ow (v:=v) hd hI rfl ⟨rfl,fun _=>(by first|exact bm _|exact jt _)⟩ rfl (bm _) (fun _ _ _=>rfl) (fun _ _ _ _ _ _=>rfl) (fun b hb=>?_) ?_⟩
  ·rcases jk with ⟨_,rfl⟩|⟨hm,aj⟩
   ·exact .o (by simp)
   ·rcases qI (hI.holds _ _ hm) with ⟨_,a,ha⟩|⟨g,cap,ha,_⟩
    ·rw [aj] at ha;subst ha;exact .o (by simp)
    ·rw [aj] at ha;subst ha;exact .o (by simp)
  ·rcases jk with ⟨_,rfl⟩|⟨hm,aj⟩
   ·simp [bF] at hb
   ·exact .inr ⟨_,hm,by rw [aj];exact hb⟩
  ·rw [sd]
   rcases jk with ⟨rfl,rfl⟩|⟨hm,aj⟩
   ·exact .inl ⟨rfl,none,by simp⟩
   ·have:=hI.holds _ _ hm;unfold Chunk.holds at this ⊢;simpa [aj] using this
 have form:(rows=[]∧∃a,v=.slice a 0 0)∨∃g cap cur,(L,Chunk.own e j.cells rows)∈st.H∧β L=v∧v=.slice (some ⟨g,0,none⟩) rows.length cap∧0<cap∧w.heap[g]?=some (.cells cur e (0,0))∧rows.length≤cap∧cap≤maxLen ∧
   cur.size=cap*j.cells∧(∀i,i<rows.length→(rows.getD i []).length=j.cells) ∧
   ∀q z,q<rows.length→z<j.cells→(cur.getD (q*j.cells+z) undef).oneCell'=true∧bh w F ((rows.getD q []).getD z .χ) (cur.getD (q*j.cells+z) undef):=by
  rcases hv with ⟨hr,rfl⟩|⟨hm,aj⟩
  ·exact .inl ⟨hr,none,rfl⟩
  ·rcases hI.holds _ _ hm with ⟨hr,a,ha⟩|⟨g,cap,cur,ha,h1,h2,h3,h4,h5,h6,h7⟩
   ·exact .inl ⟨hr,a,by rw [←aj,ha]⟩
   ·exact .inr ⟨g,cap,cur,hm,aj,by rw [←aj,ha],h1,h2,h3,h4,h5,h6,h7⟩
 obtain ⟨news,sW,gS⟩:=hx;have DL:=sW inf _ nM hzero eh jR
 have AD:news.length=bG.length*inf.size:=by rw [eh];exact gS.len
 ·
  rcases form with ⟨rfl,a,rfl⟩|⟨g,cap,cur,hm,aj,rfl,ig,hg,hn,fG,eO,hK,eP⟩
  ·by_cases h0:bG=[]
   ·subst h0;refine ⟨_,w,?_,same none hv rfl (.inr Hd)⟩;have ya:news=[]:=oW (by simpa using gS.len);subst ya;exact DL.none rfl rfl a 0 0 (bm _)
   ·have pH:0<bG.length:=List.length_pos_iff.2 h0;simp only [List.length_nil,iZ] at lZ dg jx;have Ax:=grownCap_ge w bG.length 0 e;have Ay:=grownCap_le_maxLen w bG.length 0 e jx
    have post:EPost w F β st k (.slice (some ⟨w.heap.size,0,none⟩) bG.length (grownCap w bG.length 0 e)) (w.drew.alloc (.cells (news.toArray++de j.zero.cells (grownCap w bG.length 0 e-bG.length)) e)):=by
     refine Bh (d:=L) (K:=j.cells) (rows:=bG) hd hI rfl rfl ⟨rfl,fun _=>jt _⟩ rfl ?_ Ax Ay (fun q hq=>?_) (fun q z hq hz=>?_) (by simpa using hk)
     ·simp only [qS,j6,GU,gS.len,hz,←bD];congr 1;omega
     ·have:=hlen (bG.getD q []) (by rw [fk,bO hq];exact eH _);exact this
     ·have:=FY (rows:=[]) (xs:=[]) (zs:=(de j.zero.cells (grownCap w bG.length 0 e-bG.length)).toList) (Q:=fun x u=>u.oneCell'=true∧bh w F x u) (by simp) gS.len (fun _ _ h=>by simp at h) (fun i j' hi iH=>⟨gS.one _ ?_,gS.rd i j' hi iH⟩) q z (by simpa using hq) hz
      ·rw [sy _ ([]++news++(de j.zero.cells (grownCap w bG.length 0 e-bG.length)).toList) (by simp)];exact this
      ·have Ξ:i*j.cells+j'<news.length:=by
        rw [gS.len]
        calc i*j.cells+j'<i*j.cells+j.cells:=by omega
         _=(i+1)*j.cells:=by rw [bD];omega
         _≤bG.length*j.cells:=bT _ hi
       rw [fk,bO Ξ];exact eH _
    have hold:(ui inf.size 0 (.slice a 0 0)).run P w.drew=.ok ([]:List Value).toArray w.drew:=by cases a<;>simp [ui,loadCells,loadCellsFrom]
    have hr:=DL.grow a 0 0 [] hold (by omega) (by omega) (by rw [jR];exact growslice_fits (by omega) (by rw [iZ];exact lZ));simp only [iZ,List.nil_append] at hr;exact ⟨_,_,hr,post⟩
  ·-- a block of its own
   have hrc:rows.length*j.cells≤cap*j.cells:=bT _ hn
   have h0:aG cap 0=false:=by cases cap<;>first|rfl|omega
   have cY:br β st.H g:=⟨L,_,hm,by rw [aj];simp [bF,h0]⟩;let xs:List Value:=cur.toList.take (rows.length*j.cells)
   have mh:xs.length=rows.length*j.cells:=by simp only [xs,da,kE];omega
   have below:∀(m n z:Nat),m<n→z<j.cells→m*j.cells+z<n*j.cells:=fun m n z h hz=>by
    calc m*j.cells+z<m*j.cells+j.cells:=by omega
     _=(m+1)*j.cells:=by rw [bD];omega
     _≤n*j.cells:=bT _ h
   have hxg:∀q z,q<rows.length→z<j.cells→xs.getD (q*j.cells+z) undef=cur.getD (q*j.cells+z) undef:=fun q z hq hz=>by
    have h1:=below q rows.length z hq hz
    have h2:q*j.cells+z<cur.size:=by omega
    simp [xs,aY,h1,h2]
   have h2:∀q z,q<bG.length→z<j.cells→(news.getD (q*j.cells+z) undef).oneCell'=true∧bh w F ((bG.getD q []).getD z .χ) (news.getD (q*j.cells+z) undef):=fun q z hq hz=>by
    refine ⟨gS.one _ ?_,gS.rd q z hq hz⟩
    have Ξ:q*j.cells+z<news.length:=by rw [gS.len];exact below q _ z hq hz
    rw [fk,bO Ξ];exact eH _
   have h1:∀q z,q<rows.length→z<j.cells→(xs.getD (q*j.cells+z) undef).oneCell'=true∧bh w F ((rows.getD q []).getD z .χ) (xs.getD (q*j.cells+z) undef):=fun q z hq hz=>by
    rw [hxg q z hq hz];exact eP q z hq hz
   by_cases eQ:rows.length+bG.length≤cap
   ·have iF:rows.length*inf.size+news.length≤cur.size:=by
     rw [AD,eh,eO,←bD];exact bT _ eQ
    have hr:=DL.room g rows.length cap cur hg eQ iF;rw [eh] at hr;refine ⟨_,_,hr,_,_,F,fun q=>if q=L then .slice (some ⟨g,0,none⟩) (rows.length+bG.length) cap else β q,hk,.o (by simp),?_⟩;have gx:∀b cs,b≠g→(w.setRow g cs).heap[b]?=w.heap[b]?:=fun b cs hb=>setRow_other w g b cs hb;refine ow (v:=.slice (some ⟨g,0,none⟩) (rows.length+bG.length) cap) hd hI rfl ⟨rfl,fun _=>(by first|exact bm _|exact jt _)⟩ rfl (by simp) (fun b _ ho=>gx b _ fun e=>ho (e▸cY)) (fun i' c' b aS bE hb=>gx b _ fun e=>aS (hI.dR i' c' L _ b bE hm hb (by rw [aj,e];simp [bF,h0]))) (fun b hb=>?_) (.inr ?_)
    ·refine .inr ⟨_,hm,?_⟩;rw [aj];simpa [bF,h0] using hb
    ·have ha:∀cs,fy F w (w.setRow g cs):=fun cs b hb=>gx b cs fun e=>hI.apart g cY (e▸hb);refine ⟨g,cap,(xs++news++cur.toList.drop (rows.length*j.cells+news.length)).toArray,by simp,ig,setRow_heap w g cur _ e _ hg,by simpa using eQ,fG,?_,LO hK hlen,fun q z hq hz=>?_⟩
     ·simp only [j6,cZ,lP,kE];rw [eh] at iF;omega
     ·have:=FY (zs:=cur.toList.drop (rows.length*j.cells+news.length)) (Q:=fun x u=>u.oneCell'=true∧bh w F x u) mh gS.len h1 h2 q z hq hz;rw [sy _ (xs++news++cur.toList.drop (rows.length*j.cells+news.length)) rfl];exact ⟨this.1,this.2.frame (ha _) fun _ h=>h⟩
   ·have ek:∀q u,xs[q]?=some u→w.cell? ((⟨g,0,none⟩:Addr).add q)=some u:=fun q u hq=>by
     rw [fC,iZ,cell_of_row w g q cur e (0,0) hg];simp only [xs,fo] at hq;split at hq
     ·simpa using hq
     ·cases hq
    have hold:=run_firstCells_some (P:=P) w.drew inf.size rows.length ⟨g,0,none⟩ rows.length cap xs (by rw [eh];exact mh) (by simpa using ek);have hr:=DL.grow (some ⟨g,0,none⟩) rows.length cap xs hold (by omega) (by omega) (by rw [jR];exact growslice_fits (by omega) lZ);refine ⟨_,_,hr,?_⟩;have Ax:=grownCap_ge w (rows.length+bG.length) cap e;have Ay:=grownCap_le_maxLen w (rows.length+bG.length) cap e jx;have:=Bh (d:=L) (E:=e) (K:=j.cells) (cap:=grownCap w (rows.length+bG.length) cap e) (rows:=rows++bG) (us:=(xs++news).toArray++de j.zero.cells (grownCap w (rows.length+bG.length) cap e-(rows.length+bG.length)))
     (w1:=w.drew) (k:=k) hd hI rfl rfl ⟨rfl,fun _=>jt _⟩ rfl ?_ (by simpa using Ax) Ay (LO hK hlen) (fun q z hq hz=>?_) hk
    ·simpa using this
    ·simp only [qS,j6,cZ,GU,gS.len,mh,hz,←bD];congr 1;omega
    ·have:=FY (zs:=(de j.zero.cells (grownCap w (rows.length+bG.length) cap e-(rows.length+bG.length))).toList) (Q:=fun x u=>u.oneCell'=true∧bh w F x u) mh gS.len h1 h2 q z hq hz;rw [sy _ (xs++news++(de j.zero.cells (grownCap w (rows.length+bG.length) cap e-(rows.length+bG.length))).toList) (by simp)];exact this
def Hz {t tx e L:Nat} {i j:TI} {ty:TypeId} {rows bG:List (List AV)} {v vx:Value} (hd:L<1000) (hT:bB P T) (hI:Inv w F β st.H) (hi:T t=some i) (he:i.kind=.slice e) (hj:T e=some j)
  (dY:j.bytes≠0) (hz:j.zero.cells.size=j.cells)
  (hv:(rows=[]∧v=.slice none 0 0)∨((L,Chunk.own e j.cells rows)∈st.H∧β L=v))
  (hx:∃news,Go.Src P j.cells tx vx bG.length news w∧C_ w F j.cells bG news)
  (hlen:nC bG j.cells) (lZ:(rows.length+bG.length)*j.bytes≤140737488355328)
  (hk:k (.o L) (gq st L (.own e j.cells (rows++bG)))) :
  ∃v' w',(gB #[t,tx] ty #[v,vx]).run P w=.ok v' w'∧EPost w F β st k v' w':=by
 have hu:=(hT _ _ hi).slice he;obtain ⟨news,sW,gS⟩:=hx;exact O1 hd hT hI hi he hj dY hz hv ⟨news,fun i z h1 h2 h3 _=>ux.abV hu h1 h2 (by rw [h3];exact sW),gS⟩ hlen lZ hk
end
section
variable {P:Program} {T:TT} {w:World} {F:Nat→Prop} {β:Nat→Value} {st:ai} {k:AV→ai→Prop}
def XQ {t d:Nat} (hd:d<1000) (hT:bB P T) (hI:Inv w F β st.H) (h:H9 T t d st k):cG P (do pure (.value (←Oc t none))) w F β st k:=by
 unfold H9 at h;split at h
 ·rename_i ti jz;split at h
  ·rename_i kt e hk;split at h
   ·rename_i ik ie l9 rz;split at h
    ·have bc:(Oc t none).run P w=.ok (.map (some w.heap.size)) (w.alloc (.map #[] 0)):=by simp [Oc,newObj,CV]
     have hb:=sz w (.map #[] 0);have eu:(w.alloc (.map #[] 0)).heap[w.heap.size]?=some (.map #[] 0):=(Go.MapKept.heap_alloc w _).1;refine cG.value bc ⟨_,_,F,fun q=>if q=d then .map (some w.heap.size) else β q,h,.m (by simp),ow (v:=.map (some w.heap.size)) hd hI hb.os hb.tape hb.output hb.size (fun b aH _=>hb.block b aH) (fun i c' b _ hm aH=>hb.block b (hI.fj ⟨i,c',hm,aH⟩)) (fun b aH=>.inl ?_) ?_⟩
     ·simp [bF] at aH;omega
     ·exact ⟨w.heap.size,#[],0,by simp,eu,Go.MapKept.stamped_empty 0,rfl,by simp,fun i r hi=>by simp at hi⟩
    ·cases h
   ·cases h
  ·cases h
 ·cases h
def Um {w:World} {b b':Nat} (o:Obj) (h:b'≠b):({ w with heap:=w.heap.setIfInBounds b o }:World).heap[b']?=w.heap[b']?:=by
 simp [Array.getElem?_setIfInBounds,Ne.symm h]
def PD {t:Nat} {m i y:AV} {vm vi vy:Value} (hT:bB P T) (hI:Inv w F β st.H) (hm:Rd w F β m vm) (hi:Rd w F β i vi) (hy:Rd w F β y vy) (h:Dq T t m i y st k) :
  cG P (do CI t vm vi vy;pure .skip) w F β st k:=by
 unfold Dq at h;split at h
 ·rename_i ti jz;split at h
  ·rename_i kt e hk;have hu:=(hT _ _ jz).map hk;split at h
   ·rename_i ik l9;split at h
    ·rename_i id n pD;have hd:=(hT _ _ l9).int pD;cases hi.bA;split at h
     ·rename_i ag rows hc;split at h
      ·rename_i yc hyc;obtain ⟨hn,hlen,R,rfl,cd⟩:=h;have bu:=eE hc;obtain ⟨b,aj,rfl⟩:=hm.vY;obtain ⟨b',es,ck,ir,hh,dy,hs,fG,te⟩:=hI.holds _ _ bu;rw [aj] at ir;cases ir;have pk:b<w.heap.size:=jM hh;have hg:=Go.MapKept.run_getObj_map (P:=P) hh;have eo:=Go.MapKept.run_checkKey (P:=P) (w:=w) (k:=.int .i64 n) hd rfl false 9999;obtain ⟨dv,hf⟩:=PZ dy hs te n;have RH:=St hyc hy
       have hblk:bF (β id)=some b:=by rw [aj];rfl
       have fin:∀(lV:Array MapEntry) (zS:Nat),(CI t (.map (some b)) (.int .i64 n) vy).run P w=.ok () { w with heap:=w.heap.setIfInBounds b (.map lV zS) } →
         Go.MapKept.Stamped lV zS→lV.size=(fB n yc rows).length→lV.size≤140737488355328 →
         (∀(i:Nat) (r:Int×List AV),(fB n yc rows)[i]?=some r→∃e:MapEntry,lV[i]?=some e∧e.key=.int .i64 r.1∧Ψ r.1∧bh w F (pS ag r.2) e.val) →
         cG P (do CI t (.map (some b)) (.int .i64 n) vy;pure .skip) w F β st k:=fun lV zS bc h1 h2 h3 h4=>by
        have qp:fy F w { w with heap:=w.heap.setIfInBounds b (.map lV zS) }:=fun q hq=>Um _ fun e=>hI.apart b ⟨id,_,bu,hblk⟩ (e▸hq);refine cG.skip bc ⟨_,_,F,β,cd,.i (.v (.inr rfl)),sM hI bu rfl ⟨rfl,fun _=>bm _⟩ rfl (by simp) (fun b' aH=>Um _ fun e=>aH (by rw [hblk,e])) ?_⟩;refine ⟨b,lV,zS,aj,(Go.MapKept.heap_set hh).1,h1,h2,h3,fun i r l_=>?_⟩;obtain ⟨e,g1,g2,g3,g4⟩:=h4 i r l_;exact ⟨e,g1,g2,g3,g4.frame qp fun _ h=>h⟩
       rcases hf with ⟨h1,h2,h3⟩|⟨j,e0,c',h1,h2,QR,h3,h4,_,h6⟩
       ·have uY:=CF (P:=P) (w:=w) hd h1
        have jj:fB n yc rows=rows++[(n,yc)]:=by
         rcases EF n yc rows with ⟨_,h,_⟩|⟨j,c,_,h,_⟩
         ·exact h
         ·rw [h2] at h;cases h
        refine fin (es.push { key:=.int .i64 n,val:=vy,born:=ck }) (ck+1) ?_ (Go.MapKept.stamped_push dy h3) (by rw [jj];simp [hs]) (by simp;omega) (fun i r l_=>?_)
        ·have JS:=VU (P:=P) (.map (es.push { key:=.int .i64 n,val:=vy,born:=ck }) (ck+1)) hh;simp [CI,run_underlying hu,hg,eo,uY,JS]
        ·rw [jj] at l_
         rcases Nat.lt_or_ge i rows.length with Ξ|eC
         ·rw [List.getElem?_append_left Ξ] at l_;obtain ⟨e,g1,g2⟩:=te i r l_;exact ⟨e,by rw [lN,if_neg (by omega)];exact g1,g2⟩
         ·rw [List.getElem?_append_right eC] at l_
          have pA:i-rows.length=0:=by
           have:=(fX.1 l_).1;simpa using this
          rw [pA] at l_;cases l_;exact ⟨_,by rw [lN,if_pos (by omega)],rfl,hn,RH⟩
       ·have uY:=CF (P:=P) (w:=w) hd h1;have pC:j<es.size:=(Array.getElem?_eq_some_iff.1 h2).1;have gG:=Go.MapKept.run_keyThatStays (P:=P) (w:=w) (d:=.int .i64) (k:=.int .i64 n) rfl;let lV:=es.modify j fun e=>{ e with key:=.int .i64 n,val:=vy };have l8:∀i,lV[i]?=if j=i then (es[i]?).map (fun e=>{ e with key:=.int .i64 n,val:=vy }) else es[i]?:=fun i=>Array.getElem?_modify;refine fin lV ck ?_ (Go.MapKept.stamped_modify dy j _ (fun _ _=>rfl) fun e _ he=>by rw [h2] at he;cases he;exact QR.symm) (by rw [h6];simp [lV,hs]) (by simpa [lV] using fG) (fun i r l_=>?_)
        ·have JS:=VU (P:=P) (.map lV ck) hh;simp [CI,run_underlying hu,hg,eo,uY,h2,QR,gG,JS,lV]
        ·rw [h6,List.getElem?_set] at l_;rw [l8];by_cases vn:j=i
         ·subst vn;rw [if_pos rfl,if_pos (by omega)] at l_;cases l_;rw [if_pos rfl,h2];exact ⟨_,rfl,rfl,hn,RH⟩
         ·rw [if_neg vn] at l_;rw [if_neg vn];exact te i r l_
      ·cases h
     ·cases h
    ·cases h
   ·cases h
  ·cases h
 ·cases h
end
section
variable {P:Program} {T:TT} {w:World} {F:Nat→Prop} {β:Nat→Value} {st:ai} {k:AV→ai→Prop}
def Hy {t t' e no:Nat} {i j:TI} {x:AV} {vx:Value} {kk:List (List AV)→Prop} (hT:bB P T) (hI:Inv w F β st.H) (hi:T t=some i) (he:i.kind=.slice e) (_hj:T e=some j) (hx:Rd w F β x vx) (h:zO T t t' e x no st.H kk) (hk:∀rows,kk rows→nC rows j.cells) :
  ∃rows,kk rows∧∃news,Go.Src P j.cells t' vx rows.length news w∧C_ w F j.cells rows news:=by
 unfold zO at h;cases hb:aG t t' with
 |true =>
  rw [hb] at h;obtain rfl:=cA hb;have hu:=(hT _ _ hi).slice he;obtain ⟨rows,pD,gI⟩:=ad1 hI hx h hk;refine ⟨rows,pD,?_⟩
  rcases gI with ⟨rfl,rfl⟩|⟨ad,c,news,rfl,hs⟩
  ·exact ⟨[],Go.Src.ofNil w hu 0,⟨by simp,fun u hu=>by simp at hu,fun i j hi=>by simp at hi⟩⟩
  ·exact ⟨news,Go.Src.ofSlice w hu ad rows.length c news hs.len hs.cell hs.one,⟨hs.len,hs.one,hs.rd⟩⟩
 |false =>
  rw [hb] at h;simp only [cond_false] at h;split at h
  ·rename_i i' je s bj xT;split at h
   ·rename_i aaH Rx;obtain ⟨ah,h⟩:=cond_prop h
    have hj:j=je:=by rw [_hj] at xT;exact Option.some.inj xT
    have ah:j.cells=1:=by rw [hj];exact cA ah
    have hu:=(hT _ _ bj).str aaH;cases hx.bA;refine ⟨_,h,byteCells s,?_,?_⟩
    ·rw [ah];have:=Go.Src.ofString w hu s
     have e:(s.data.toList.map kg).length=s.size:=by rw [au,kE];rfl
     rw [e];exact this
    ·rw [ah];refine ⟨by simp [byteCells],fun u hu=>by obtain ⟨_,_,rfl⟩:=cV.1 hu;rfl,fun a b ha hb=>?_⟩
     have dY:b=0:=by omega
     subst dY
     have nI:a<s.data.toList.length:=by simpa using ha
     have e1:((s.data.toList.map kg).getD a []).getD 0 .χ=.v (.int .u8 ((s.data.toList[a]).toNat:Int)):=by
      have e0:(s.data.toList.map kg).getD a []=kg (s.data.toList[a]):=by rw [fk,nu,bO nI];rfl
      rw [e0];rfl
     have e2:(byteCells s).getD (a*1+0) undef=.int .u8 ((s.data.toList[a]).toNat:Int):=by
      rw [Nat.mul_one,kJ,fk];unfold byteCells;rw [nu,bO nI];rfl
     rw [e1,e2];exact .v (.inl rfl)
   ·cases h
  ·cases h
def PB {t t' d:Nat} {s x:AV} {vs vx:Value} (hd:d<1000) (hT:bB P T) (hI:Inv w F β st.H) (hs:Rd w F β s vs) (hx:Rd w F β x vx) (h:xp T t t' s x d st k) (ty:TypeId) :
  cG P (do pure (.value (←gB #[t,t'] ty #[vs,vx]))) w F β st k:=by
 unfold xp at h;split at h
 ·rename_i i hi;split at h
  ·rename_i e he;split at h
   ·rename_i j hj;cases hb:(aG j.bytes 0||(aG j.cells 0||!(aG j.zero.cells.size j.cells))) with
    |true=>rw [hb] at h;cases h
    |false =>
     rw [hb] at h;simp only [cond_false] at h;simp only [N2,N1] at hb;obtain ⟨dY,_,hz⟩:=hb;have hz:j.zero.cells.size=j.cells:=cA hz
     have dY:j.bytes≠0:=fun e=>by rw [e] at dY;cases dY
     split at h
     ·cases hs.bA;obtain ⟨bG,⟨hlen,jR,R,rfl,hk⟩,gI⟩:=Hy hT hI hi he hj hx h fun rows h=>h.1;obtain ⟨v',w',hr,hp⟩:=Hz (P:=P) (L:=d) (ty:=ty) (rows:=[]) hd hT hI hi he hj dY hz (.inl ⟨rfl,rfl⟩) gI hlen (by simpa using jR) (by simpa using hk);exact cG.value hr hp
     ·rename_i id;split at h
      ·rename_i E K rows hc;obtain ⟨DJ,h'⟩:=cond_prop h;clear h;simp only [bM] at DJ
       have hid:id<1000:=by simpa using DJ.2
       obtain rfl:=cA DJ.1.1;obtain rfl:=cA DJ.1.2;obtain ⟨bG,⟨hlen,jR,R,rfl,hk⟩,gI⟩:=Hy hT hI hi he hj hx h' fun rows h=>h.1;obtain ⟨a,n,c,aj,rfl⟩:=hs.jo;obtain ⟨v',w',hr,hp⟩:=Hz (P:=P) (L:=id) (ty:=ty) hid hT hI hi he hj dY hz (.inr ⟨eE hc,aj⟩) gI hlen jR hk;exact cG.value hr hp
      ·cases h
     ·cases h
   ·cases h
  ·cases h
 ·cases h
def Dt {d e K:Nat} {a:Option Addr} (hd:d<1000) (hI:Inv w F β st.H) (hk:k (.o d) (gq st d (.own e K []))):EPost w F β st k (.slice a 0 0) w:=by
 refine ⟨_,_,F,fun q=>if q=d then .slice a 0 0 else β q,hk,.o (by simp),ow (v:=.slice a 0 0) hd hI rfl ⟨rfl,fun _=>(by first|exact bm _|exact jt _)⟩ rfl (bm _) (fun _ _ _=>rfl) (fun _ _ _ _ _ _=>rfl) (fun b hb=>?_) (.inl ⟨rfl,a,by simp⟩)⟩;cases a<;>simp [bF] at hb
def XU {t d:Nat} {x:AV} {vx:Value} {lo hi mx:Option AV} {vlo vhi vmx:Option Value} (hd:d<1000) (hT:bB P T) (hI:Inv w F β st.H) (hx:Rd w F β x vx) (jU:uy lo vlo w F β) (kp:uy hi vhi w F β) (fG:uy mx vmx w F β)
  (h:Dr T t x lo hi mx d st k):cG P (do pure (.value (←kF t vx vlo vhi vmx))) w F β st k:=by
 unfold Dr at h;split at h
 ·rename_i i bj;split at h
  ·rename_i e k1 k2 he;have hu:=(hT _ _ bj).slice he;cases vlo with
   |some v=>exact jU.elim
   |none =>
    cases vhi with
    |none=>exact kp.elim
    |some v1 =>
     cases vmx with
     |none=>exact fG.elim
     |some v2 =>
      cases (show Rd w F β _ v1 from kp).bA;cases (show Rd w F β _ v2 from fG).bA;split at h
      ·rename_i j hj;have aZ:=(hT _ _ hj).j0 w
       have bc:∀a n c,(kF t (.slice a n c) none (some (.int k1 0)) (some (.int k2 0))).run P w=.ok (.slice a 0 0) w:=fun a n c=>by
        simp [kF,Instr.slice,Instr.sliceBounds,Instr.sliceBound,asIntOf,run_underlying hu,aZ]
       split at h
       ·rcases hx.np.qM with ⟨_,a,rfl⟩|⟨b,off,c,K',v,_,_,_,rfl,_⟩
        iterate 2 exact cG.value (bc _ _ _) (Dt hd hI h)
       ·obtain ⟨a,n,c,_,rfl⟩:=hx.jo;exact cG.value (bc _ _ _) (Dt hd hI h)
       ·cases hx.bA;exact cG.value (bc _ _ _) (Dt hd hI h)
       ·cases h
      ·cases h
  ·cases h
 ·cases h
def XH {t n d:Nat} {parts:List (Nat×AV)} {vs:Array (Nat×Value)} (hd:d<1000) (hT:bB P T) (hI:Inv w F β st.H) (hl:parts.length=vs.size)
  (hv:∀i,i<parts.length→(parts.getD i (0,.χ)).1=(vs.toList.getD i (0,undef)).1∧Rd w F β (parts.getD i (0,.χ)).2 (vs.toList.getD i (0,undef)).2)
  (h:PC T t n parts d st k):cG P (do pure (.value (←Instr.buildSlice t n vs))) w F β st k:=by
 obtain ⟨rows,e,size,us,hk,_,hs,me,kr,eR,aZ,bc,hlen⟩:=LQ hT hl hv h;obtain ⟨hi,hk⟩:=cond_prop hk;have gw:=RN hi eR;refine cG.value bc ?_
 have hg:∀i,i<rows.length→(rows.map (fun r=>r.map nz)).getD i []=(rows.getD i []).map nz:=fun i hi=>by simp [aY,hi]
 have ax:∀i j,i<rows.length→j<size→((rows.map (fun r=>r.map nz)).getD i []).getD j .χ=nz ((rows.getD i []).getD j .χ):=fun i j hi hj=>by
  rw [hg i hi]
  have iH:j<(rows.getD i []).length:=by rw [kr i hi];exact hj
  simp only [fk,nu] at iH ⊢;rw [bO iH];rfl
 have:=Bh (d:=d) (E:=e) (K:=size) (cap:=n) (rows:=rows.map fun r=>r.map nz) (us:=us) (w1:=w) (k:=k) hd hI rfl rfl ⟨rfl,fun _=>(by first|exact bm _|exact jt _)⟩ rfl aZ (by rw [au];omega) (by unfold maxLen;omega)
  (fun i hi=>by rw [au] at hi;rw [hg i hi,au];exact kr i hi) (fun i j hi hj=>?_) hk
 ·rwa [au,me] at this
 ·rw [au] at hi;rw [ax i j hi hj]
  have Ξ:i*size+j<rows.flatten.length:=by
   rw [Dx rows kr]
   calc i*size+j<i*size+size:=by omega
    _=(i+1)*size:=by rw [bD];omega
    _≤rows.length*size:=bT _ hi
  have:=gw _ Ξ;rw [Il rows i j kr hi hj] at this;exact ⟨this.1,yv this.2⟩
def XR {t d:Nat} {l c:AV} {vl vc:Value} (hd:d<1000) (hT:bB P T) (hI:Inv w F β st.H) (hl:Rd w F β l vl) (hc:Rd w F β c vc) (h:H8 T t l c d st k) :
  cG P (do pure (.value (←sa t vl vc))) w F β st k:=by
 unfold H8 at h;split at h
 ·rename_i i kl nl kc nc hi;cases hl.bA;cases hc.bA;split at h
  ·rename_i e he;have hu:=(hT _ _ hi).slice he;split at h
   ·rename_i j hj;obtain ⟨hb,n,m,rfl,rfl,dg,hm,jR,R,rfl,hk⟩:=cond_prop h;simp only [bM] at hb;obtain ⟨bK,hlen,gw⟩:=hb;have hlen:(bn (bQ j.zero)).length=j.cells:=cA hlen;have hz:=nD (ml w F j.zero β) bK
    have gT:j.zero.cells.size=j.cells:=by rw [hz.1,hlen]
    obtain ⟨inf,nM,hzero,eh,lZ⟩:=(hT _ _ hj).info;have oJ:IntKind.i64.wrap (n:Int)=(n:Int):=uk _ (by omega);have vL:IntKind.i64.wrap (m:Int)=(m:Int):=uk _ (by omega)
    have Zt:(inf.bytes:Int)*(m:Int)≤140737488355328:=by
     have h5:((m*j.bytes:Nat):Int)=(j.bytes:Int)*(m:Int):=by rw [Og,Int.mul_comm]
     rw [lZ,←h5];omega
    have bc:(sa t (.int kl (n:Int)) (.int kc (m:Int))).run P w=.ok (.slice (some ⟨w.heap.size,0,none⟩) n m) (w.alloc (.cells ((lO (m*j.cells)).map (j.zero.cells[· % j.zero.cells.size]!)) e)):=by
     have h1:¬((m:Int)<0):=by omega
     have h2:¬(281474976710656<(inf.bytes:Int)*(m:Int)):=by omega
     have h3:¬((n:Int)<0):=by omega
     have h4:¬((m:Int)<(n:Int)):=by omega
     by_cases h0:m*j.cells=0
     ·have cN:lO (m*j.cells)=#[]:=by rw [h0];exact qR (by simp)
      simp [sa,run_underlying hu,asInt,asIntOf,typeInfo,nM,oJ,vL,h1,h2,h3,h4,sizeOf,eh,h0,newRow];rw [h0] at cN;simp [cN]
     ·simp [sa,run_underlying hu,asInt,asIntOf,typeInfo,nM,oJ,vL,h1,h2,h3,h4,sizeOf,eh,h0,newRow,zeroValue,hzero]
    refine cG.value bc ?_;have:=Bh (d:=d) (E:=e) (K:=j.cells) (cap:=m) (rows:=gl n ((bn (bQ j.zero)).map nz)) (us:=(lO (m*j.cells)).map (j.zero.cells[· % j.zero.cells.size]!)) (w1:=w) (k:=k)
     hd hI rfl rfl ⟨rfl,fun _=>(by first|exact bm _|exact jt _)⟩ rfl (by simp) (by simpa using dg) (by unfold maxLen;omega) (fun q hq=>?_) (fun q z hq iq=>?_) hk
    ·simpa using this
    ·simp at hq;simp [aY,hq,hlen]
    ·simp at hq
     have Ξ:q*j.cells+z<m*j.cells:=by
      calc q*j.cells+z<q*j.cells+j.cells:=by omega
       _=(q+1)*j.cells:=by rw [bD];omega
       _≤m*j.cells:=bT _ (by omega)
     rw [Sp Ξ,gT]
     have e1:(q*j.cells+z) % j.cells=z:=by rw [mL,zH];exact zG iq
     rw [e1];have h2:=hz.2 z (by omega)
     have e2:j.zero.cells[z]! = j.zero.cells.getD z undef:=by
      have:z<j.zero.cells.size:=by omega
      simp [this]
     have e3:((gl n ((bn (bQ j.zero)).map nz)).getD q []).getD z .χ=nz ((bn (bQ j.zero)).getD z .χ):=by
      have vO:z<(bn (bQ j.zero)).length:=by omega
      simp [aY,hq,vO]
     rw [e2,e3];refine ⟨h2.1,yv (mj (dJ.1 gw _ ?_) h2.2)⟩;rw [fk,bO (show z<(bn (bQ j.zero)).length by omega)];exact eH _
   ·cases h
  ·cases h
 ·cases h
def agz {z:Value} {n k:Nat} {w:World} {F:Nat→Prop} {β:Nat→Value} (hz:z.cells.size=k) (bK:iL (bQ z)=true) (hlen:(bn (bQ z)).length=k) (gw:(bn (bQ z)).all eL=true) :
  C_ w F k (gl n ((bn (bQ z)).map nz)) (de z.cells n).toList:=by
 have hc:=nD (ml w F z β) bK;refine ⟨by simp [de,hz],fun u hu=>?_,fun i j hi hj=>?_⟩
 ·simp only [de,VN,cV] at hu;obtain ⟨q,hq,rfl⟩:=hu
  have pH:0<z.cells.size:=by
   have:q∈lO (n*z.cells.size):=by simpa using hq
   rcases nw z.cells.size with h|h
   ·rw [h] at this;simp at this
   ·exact h
  have Ξ:=p6 q pH;have h2:=(hc.2 (q % z.cells.size) (by omega)).1;simpa [Ξ] using h2
 ·have hi:i<n:=by simpa using hi
  have Ξ:i*k+j<n*k:=by
   calc i*k+j<i*k+k:=by omega
    _=(i+1)*k:=by rw [bD];omega
    _≤n*k:=bT _ (by omega)
  have e0:(de z.cells n).toList.getD (i*k+j) undef=z.cells[(i*k+j) % z.cells.size]! := by
   simp [de,hz,aY,Ξ]
  have e1:(i*k+j) % k=j:=by rw [mL,zH];exact zG hj
  rw [e0,hz,e1];have h2:=(hc.2 j (by omega)).2
  have e2:((gl n ((bn (bQ z)).map nz)).getD i []).getD j .χ=nz ((bn (bQ z)).getD j .χ):=by
   simp [aY,hi,hlen,hj]
  rw [e2]
  have e3:z.cells[j]! = z.cells.getD j undef:=by
   have:j<z.cells.size:=by omega
   simp [this]
  rw [e3];refine yv (mj ?_ h2);have:=dJ.1 gw ((bn (bQ z)).getD j .χ) (by simp [aY,hlen,hj]);exact this
def XE {t t' id:Nat} {x:AV} {vs vx:Value} (hT:bB P T) (hI:Inv w F β st.H) (hs:Rd w F β (.o id) vs) (hx:Rd w F β x vx) (h:H3 T t t' id x st k) (ty:TypeId) :
  cG P (do pure (.value (←gB #[t,t'] ty #[vs,vx]))) w F β st k:=by
 unfold H3 at h;split at h
 ·rename_i i i' kx nx hi bj;cases hx.bA;split at h
  ·rename_i e kn he fP;have hu:=(hT _ _ hi).slice he;have im:=(hT _ _ bj).int fP;split at h
   ·rename_i j E K rows hj hc;cases hb:(aG j.bytes 0||(aG j.cells 0||!(iL (bQ j.zero)&&(aG (bn (bQ j.zero)).length j.cells&&(bn (bQ j.zero)).all eL)))) with
    |true=>rw [hb] at h;cases h
    |false =>
     rw [hb] at h;simp only [N2,N1,bM] at hb;obtain ⟨dY,mW,bK,hlen,gw⟩:=hb;have hlen:(bn (bQ j.zero)).length=j.cells:=cA hlen
     have dY:j.bytes≠0:=fun e=>by rw [e] at dY;cases dY
     obtain ⟨hg,n,rfl,jR,R,rfl,hk⟩:=cond_prop h;simp only [bM] at hg;obtain ⟨⟨hE,hK⟩,Ξ⟩:=hg;obtain rfl:=cA hE;obtain rfl:=cA hK
     have hid:id<1000:=by simpa [fY] using Ξ
     have hz:=nD (ml w F j.zero β) bK
     have gT:j.zero.cells.size=j.cells:=by rw [hz.1,hlen]
     have Rq:=agz (n:=n) (w:=w) (F:=F) (β:=β) gT bK hlen gw;obtain ⟨a,m,c,aj,rfl⟩:=hs.jo;have qz:n*j.bytes≤140737488355328:=dN (bT _ (Nat.le_add_left _ _)) jR;have hn:n≤140737488355328:=dN (OF _ (OI dY)) qz;obtain ⟨v',w',hr,hp⟩:=O1 (P:=P) (L:=id) (tx:=t') (vx:=.int kx (n:Int)) (ty:=ty) (rows:=rows) (bG:=gl n ((bn (bQ j.zero)).map nz)) hid hT hI hi he hj dY gT (.inr ⟨eE hc,aj⟩)
      ⟨_,fun inf z h1 h2 h3 h4=>by
       obtain ⟨ag3,nM,hzero,eh,lZ⟩:=(hT _ _ hj).info;rw [nM] at h1;cases h1;rw [hzero] at h2;cases h2;have:=ux.agA (P:=P) (w:=w) (t:=t) (tx:=t') (ty:=ty) (kx:=kx) (n:=n) hu im nM hzero (by rw [gT,eh]) Rq.one hn (by rw [lZ];exact qz)
       simpa using this,Rq⟩ (fun r hr=>by
       rw [(List.mem_replicate.1 hr).2,au,hlen]) (by simpa using jR) hk
     exact cG.value hr hp
   ·cases h
  ·cases h
 ·cases h
def XP {t t':Nat} {x y:AV} {vx vy:Value} (hT:bB P T) (hI:Inv w F β st.H) (hx:Rd w F β x vx) (hy:Rd w F β y vy) (h:Dp T t x y st k) (ty:TypeId) :
  cG P (do pure (.value (←oT #[t,t'] ty #[vx,vy]))) w F β st k:=by
 unfold Dp at h;split at h
 ·rename_i i hi;split at h
  ·rename_i e he;have hu:=(hT _ _ hi).slice he;split at h
   ·rename_i j hj;split at h
    ·rename_i id Kw d news;split at h
     ·rename_i E K rows hc;obtain ⟨hb,D5,R,rfl,hk⟩:=cond_prop h;simp only [bM] at hb;have hK:K=j.cells:=cA hb.1;have An:Kw=K:=cA hb.2;subst An;have hm:=eE hc;have aZ:=(hT _ _ hj).j0 w;obtain ⟨a,a',n,c,aj,hd,ha,rfl⟩:=hx.ub
      have hn:n=rows.length:=by
       rcases qI (hI.holds _ _ hm) with ⟨rfl,a2,hv⟩|⟨g,cap,hv,_,ig⟩
       iterate 2 (rw [aj] at hv;cases hv;rfl)
      subst hn;obtain ⟨m,xZ⟩:∃m,m=Nat.min news.length (rows.length-d):=⟨_,rfl⟩;rw [←xZ] at hk
      have ij:m≤news.length:=by rw [xZ];exact Nat.min_le_left _ _
      have rG:m≤rows.length-d:=by rw [xZ];exact Nat.min_le_right _ _
      have Zd:rows.take d++news.take (rows.length-d)++rows.drop (d+news.length)=rows.take d++news.take m++rows.drop (d+m):=by
       rcases Nat.le_total news.length (rows.length-d) with h1|h1
       ·have:m=news.length:=by rw [xZ];exact Nat.min_eq_left h1
        rw [this,OD h1,OD (bm _)]
       ·have:m=rows.length-d:=by rw [xZ];exact Nat.min_eq_right h1
        rw [this,kH (by omega),kH (by omega)]
      rw [Zd] at hk;obtain ⟨b0,ag',c0,hvy,us,eR,JY,Rz⟩:∃(aa:Option Addr) (ln cp:Nat),vy=.slice aa ln cp∧∃us:List Value,(us.length=m*j.cells∧ln=news.length)∧((ui j.cells m vy).run P w=.ok us.toArray w) ∧
        (∀q z,q<m→z<j.cells→(us.getD (q*j.cells+z) undef).oneCell'=true∧bh w F ((news.getD q []).getD z .χ) (us.getD (q*j.cells+z) undef)):=by
       rcases hy.np.qM with ⟨rfl,a,rfl⟩|⟨b,off,cc,K',v,aH,fc,jx,rfl,IW,hv⟩
       ·have mY:m=0:=by simpa using ij
        subst mY;exact ⟨a,0,0,rfl,[],⟨by simp,rfl⟩,by cases a<;>simp [ui,loadCells,loadCellsFrom],fun q z hq=>by omega⟩
       ·have xH:∀q,q<news.length→K'=j.cells:=fun q hq=>by
         rw [←IW q hq];exact D5 _ (by rw [fk,bO hq];exact eH _)
        have Ξ:∀q,q<m*j.cells→q/j.cells<m∧q % j.cells<j.cells∧q/j.cells*j.cells+q % j.cells=q:=fun q hq=>by
         have vk:0<j.cells:=(nw j.cells).elim (fun h=>by rw [h] at hq;simp at hq) fun h=>h;exact ⟨(xa vk).2 hq,p6 _ vk,by rw [mL];exact OE q j.cells⟩
        refine ⟨_,_,_,rfl,(fM (m*j.cells)).map fun q=>v (q/j.cells) (q % j.cells),⟨by simp,rfl⟩,?_,fun q z hq hz=>?_⟩
        ·refine run_firstCells_some (P:=P) w j.cells m ⟨b,off,none⟩ news.length cc _ (by simp) fun q u hq=>?_;simp only [nu,zI] at hq;obtain ⟨q',AJ,rfl⟩:=hq
         have m_:q<m*j.cells∧q'=q:=by
          obtain ⟨h1,h2⟩:=fX.1 AJ;exact ⟨by simpa using h1,by simpa using h2.symm⟩
         obtain ⟨m_,rfl⟩:=m_;obtain ⟨h1,h2,h3⟩:=Ξ _ m_;have h4:=xH _ (show q'/j.cells<news.length by omega);have:=(hv (q'/j.cells) (q' % j.cells) (by omega) (by rw [h4];exact h2)).1;rw [h4,h3] at this;rw [fC];exact this
        ·have hql:q*j.cells+z<m*j.cells:=by
          calc q*j.cells+z<q*j.cells+j.cells:=by omega
           _=(q+1)*j.cells:=by rw [bD];omega
           _≤m*j.cells:=bT _ hq
         have vk:0<j.cells:=by omega
         have e1:(q*j.cells+z)/j.cells=q:=by rw [mL,ahr vk,ahq hz];rfl
         have e2:(q*j.cells+z) % j.cells=z:=by rw [mL,zH];exact zG hz
         have e3:((fM (m*j.cells)).map fun q=>v (q/j.cells) (q % j.cells)).getD (q*j.cells+z) undef=v q z:=by
          simp [aY,hql,e1,e2]
         rw [e3];exact (hv q z (by omega) (by rw [xH q (by omega)];exact hz)).2
      obtain ⟨eG,AD⟩:=eR
      have jU:(Builtin.lenOf vy).run P w=.ok news.length w:=by rw [hvy,←AD];rfl
      have dg:Nat.min news.length (rows.length-d)=m:=xZ.symm;by_cases h0:m=0
      ·have bc:(oT #[t,t'] ty #[.slice a' (rows.length-d) (c-d),vy]).run P w=.ok (.int .i64 (m:Int)) w:=by
        have JX:us=[]:=oW (by rw [eG,h0];simp);rw [JX] at JY
        have hw:IntKind.i64.wrap (m:Int)=(m:Int):=by rw [h0];rfl
        cases a'<;>simp [oT,run_underlying hu,jU,dg,aZ,JY,storeCells,goInt]
       refine cG.value bc ⟨_,_,F,β,hk,.i (.v (.inl rfl)),?_⟩
       have e:rows.take d++news.take m++rows.drop (d+m)=rows:=by rw [h0];simp
       rw [e];exact sM hI hm rfl ⟨rfl,fun _=>bm _⟩ rfl rfl (fun _ _=>rfl) (hI.holds _ _ hm)
      ·rcases hI.holds _ _ hm with ⟨rfl,_⟩|⟨g,cap,cur,hv,ig,hg,hn,fG,hs,xI,hr⟩
       ·simp at rG;omega
       ·rw [aj] at hv;cases hv
        have nI:a'=some ⟨g,d*Kw,none⟩:=by rw [ha (by omega)];simp [fC]
        subst nI
        have pc:aG c 0=false:=by cases c<;>first|rfl|omega
        have ho:br β st.H g:=⟨id,_,hm,by rw [aj];simp [bF,pc]⟩;have Zy:rows.length*Kw≤c*Kw:=bT _ hn
        have hdm:d*Kw+m*Kw≤rows.length*Kw:=by rw [←bD];exact bT _ (by omega)
        have eG:us.length=m*Kw:=by rw [eG,hK]
        have eF:∀x,x∈us→x.oneCell'=true:=fun x hx=>by
         obtain ⟨q,hq,rfl⟩:=List.getElem_of_mem hx;have vk:0<Kw:=(nw Kw).elim (fun h=>by rw [h] at eG;simp at eG;rw [eG] at hq;simp at hq) fun h=>h;rw [eG] at hq;have h1:q/Kw<m:=(xa vk).2 hq;have h2:q % Kw<Kw:=p6 _ vk
         have h3:q/Kw*Kw+q % Kw=q:=by rw [mL];exact OE q Kw
         have:=(Rz (q/Kw) (q % Kw) h1 (by rw [←hK];exact h2)).1;rw [←hK,h3] at this
         have e:us.getD q undef=us[q]:=by simp [aY,eG,hq]
         rwa [e] at this
        have dy:=run_storeCells_at P g (d*Kw) E us 0 cur w hg (by rw [eG];omega) eF;simp only [kJ] at dy
        have bc:(oT #[t,t'] ty #[.slice (some ⟨g,d*Kw,none⟩) (rows.length-d) (c-d),vy]).run P w=.ok (.int .i64 (m:Int)) (w.setRow g (cur.toList.take (d*Kw)++us++cur.toList.drop (d*Kw+us.length)).toArray):=by
         simp [oT,run_underlying hu,jU,dg,aZ,JY,dy,goInt]
        refine cG.value bc ⟨_,_,F,β,hk,.i (.v (.inl rfl)),?_⟩;have gx:∀b cs,b≠g→(w.setRow g cs).heap[b]?=w.heap[b]?:=fun b cs hb=>setRow_other w g b cs hb;have ha:∀cs,fy F w (w.setRow g cs):=fun cs b hb=>gx b cs fun e=>hI.apart g ho (e▸hb);refine sM hI hm rfl ⟨rfl,fun _=>bm _⟩ rfl (by simp) (fun b' aH=>gx b' _ (fun e=>aH (by rw [aj,e];simp [bF,pc]))) (.inr ?_)
        have vz:(rows.take d++news.take m++rows.drop (d+m)).length=rows.length:=by simp;omega
        have hR:∀q,q<rows.length→(rows.take d++news.take m++rows.drop (d+m)).getD q []=if q<d then rows.getD q [] else if q<d+m then news.getD (q-d) [] else rows.getD q []:=fun q hq=>by
         simp only [aY,fW,cZ,da,fo,gJ];by_cases h1:q<d
         ·have h2:q<min d rows.length:=by omega
          have h3:q<min d rows.length+min m news.length:=by omega
          simp [h1,h2,h3]
         ·have h2:¬q<min d rows.length:=by omega
          by_cases h4:q<d+m
          ·have h3:q<min d rows.length+min m news.length:=by omega
           have h5:q-min d rows.length<m:=by omega
           have h6:q-min d rows.length=q-d:=by omega
           simp [h1,h2,h3,h4,h5,h6];simp [show q-d<m by omega]
          ·have h3:¬q<min d rows.length+min m news.length:=by omega
           have h6:d+m+(q-(min d rows.length+min m news.length))=q:=by omega
           simp [h1,h3,h4,h6]
        refine ⟨g,c,_,by rw [aj,vz],ig,setRow_heap w g cur _ E _ hg,by rw [vz];exact hn,fG,?_,fun q hq=>?_,fun q z hq iq=>?_⟩
        ·simp only [j6,cZ,da,lP,kE,eG];omega
        ·rw [vz] at hq;rw [hR q hq];split
         ·exact xI q hq
         ·split
          ·rw [hK];exact D5 _ (by rw [fk,bO (show q-d<news.length by omega)];exact eH _)
          ·exact xI q hq
        ·rw [vz] at hq
         have hqz:q*Kw+z<rows.length*Kw:=by
          calc q*Kw+z<q*Kw+Kw:=by omega
           _=(q+1)*Kw:=by rw [bD];omega
           _≤rows.length*Kw:=bT _ hq
         have eO:q*Kw+z<cur.size:=by omega
         have ek:(cur.toList.take (d*Kw)++us++cur.toList.drop (d*Kw+us.length)).toArray.getD (q*Kw+z) undef=if q<d then cur.getD (q*Kw+z) undef else if q<d+m then us.getD ((q-d)*Kw+z) undef else cur.getD (q*Kw+z) undef:=by
          rw [j3,List.getElem?_toArray];simp only [fW,cZ,da,kE,fo,gJ,eG];by_cases h1:q<d
          ·have Ξ:q*Kw+z<d*Kw:=by
            calc q*Kw+z<q*Kw+Kw:=by omega
             _=(q+1)*Kw:=by rw [bD];omega
             _≤d*Kw:=bT _ h1
           have h2:q*Kw+z<min (d*Kw) cur.size:=by omega
           have h3:q*Kw+z<min (d*Kw) cur.size+m*Kw:=by omega
           simp [h1,h2,h3,Ξ]
          ·have eC:d*Kw≤q*Kw:=bT _ (by omega)
           have h2:¬q*Kw+z<min (d*Kw) cur.size:=by omega
           have agU:(q-d)*Kw=q*Kw-d*Kw:=Nat.sub_mul _ _ _;by_cases h4:q<d+m
           ·have Ξ:q*Kw+z<(d+m)*Kw:=by
             calc q*Kw+z<q*Kw+Kw:=by omega
              _=(q+1)*Kw:=by rw [bD];omega
              _≤(d+m)*Kw:=bT _ h4
            rw [bD] at Ξ
            have h3:q*Kw+z<min (d*Kw) cur.size+m*Kw:=by omega
            have h5:q*Kw+z-min (d*Kw) cur.size=(q-d)*Kw+z:=by omega
            simp [h1,h2,h3,h4,h5,aY]
           ·have Z2:(d+m)*Kw≤q*Kw:=bT _ (by omega);rw [bD] at Z2
            have h3:¬q*Kw+z<min (d*Kw) cur.size+m*Kw:=by omega
            have h5:d*Kw+m*Kw+(q*Kw+z-(min (d*Kw) cur.size+m*Kw))=q*Kw+z:=by omega
            simp [h1,h3,h4,h5,eO]
         rw [ek,hR q hq];have old:=hr q z hq iq;by_cases h1:q<d
         ·rw [if_pos h1,if_pos h1];exact ⟨old.1,old.2.frame (ha _) fun _ h=>h⟩
         ·rw [if_neg h1,if_neg h1];by_cases h2:q<d+m
          ·rw [if_pos h2,if_pos h2];have:=Rz (q-d) z (by omega) (by rw [←hK];exact iq);rw [←hK] at this;exact ⟨this.1,this.2.frame (ha _) fun _ h=>h⟩
          ·rw [if_neg h2,if_neg h2];exact ⟨old.1,old.2.frame (ha _) fun _ h=>h⟩
     ·cases h
    ·cases h
   ·cases h
  ·cases h
 ·cases h
def XO {args:Array Operand} {argTypes:Array TypeId} {a:Act} {type:TypeId} {f:Nat→AV} (hT:bB P T) (hI:Inv w F β st.H) (bx:∀x,x∈args→Rd w F β (ev f x) (a.eval x))
  (h:match argTypes.toList,args.toList.map (ev f) with
   |[t,_],[x,y]=>Dp T t x y st k
   |_,_=>False) :
  cG P (do let d ←resolve a.eval { callee:=.builtin .copy,args:=args,argTypes:=argTypes } type;invoke d.target d.args) w F β st k:=by
 split at h
 ·rename_i t t' x y ht hx;obtain ⟨l,rfl⟩:∃l:List Operand,args=l.toArray:=⟨args.toList,by simp⟩;obtain ⟨lt,rfl⟩:∃l:List TypeId,argTypes=l.toArray:=⟨argTypes.toList,by simp⟩;simp only at ht hx;subst ht
  match l,hx with
  |[o1,o2],hx =>
   simp only [eT,List.map_nil,CP,and_true] at hx;obtain ⟨rfl,rfl⟩:=hx;have:=XP (t':=t') hT hI (bx o1 (by simp)) (bx o2 (by simp)) h type;unfold cG at this ⊢;simpa [resolve,invoke,builtin] using this
 ·cases h
def XD {t t' d:Nat} {s x:AV} {vs vx:Value} (hd:d<1000) (hT:bB P T) (hI:Inv w F β st.H) (hs:Rd w F β s vs) (hx:Rd w F β x vx) (h:Dl T t t' s x d st k) (ty:TypeId) :
  cG P (do pure (.value (←gB #[t,t'] ty #[vs,vx]))) w F β st k:=by
 unfold Dl at h;split at h
 ·exact XE hT hI hs hx h ty
 split at h
 ·rename_i i i' kx nx hi bj _;cases hs.bA;cases hx.bA;split at h
  ·rename_i e ki he fP;have hu:=(hT _ _ hi).slice he;have im:=(hT _ _ bj).int fP;split at h
   ·rename_i j hj;cases hb:(aG j.bytes 0||(aG j.cells 0||!(iL (bQ j.zero)&&(aG (bn (bQ j.zero)).length j.cells&&(bn (bQ j.zero)).all eL)))) with
    |true=>rw [hb] at h;cases h
    |false =>
     rw [hb] at h;simp only [N2,N1,bM] at hb;obtain ⟨dY,mW,bK,hlen,gw⟩:=hb;have hlen:(bn (bQ j.zero)).length=j.cells:=cA hlen
     have dY:j.bytes≠0:=fun e=>by rw [e] at dY;cases dY
     have mW:j.cells≠0:=fun e=>by rw [e] at mW;cases mW
     obtain ⟨n,rfl,jR,R,rfl,hk⟩:=h;have hz:=nD (ml w F j.zero β) bK
     have gT:j.zero.cells.size=j.cells:=by rw [hz.1,hlen]
     obtain ⟨inf,nM,hzero,eh,lZ⟩:=(hT _ _ hj).info;have hn:n≤140737488355328:=dN (OF _ (OI dY)) jR;have oJ:IntKind.i64.wrap (n:Int)=(n:Int):=uk _ (by omega)
     have Zv:(n:Int)*(j.bytes:Int)≤140737488355328:=by
      have h5:((n*j.bytes:Nat):Int)=(n:Int)*(j.bytes:Int):=Og _ _;rw [←h5];omega
     by_cases h0:n=0
     ·subst h0
      have bc:(gB #[t,t'] ty #[.slice none 0 0,.int kx ((0:Nat):Int)]).run P w=.ok (.slice none 0 0) w:=by
       have AU:IntKind.i64.wrap 0=0:=rfl;simp [gB,run_underlying hu,run_underlying im,sizeOf,typeInfo,nM,asInt,asIntOf,AU]
      exact cG.value bc (Dt hd hI (by simpa using hk))
     ·have jx:n≤maxLen:=by unfold maxLen;omega
      have Ax:=grownCap_ge w n 0 e;have Ay:=grownCap_le_maxLen w n 0 e jx
      have h1:¬((n:Int)<0):=by omega
      have h2:¬(281474976710656<(n:Int)*(inf.bytes:Int)):=by rw [lZ];omega
      have h3:¬(9223372036854775807<(n:Int)):=by omega
      have h4:¬(281474976710656<N3 n 0*inf.bytes):=by rw [nextslicecap_zero (by omega),lZ];omega
      have h5:n*inf.size≠0:=by rw [eh];exact Nat.mul_ne_zero h0 mW
      have bc:(gB #[t,t'] ty #[.slice none 0 0,.int kx (n:Int)]).run P w=.ok (.slice (some ⟨w.heap.size,0,none⟩) n (grownCap w n 0 e)) (w.drew.alloc (.cells (de j.zero.cells n++de j.zero.cells (grownCap w n 0 e-n)) e)):=by
       simp [gB,run_underlying hu,run_underlying im,sizeOf,typeInfo,nM,asInt,asIntOf,oJ,h1,h2,h3,h4,h0,zeroValue,hzero,OJ,run_firstCells_none,newRow,grownCap];intro h7;exact absurd h7 h5
      refine cG.value bc ?_;have:=Bh (d:=d) (E:=e) (K:=j.cells) (cap:=grownCap w n 0 e) (rows:=gl n ((bn (bQ j.zero)).map nz)) (us:=de j.zero.cells n++de j.zero.cells (grownCap w n 0 e-n)) (w1:=w.drew) (k:=k)
       hd hI rfl rfl ⟨rfl,fun _=>(by first|exact bm _|exact jt _)⟩ rfl (by simp only [qS,GU,gT,←bD];congr 1;omega) (by simpa using Ax) Ay (fun q hq=>?_) (fun q z hq iq=>?_) hk
      ·simpa using this
      ·simp at hq;simp [aY,hq,hlen]
      ·simp at hq
       have Ξ:q*j.cells+z<n*j.cells:=by
        calc q*j.cells+z<q*j.cells+j.cells:=by omega
         _=(q+1)*j.cells:=by rw [bD];omega
         _≤n*j.cells:=bT _ (by omega)
       have e0:(de j.zero.cells n++de j.zero.cells (grownCap w n 0 e-n)).getD (q*j.cells+z) undef=j.zero.cells[(q*j.cells+z) % j.zero.cells.size]! := by
        simp [n_,de,gT,Ξ]
       rw [e0,gT]
       have e1:(q*j.cells+z) % j.cells=z:=by rw [mL,zH];exact zG iq
       rw [e1];have h2:=hz.2 z (by omega)
       have e2:j.zero.cells[z]! = j.zero.cells.getD z undef:=by
        have:z<j.zero.cells.size:=by omega
        simp [this]
       have e3:((gl n ((bn (bQ j.zero)).map nz)).getD q []).getD z .χ=nz ((bn (bQ j.zero)).getD z .χ):=by
        have vO:z<(bn (bQ j.zero)).length:=by omega
        simp [aY,hq,vO]
       rw [e2,e3];refine ⟨h2.1,yv (mj (dJ.1 gw _ ?_) h2.2)⟩;rw [fk,bO (show z<(bn (bQ j.zero)).length by omega)];exact eH _
   ·cases h
  ·cases h
 ·cases h
def XV {t:Nat} {x:AV} {vx:Value} {hi:Option AV} {vhi:Option Value} (hT:bB P T) (hI:Inv w F β st.H) (hx:Rd w F β x vx) (kp:uy hi vhi w F β) (h:Ib T t x hi st k) :
  cG P (do pure (.value (←kF t vx none vhi none))) w F β st k:=by
 unfold Ib at h;split at h
 ·rename_i i id kh nh bj;split at h
  ·rename_i e he;have hu:=(hT _ _ bj).slice he;cases vhi with
   |none=>exact kp.elim
   |some v1 =>
    cases (show Rd w F β _ v1 from kp).bA;split at h
    ·rename_i j hj;have aZ:=(hT _ _ hj).j0 w;split at h
     ·rename_i E K rows hc;obtain ⟨Qf,m,rfl,hm,R,rfl,hk⟩:=cond_prop h
      have hid:id<1000:=by
       simp only [bM] at Qf;simpa using Qf.2
      have bu:=eE hc;obtain ⟨a,n,c,aj,rfl⟩:=hx.jo
      have bc:n=rows.length→rows.length≤c→(kF t (.slice a n c) none (some (.int kh (m:Int))) none).run P w=.ok (.slice a m c) w:=fun hn fc=>by
       have hb:=wD (P:=P) (w:=w) (is:=true) (lo:=none) (hi:=some (.int kh (m:Int))) (len:=rows.length) (cap:=c) (l:=0) (h:=m) (.inl ⟨rfl,rfl⟩) (.inr ⟨_,rfl⟩) (Nat.zero_le _) hm fc;subst hn
       have hs:(kF t (.slice a rows.length c) none (some (.int kh (m:Int))) none).run P w=.ok (.slice (if c=0 then a else a.map (·.add (0*j.cells))) (m-0) (c-0)) w:=by
        simp [kF,Instr.slice,run_underlying hu,hb,aZ]
       rw [hs]
       have:(if c=0 then a else a.map (·.add (0*j.cells)))=a:=by
        split
        ·rfl
        ·cases a<;>simp [Addr.add]
       rw [this];simp
      rcases hI.holds _ _ bu with ⟨rfl,a',hv⟩|⟨g,cap,cur,hv,ig,hg,hn,fG,eO,hK,hr⟩
      ·rw [aj] at hv;cases hv
       have mY:m=0:=by simpa using hm
       subst mY;refine cG.value (bc rfl (bm _)) ⟨_,_,F,fun q=>if q=id then .slice a 0 0 else β q,hk,.o (by simp),ow (v:=.slice a 0 0) hid hI rfl ⟨rfl,fun _=>(by first|exact bm _|exact jt _)⟩ rfl (bm _) (fun _ _ _=>rfl) (fun _ _ _ _ _ _=>rfl) (fun b hb=>?_) (.inl ⟨by simp,a,by simp⟩)⟩;cases a<;>simp [bF] at hb
      ·rw [aj] at hv;cases hv;refine cG.value (bc rfl hn) ⟨_,_,F,fun q=>if q=id then .slice (some ⟨g,0,none⟩) m c else β q,hk,.o (by simp),ow (v:=.slice (some ⟨g,0,none⟩) m c) hid hI rfl ⟨rfl,fun _=>(by first|exact bm _|exact jt _)⟩ rfl (bm _) (fun _ _ _=>rfl) (fun _ _ _ _ _ _=>rfl) (fun b hb=>.inr ⟨_,bu,?_⟩) (.inr ?_)⟩
       ·rw [aj];simpa [bF] using hb
       ·have hlen:(rows.take m).length=m:=by simp;omega
        have nT:∀q,q<m→(rows.take m).getD q []=rows.getD q []:=fun q hq=>by simp [aY,hq]
        refine ⟨g,c,cur,by simp [hlen],ig,hg,by omega,fG,eO,fun q hq=>?_,fun q z hq hz=>?_⟩
        ·rw [hlen] at hq;rw [nT q hq];exact hK q (by omega)
        ·rw [hlen] at hq;rw [nT q hq];exact hr q z (by omega) hz
     ·cases h
    ·cases h
  ·cases h
 ·cases h
def Db {fs xs cs:List AV} {us vs ws:Array Value} (hs:us.size=fs.length) (hl:vs.size=xs.length) (agC:ws.size=cs.length) (hu:∀i,i<fs.length→Rd w F β (fs.getD i .χ) (us.getD i undef))
  (hv:∀i,i<xs.length→Rd w F β (xs.getD i .χ) (vs.getD i undef)) (hw:∀i,i<cs.length→Rd w F β (cs.getD i .χ) (ws.getD i undef)) :
  ∀i,i<(fs++(xs++cs)).length→Rd w F β ((fs++(xs++cs)).getD i .χ) ((us++vs++ws).getD i undef):=by
 intro i hi;simp only [cZ] at hi
 have e1:(fs++(xs++cs)).getD i .χ=if i<fs.length then fs.getD i .χ else if i<fs.length+xs.length then xs.getD (i-fs.length) .χ else cs.getD (i-fs.length-xs.length) .χ:=by
  simp only [aY,fW];by_cases h1:i<fs.length
  ·simp [h1]
  ·by_cases h2:i<fs.length+xs.length
   ·simp [h1,h2,show i-fs.length<xs.length by omega]
   ·simp [h1,h2,show ¬i-fs.length<xs.length by omega]
 have e2:(us++vs++ws).getD i undef=if i<fs.length then us.getD i undef else if i<fs.length+xs.length then vs.getD (i-fs.length) undef else ws.getD (i-fs.length-xs.length) undef:=by
  simp only [j3,n_,qS,hs,hl];by_cases h1:i<fs.length
  ·simp [h1,show i<fs.length+xs.length by omega]
  ·by_cases h2:i<fs.length+xs.length
   ·simp [h1,h2]
   ·simp [h1,h2,Nat.sub_sub]
 rw [e1,e2];by_cases h1:i<fs.length
 ·rw [if_pos h1,if_pos h1];exact hu i h1
 ·rw [if_neg h1,if_neg h1];by_cases h2:i<fs.length+xs.length
  ·rw [if_pos h2,if_pos h2];exact hv _ (by omega)
  ·rw [if_neg h2,if_neg h2];exact hw _ (by omega)
def XJ {f:AV} {vf:Value} {xs:List AV} {vs:Array Value} (hI:Inv w F β st.H) (hf:Rd w F β f vf) (hl:vs.size=xs.length)
  (hv:∀i,i<xs.length→Rd w F β (xs.getD i .χ) (vs.getD i undef)) (h:Dm P f xs st k) :
  cG P (do let d ←kW vf vs;invoke d.target d.args) w F β st k:=by
 unfold Dm at h;split at h
 ·rename_i g fs cs;obtain ⟨⟨fn,c,dj,dg,uR⟩,hp⟩:=h;obtain ⟨us,ws,rfl,hs,dL,hu,hw⟩:=hf.lT
  have pF : ¬ fn.name = "runtime.NumGoroutine" := by simpa using dg
  refine .inr (.inr (.inl ⟨g,us++vs++ws,by simp [kW,invoke,callFunc,dj,pF,uR],?_⟩));refine Calls.mono (hp w F β (us++vs++ws) hI ?_ (Db hs hl dL hu hv hw)) ?_
  ·simp [hs,hl,dL]
  ·rintro e w' ⟨v,rfl,r,av,F',aw,hk,hr,he⟩;exact ⟨v,rfl,r,av,F',aw,hk,hr,he⟩
 ·rename_i l;obtain ⟨us,ws,rfl,hs,dL,_,_⟩:=hf.lT;have e1:us=#[]:=qR (by simpa using hs);have e2:ws=#[]:=qR (by simpa using dL);subst e1;subst e2;obtain ⟨fn,tmps,assign,body,hy,hR⟩:=h.2 w F β vs hI hl hv;exact .inr (.inr (.inr ⟨l,fn,tmps,assign,body,by simpa [kW,invoke] using hy,hR⟩))
 ·cases h
def XI {f:Operand} {args:Array Operand} {argTypes:Array TypeId} {ρ:Operand→AV} {a:Act} {type:TypeId} (hI:Inv w F β st.H) (hf:Rd w F β (ρ f) (a.eval f))
  (lA:∀i,i<(args.toList.map ρ).length→Rd w F β ((args.toList.map ρ).getD i .χ) ((args.map a.eval).getD i undef)) (h:Dm P (ρ f) (args.toList.map ρ) st k) :
  cG P (do let d ←resolve a.eval { callee:=.value f,args:=args,argTypes:=argTypes } type;invoke d.target d.args) w F β st k:=by
 have e:(do let d ←resolve a.eval { callee:=.value f,args:=args,argTypes:=argTypes } type;invoke d.target d.args:Sem Next)=(do let d ←kW (a.eval f) (args.map a.eval);invoke d.target d.args):=rfl;rw [e];exact XJ hI hf (by simp) lA h
def XF {args:Array Operand} {argTypes:Array TypeId} {a:Act} {type:TypeId} {d:Nat} {f:Nat→AV} (hd:d<1000) (hT:bB P T) (hI:Inv w F β st.H) (bx:∀x,x∈args→Rd w F β (ev f x) (a.eval x))
  (h:match argTypes.toList,args.toList.map (ev f) with
   |[t,t'],[s,x]=>bif aG t t' then xp T t t' s x d st k else match x with
    |.v (.string _)=>xp T t t' s x d st k
    |_=>Dl T t t' s x d st k
   |_,_=>False) :
  cG P (do let d ←resolve a.eval { callee:=.builtin .append,args:=args,argTypes:=argTypes } type;invoke d.target d.args) w F β st k:=by
 split at h
 ·rename_i t t' s x ht hx;obtain ⟨l,rfl⟩:∃l:List Operand,args=l.toArray:=⟨args.toList,by simp⟩;obtain ⟨lt,rfl⟩:∃l:List TypeId,argTypes=l.toArray:=⟨argTypes.toList,by simp⟩;simp only at ht hx;subst ht
  match l,hx with
  |[o1,o2],hx =>
   simp only [eT,List.map_nil,CP,and_true] at hx;obtain ⟨rfl,rfl⟩:=hx;cases hb:aG t t' with
   |true =>
    rw [hb] at h;have:=PB hd hT hI (bx o1 (by simp)) (bx o2 (by simp)) h type;unfold cG at this ⊢;simpa [resolve,invoke,builtin] using this
   |false =>
    rw [hb] at h;simp only [cond_false] at h;split at h
    ·have:=PB hd hT hI (bx o1 (by simp)) (bx o2 (by simp)) h type;unfold cG at this ⊢;simpa [resolve,invoke,builtin] using this
    ·have:=XD hd hT hI (bx o1 (by simp)) (bx o2 (by simp)) h type;unfold cG at this ⊢;simpa [resolve,invoke,builtin] using this
 ·cases h
def XN {s t id:Nat} {vx:Value} (hT:bB P T) (hI:Inv w F β st.H) (hx:Rd w F β (.o id) vx) (h:H7 T s t id st k) :
  cG P (do pure (.value (←convert s t vx))) w F β st k:=by
 unfold H7 at h;split at h
 ·rename_i i hi;split at h
  ·rename_i e he;split at h
   ·rename_i j hj;split at h
    ·rename_i h8;have dy:=(cond_prop h).1;replace h:=(cond_prop h).2;obtain rfl:=cA dy;split at h
     ·rename_i E K rows hc;obtain ⟨aS,hk⟩:=h;have hu:=(hT _ _ hi).slice he;have Rx:=(hT _ _ hj).int h8;have hm:=eE hc;obtain ⟨a,n,c,aj,rfl⟩:=hx.jo
      rcases hI.holds _ _ hm with ⟨h0,_⟩|⟨g,cap,cur,hv,ig,hg,hn,fG,hs,hK,hr⟩
      ·exact absurd h0 aS
      rw [aj] at hv;cases hv
      have h0:aG c 0=false:=by cases c<;>first|rfl|omega
      have hblk:bF (β id)=some g:=by rw [aj];simp [bF,h0]
      have cY:br β st.H g:=⟨id,_,hm,hblk⟩;let w':=w.freeze ⟨g,cur.size,none⟩ 1
      have rH:(markStringish ⟨g,0,none⟩).run P w=.ok () w':=by
       have:w.shape? g=some (E,cur.size):=by simp [World.shape?,hg]
       simp [markStringish,this,w']
      have bc:(convert s s (.slice (some ⟨g,0,none⟩) rows.length c)).run P w=.ok (.slice (some ⟨g,0,none⟩) rows.length c) w':=by
       simp [convert,run_underlying hu,run_underlying Rx,rH]
      have xP:w'.heap[g]?=some (.cells cur E (cur.size,cur.size+1)):=QB hg;have gx:∀b,b≠g→w'.heap[b]?=w.heap[b]?:=fun b hb=>QA (fun e=>hb e.symm);have hF:∀b,F b→w'.heap[b]?=w.heap[b]?:=fun b hb=>gx b fun e=>hI.apart g cY (e▸hb)
      have aZ:w'.heap.size=w.heap.size:=by simp [w',World.freeze]
      have agP:∀o,w'.cell? ⟨g,o,none⟩=w.cell? ⟨g,o,none⟩:=fun o=>by
       rw [cell_of_row w' g o cur E _ xP,cell_of_row w g o cur E _ hg]
      let F2:Nat→Prop:=fun b=>F b∨bF (β id)=some b
      have Rk:bh w' F2 (.s rows) (.slice (some ⟨g,0,none⟩) rows.length c):=by
       refine .s (off:=0) (k:=K) (u:=fun i j=>cur.getD (i*K+j) undef) (.inr hblk) hn fG hK (fun i j hi hj=>?_) (fun i j hi hj=>(hr i j hi hj).1) fun i j hi hj=>(hr i j hi hj).2.frame hF fun _ h=>.inl h
       have:i*K+j<cur.size:=by
        rw [hs]
        calc i*K+j<i*K+K:=by omega
         _=(i+1)*K:=by rw [bD];omega
         _≤c*K:=bT _ (by omega)
       rw [iZ,cell_of_row w' g _ cur E _ xP];simp [this]
      have hz:∀u,Rd w' F2 β (.o id) u→Rd w' F2 β (.s rows) u:=fun u hu=>by
       obtain ⟨a',n',c',h1,rfl⟩:=hu.jo;rw [aj] at h1;cases h1;exact .i Rk
      have up:∀{x u},Rd w F β x u→Rd w' F2 β x u:=fun h=>h.frame hF fun _ h=>.inl h
      have lY:Inv w' F2 β (mV id rows st.H):=by
       refine ⟨fun b hb=>by rw [aZ];exact hb.elim (hI.bW b) fun hb=>hI.fj ⟨id,_,hm,hb⟩,fun i c2 h=>?_,z8 hI.keys,fun b ⟨i,c2,h,hb⟩ Ak=>?_,fun i c2 i' xi b h h' hb aH=>?_,hI.eN.frame hF fun _ h=>.inl h⟩
       ·obtain ⟨pB,c3,h3,rfl⟩:=kj h;have hh:=hI.holds i c3 h3;have aao:∀b,bF (β i)=some b→w'.heap[b]?=w.heap[b]?:=fun b hb=>gx b fun e=>pB (hI.dR i c3 id _ b h3 hm hb (by rw [hblk,e]));have oE:=nQ (F':=F2) hF (fun _ h=>.inl h) aao hh;cases c3 with
        |own E' K' r=>exact oE
        |mp ag r=>exact oE
        |si s pos=>exact oE
        |lp l e R L =>
         obtain ⟨fn,tmps,D,hb,vg,qz,vG⟩:=oE;refine ⟨fn,tmps,D,hb,vg,qz,fun p hp=>?_⟩;obtain ⟨q,hq,rfl⟩:=cV.1 hp;exact pP hz (fun _ _=>rfl) 2 (vG q hq)
        |box cells =>
         obtain ⟨b,cs,e,hb,vg,JR,Y1,vG⟩:=oE;refine ⟨b,cs,e,hb,vg,by simpa using JR,fun j hj=>Y1 j (by simpa using hj),fun j hj=>?_⟩
         have hj:j<cells.length:=by simpa using hj
         have:(cells.map (sb (.s rows) 1 id)).getD j .χ=sb (.s rows) 1 id (cells.getD j .χ):=by simp [aY,hj]
         rw [this];exact pP hz (fun _ _=>rfl) 1 (vG j hj)
       ·obtain ⟨pB,c3,h3,_⟩:=kj h
        rcases Ak with Ak|Ak
        ·exact hI.apart b ⟨i,c3,h3,hb⟩ Ak
        ·exact pB (hI.dR i c3 id _ b h3 hm hb Ak)
       ·obtain ⟨_,c3,h3,_⟩:=kj h;obtain ⟨_,c4,h4,_⟩:=kj h';exact hI.dR i c3 i' c4 b h3 h4 hb aH
      have vD:∀b,br β (mV id rows st.H) b→br β st.H b:=fun b ⟨i,c2,h,hb⟩=>by
       obtain ⟨_,c3,h3,_⟩:=kj h;exact ⟨i,c3,h3,hb⟩
      refine cG.value bc ⟨_,_,F2,β,hk,.i Rk,⟨rfl,⟨rfl,fun _=>(by first|exact bm _|exact jt _)⟩,rfl,Nat.le_of_eq aZ.symm,fun b _ bw=>gx b fun e=>bw (e▸cY),fun _ h=>.inl h,fun b hb=>?_,fun b hb=>.inr (vD b hb),fun t u hu=>pP hz (fun _ _=>rfl) 2 (up hu),lY,fun _ _=>rfl⟩⟩;exact hb.imp (fun h=>h) fun h=>.inr ⟨id,_,hm,h⟩
     ·cases h
    ·cases h
   ·cases h
  ·cases h
 ·cases h
def XL {t:Nat} {x:AV} {vx:Value} (hT:bB P T) (hI:Inv w F β st.H) (hx:Rd w F β x vx) (h:Dn T t x st k) (ty:TypeId) :
  cG P (do pure (.value (←rY #[t] ty #[vx]))) w F β st k:=by
 unfold Dn at h;split at h
 ·rename_i i hi;split at h
  ·rename_i e he;have hu:=(hT _ _ hi).slice he;split at h
   ·rename_i j hj;split at h
    ·rename_i id Kw d;split at h
     ·rename_i E K rows hc;obtain ⟨hb,R,rfl,hk⟩:=cond_prop h;simp only [bM] at hb;obtain ⟨⟨hK,An⟩,bK,hlen,gw⟩:=hb;have hK:K=j.cells:=cA hK;have An:Kw=K:=cA An;have hlen:(bn (bQ j.zero)).length=j.cells:=cA hlen;subst An;have hm:=eE hc;obtain ⟨a,a',n,c,aj,hd,ha,rfl⟩:=hx.ub;have hz:=fun w' F'=>nD (ml w' F' j.zero β) bK
      have gT:j.zero.cells.size=j.cells:=by rw [(hz w F).1,hlen]
      have hn:n=rows.length:=by
       rcases qI (hI.holds _ _ hm) with ⟨rfl,a2,hv⟩|⟨g,cap,hv,_,ig⟩
       iterate 2 (rw [aj] at hv;cases hv;rfl)
      subst hn;by_cases h0:rows.length-d=0
      ·have bc:(rY #[t] ty #[.slice a' (rows.length-d) (c-d)]).run P w=.ok (.tuple #[]) w:=by
        rw [h0];cases a'<;>simp [rY,run_underlying hu]
       refine cG.value bc ⟨_,_,F,β,hk,.i (.t rfl fun i hi=>by simp at hi),?_⟩;rw [h0,List.replicate_zero,sd,OD (by omega)];exact sM hI hm rfl ⟨rfl,fun _=>bm _⟩ rfl rfl (fun _ _=>rfl) (hI.holds _ _ hm)
      ·rcases hI.holds _ _ hm with ⟨rfl,_⟩|⟨g,cap,cur,hv,ig,hg,hn,fG,hs,xI,hr⟩
       ·simp at h0
       ·rw [aj] at hv;cases hv
        have nI:a'=some ⟨g,d*Kw,none⟩:=by rw [ha (by omega)];simp [fC]
        subst nI
        have pc:aG c 0=false:=by cases c<;>first|rfl|omega
        have ho:br β st.H g:=⟨id,_,hm,by rw [aj];simp [bF,pc]⟩
        have hdK:d*Kw+(rows.length-d)*Kw=rows.length*Kw:=by rw [←bD];congr 1;omega
        have Zy:rows.length*Kw≤c*Kw:=bT _ hn;let zs:=de j.zero.cells (rows.length-d)
        have lF:zs.toList.length=(rows.length-d)*Kw:=by simp only [zs,kE,GU,gT,hK]
        have eF:∀x,x∈zs.toList→x.oneCell'=true:=fun x hx=>by
         simp only [zs,de,VN,cV] at hx;obtain ⟨q,hq,rfl⟩:=hx
         have pH:0<j.zero.cells.size:=by
          have:q∈lO ((rows.length-d)*j.zero.cells.size):=by simpa using hq
          rcases nw j.zero.cells.size with h|h
          ·rw [h] at this;simp at this
          ·exact h
         have Ξ:=p6 q pH;have h2:=((hz w F).2 (q % j.zero.cells.size) (by omega)).1;simpa [Ξ] using h2
        have dy:=run_storeCells_at P g (d*Kw) E zs.toList 0 cur w hg (by rw [lF];omega) eF;simp only [kJ] at dy;have J':=(hT _ _ hj).qL w
        have bc:(rY #[t] ty #[.slice (some ⟨g,d*Kw,none⟩) (rows.length-d) (c-d)]).run P w=.ok (.tuple #[]) (w.setRow g (cur.toList.take (d*Kw)++zs.toList++cur.toList.drop (d*Kw+zs.toList.length)).toArray):=by
         obtain ⟨q,hq⟩:∃q,rows.length-d=q+1:=⟨rows.length-d-1,by omega⟩;have Rr:=dy;simp only [zs,hq] at Rr ⊢;simp [rY,run_underlying hu,J',Rr]
        refine cG.value bc ⟨_,_,F,β,hk,.i (.t rfl fun i hi=>by simp at hi),?_⟩;have gx:∀b cs,b≠g→(w.setRow g cs).heap[b]?=w.heap[b]?:=fun b cs hb=>setRow_other w g b cs hb;refine sM hI hm rfl ⟨rfl,fun _=>bm _⟩ rfl (by simp) (fun b' aH=>gx b' _ (fun e=>aH (by rw [aj,e];simp [bF,pc]))) (.inr ?_);have ha:∀cs,fy F w (w.setRow g cs):=fun cs b hb=>gx b cs fun e=>hI.apart g ho (e▸hb)
        have vz:(rows.take d++gl (rows.length-d) ((bn (bQ j.zero)).map nz)).length=rows.length:=by simp;omega
        have vH:(rows.take d).length=d:=by simp;omega
        have mh:(cur.toList.take (d*Kw)).length=(rows.take d).length*Kw:=by simp only [da,kE,vH];omega
        refine ⟨g,c,_,by rw [aj,vz],ig,setRow_heap w g cur _ E _ hg,by rw [vz];exact hn,fG,?_,LO (fun q hq=>?_) (fun r cj=>?_),fun q z hq iq=>?_⟩
        ·simp only [j6,cZ,da,lP,kE,lF];omega
        ·have AJ:q<d:=by omega
         have:(rows.take d).getD q []=rows.getD q []:=by simp [aY,AJ]
         rw [this];exact xI q (by omega)
        ·rw [List.eq_of_mem_replicate cj,au,hlen,hK]
        ·have below:∀(m n z:Nat),m<n→z<Kw→m*Kw+z<n*Kw:=fun m n z h hz=>by
          calc m*Kw+z<m*Kw+Kw:=by omega
           _=(m+1)*Kw:=by rw [bD];omega
           _≤n*Kw:=bT _ h
         have h1:∀q z,q<(rows.take d).length→z<Kw→((cur.toList.take (d*Kw)).getD (q*Kw+z) undef).oneCell'=true∧bh w F (((rows.take d).getD q []).getD z .χ) ((cur.toList.take (d*Kw)).getD (q*Kw+z) undef):=fun q z hq hz=>by
          rw [vH] at hq;have h3:=below q d z hq hz
          have h4:q*Kw+z<cur.size:=by omega
          have e1:(rows.take d).getD q []=rows.getD q []:=by simp [aY,hq]
          have e2:(cur.toList.take (d*Kw)).getD (q*Kw+z) undef=cur.getD (q*Kw+z) undef:=by simp [aY,h3,h4]
          rw [e1,e2];exact hr q z (by omega) hz
         have h2:∀q z,q<(gl (rows.length-d) ((bn (bQ j.zero)).map nz)).length→z<Kw→(zs.toList.getD (q*Kw+z) undef).oneCell'=true∧bh w F (((gl (rows.length-d) ((bn (bQ j.zero)).map nz)).getD q []).getD z .χ) (zs.toList.getD (q*Kw+z) undef):=fun q z hq RM=>by
          simp only [V'] at hq;have h3:=below q (rows.length-d) z hq RM
          have e3:zs.toList.getD (q*Kw+z) undef=j.zero.cells.getD z undef:=by
           have h5:(q*Kw+z) % j.zero.cells.size=z:=by rw [gT,←hK,mL,zH];exact zG RM
           have h6:q*Kw+z<(rows.length-d)*j.zero.cells.size:=by rw [gT,←hK];exact h3
           have h7:z<j.zero.cells.size:=by omega
           simp [zs,de,aY,h6,h5,h7]
          have e4:((gl (rows.length-d) ((bn (bQ j.zero)).map nz)).getD q []).getD z .χ=nz ((bn (bQ j.zero)).getD z .χ):=by
           have h5:z<(bn (bQ j.zero)).length:=by omega
           simp [aY,hq,h5]
          rw [e3,e4];have h4:=(hz w F).2 z (by omega);refine ⟨h4.1,yv (mj (dJ.1 gw _ ?_) h4.2)⟩;rw [fk,bO (show z<(bn (bQ j.zero)).length by omega)];exact eH _
         have:=FY (zs:=cur.toList.drop (d*Kw+zs.toList.length)) (Q:=fun x u=>u.oneCell'=true∧bh w F x u) mh (by simp only [V'];exact lF) h1 h2 q z hq iq;rw [sy _ (cur.toList.take (d*Kw)++zs.toList++cur.toList.drop (d*Kw+zs.toList.length)) rfl];exact ⟨this.1,this.2.frame (ha _) fun _ h=>h⟩
     ·cases h
    ·cases h
   ·cases h
  ·cases h
 ·cases h
def XK {args:Array Operand} {argTypes:Array TypeId} {a:Act} {type:TypeId} {f:Nat→AV} (hT:bB P T) (hI:Inv w F β st.H) (bx:∀x,x∈args→Rd w F β (ev f x) (a.eval x))
  (h:match argTypes.toList,args.toList.map (ev f) with
   |[t],[x]=>Dn T t x st k
   |_,_=>False) :
  cG P (do let d ←resolve a.eval { callee:=.builtin .clear,args:=args,argTypes:=argTypes } type;invoke d.target d.args) w F β st k:=by
 split at h
 ·rename_i t x e1 e2
  have HX:argTypes=#[t]:=by rw [←Array.toArray_toList (xs:=argTypes),e1]
  have hl:args.size=1:=by have:=congrArg List.length e2;simpa using this
  have ex:x=ev f args[0]:=by
   have:=congrArg (fun l=>l[0]?) e2;simp [hl] at this;exact this.symm
  have ea:args.map a.eval=#[a.eval args[0]]:=by
   apply Array.ext
   ·simp [hl]
   ·intro i h1 h2
    have:i=0:=by simp at h2;omega
    subst this;simp
  have e:(do let d ←resolve a.eval { callee:=.builtin .clear,args:=args,argTypes:=argTypes } type;invoke d.target d.args:Sem Next)=builtin .clear argTypes type (args.map fun|.const _=>true|_=>false) (args.map a.eval):=rfl;rw [e,ea,HX];exact XL hT hI (by rw [ex];exact bx _ (by simp)) h type
 ·cases h
def XT {t d:Nat} {x:AV} {vx:Value} (hd:d<1000) (hT:bB P T) (hI:Inv w F β st.H) (hx:Rd w F β x vx) (h:Ia T t x d st k):cG P (do pure (.value (←Instr.range t vx))) w F β st k:=by
 unfold Ia at h;split at h
 ·rename_i i s hi;cases hx.bA;split at h
  ·rename_i hk;have hu:=(hT _ _ hi).str hk;have bc:=run_range_string w t s hu;have eu:(w.iter s 0).heap[w.heap.size]?=some (.stringIter s 0):=World.iter_heap w s 0;have hb:=sz w (.stringIter s 0);refine cG.value bc ⟨_,_,F,_,h,.b (by simp),ow (v:=.pointer (some ⟨w.heap.size,0,none⟩)) hd hI hb.os hb.tape hb.output hb.size (fun b Ξ _=>hb.block b Ξ) (fun i c b _ hm jQ=>hb.block b (hI.fj ⟨i,c,hm,jQ⟩)) (fun b jQ=>?_) ?_⟩
   ·simp [bF] at jQ;left;omega
   ·exact ⟨w.heap.size,by simp,eu⟩
  ·cases h
 ·cases h
def XS {x:AV} {vx:Value} {Er:Bool} {ty:TypeId} (hI:Inv w F β st.H) (hx:Rd w F β x vx) (h:H_ x Er st k):cG P (do pure (.value (←CJ vx Er ty))) w F β st k:=by
 unfold H_ at h;split at h
 ·rename_i id;split at h
  ·rename_i s pos hc;have hm:=eE hc;obtain ⟨b,aj,hh⟩:=hI.holds _ _ hm;obtain ⟨e9,hb,rfl⟩:=hx.lh;rw [aj] at hb;cases hb
   have jQ:bF (β id)=some b:=by rw [aj];rfl
   have Ξ:=jM hh;by_cases hp:pos<s.size
   ·have bc:(CJ (.pointer (some ⟨b,0,none⟩)) true ty).run P w=.ok (.tuple #[.bool true,.int .i64 (pos:Int),.int .i32 ((Hf s pos).1:Int)]) { w with heap:=w.heap.setIfInBounds b (.stringIter s (pos+(Hf s pos).2)) }:=by
     simp only [CJ,getObj,setObj,jK,CV,hh,Result.andThen,hp,if_true];simp [goInt,CV,hh]
    refine cG.value bc ⟨_,_,F,β,h.1 hp,.i (.t rfl fun i hi=>?_),sM hI hm rfl ⟨rfl,fun _=>bm _⟩ rfl (by simp) (fun b' aH=>?_) ?_⟩
    ·match i,hi with
     |0,_=>exact .v (.inl rfl)
     |1,_=>exact .v (.inl rfl)
     |2,_=>exact .v (.inl rfl)
    ·exact uh fun e=>aH (by rw [jQ,e])
    ·exact ⟨b,aj,by simp [Ξ]⟩
   ·have bc:(CJ (.pointer (some ⟨b,0,none⟩)) true ty).run P w=.ok (.tuple #[.bool false]) w:=by
     simp [CJ,getObj,CV,hh,hp]
    refine cG.value bc ⟨_,_,F,β,h.2 hp,.i (.t rfl fun i hi=>?_),Ext.refl hI⟩
    match i,hi with
    |0,_=>exact .v (.inl rfl)
  ·cases h
 ·cases h
def UG {o:Oper} {a:Act} (hT:bB P T) (hI:Inv w F β st.H) (bx:∀x,x∈o.op.operands→Rd w F β (ev st.f x) (a.eval x)) (h:step P T o st k):cG P (execOp a.eval o) w F β st k:=by
 have xN:=(cond_prop h).1;replace h:=(cond_prop h).2
 have hd:o.dst.getD 0<1000:=by simpa using xN
 clear xN;have quiet:lK P T o (ev st.f) st.H (fun r=>k r st)→cG P (execOp a.eval o) w F β st k:=fun h=>acx hI (Gk hT hI bx h);obtain ⟨dst,op,type,pos,after,guard⟩:=o;cases op<;>simp only [Op.operands] at bx
 case alloc t=>simp only [execOp];exact XC hd hT hI h
 case box t x=>simp only [execOp];exact XG hd hI (bx x (by simp)) h
 case makeMap t r =>
  cases r with
  |none=>simp only [execOp];exact XQ hd hT hI h
  |some r=>exact quiet h
 case range t x=>simp only [execOp];exact XT hd hT hI (bx x (by simp)) h
 case next x s=>simp only [execOp];exact XS hI (bx x (by simp)) h
 case mapUpdate t m i y=>simp only [execOp];exact PD hT hI (bx m (by simp)) (bx i (by simp)) (bx y (by simp)) h
 case insert t m i y=>simp only [execOp];exact PD hT hI (bx m (by simp)) (bx i (by simp)) (bx y (by simp)) h
 case store t x y=>simp only [execOp];exact XX hT hI (bx x (by simp)) (bx y (by simp)) h
 case buildSlice t n parts =>
  rcases h with h|h
  ·exact quiet h
  ·simp only [execOp];exact XH hd hT hI (EW (ev st.f) a.eval parts) (EX fun x hx=>bx x (by simpa using hx)) h
 case slice t x lo hi mx =>
  cases mx with
  |none =>
   cases lo with
   |some l=>exact quiet h
   |none =>
    simp only [y_] at h;split at h
    ·simp only [execOp];refine XV (vhi:=hi.map a.eval) hT hI (bx x (by simp)) ?_ h;cases hi with
     |none=>exact Hd
     |some l=>exact bx l (by simp)
    ·exact quiet h
  |some m =>
   have h:Dr T t (ev st.f x) (lo.map (ev st.f)) (hi.map (ev st.f)) (some (ev st.f m)) (dst.getD 0) st k:=by cases lo<;>exact h
   simp only [execOp];refine XU (vlo:=lo.map a.eval) (vhi:=hi.map a.eval) (vmx:=some (a.eval m)) hd hT hI (bx x (by simp)) ?_ ?_ ?_ h
   ·cases lo with
    |none=>exact Hd
    |some l=>exact bx l (by simp)
   ·cases hi with
    |none=>exact Hd
    |some l=>exact bx l (by simp)
   ·exact bx m (by simp)
 case makeSlice t l c =>
  rcases h with h|h
  ·exact quiet h
  ·simp only [execOp];exact XR hd hT hI (bx l (by simp)) (bx c (by simp)) h
 case convert s t x =>
  simp only [y_] at h;split at h
  ·rename_i id hid;simp only [execOp];have hx:=bx x (by simp);rw [hid] at hx;exact XN hT hI hx h
  ·exact quiet h
 case call c =>
  obtain ⟨callee,args,argTypes⟩:=c
  have lA:∀i,i<(args.toList.map (ev st.f)).length→Rd w F β ((args.toList.map (ev st.f)).getD i .χ) ((args.map a.eval).getD i undef):=fun i hi=>by
   simp at hi;simpa [aY,hi] using bx args[i] (by simp [oU])
  cases callee with
  |builtin b =>
   cases b
   case append=>simp only [execOp];exact XF hd hT hI (fun x hx=>bx x (by simp [oU,hx])) h
   case copy=>simp only [execOp];exact XO hT hI (fun x hx=>bx x (by simp [oU,hx])) h
   case clear=>simp only [execOp];exact XK hT hI (fun x hx=>bx x (by simp [oU,hx])) h
   all_goals exact quiet h
  |value f=>simp only [execOp];exact XI hI (bx f (by simp [oU])) lA h
  |invoke r m=>exact quiet h
 all_goals exact quiet h
def ad5 {o:Oper} {a:Act} (hT:bB P T) (hI:Inv w F β st.H) (hf:∀t,Rd w F β (st.f t) (a.tmps.getD t undef)) (h:step P T o st k):cG P (execOp a.eval o) w F β st k :=
 UG hT hI (fun x _=>xx hf x) h
end
def Br (b want:Bool) (yes no:Prop):Prop :=
 match b,want with
 |true,true=>yes
 |false,false=>yes
 |true,false=>no
 |false,true=>no
def Br.y {b want:Bool} {yes no:Prop} (h:Br b want yes no) (hb:b=want):yes:=by subst hb;cases b<;>exact h
def Br.n {b want:Bool} {yes no:Prop} (h:Br b want yes no) (hb:b=!want):no:=by subst hb;cases want<;>exact h
def Br.tt {yes no:Prop} (h:yes):Br true true yes no:=h
def Br.ff {yes no:Prop} (h:yes):Br false false yes no:=h
def Br.tf {yes no:Prop} (h:no):Br true false yes no:=h
def Br.ft {yes no:Prop} (h:no):Br false true yes no:=h
def Br.yes {b want:Bool} {yes no:Prop} (hb:b=want) (h:yes):Br b want yes no:=by
 subst hb;cases b
 ·exact Br.ff h
 ·exact Br.tt h
def Br.no {b want:Bool} {yes no:Prop} (hb:b=!want) (h:no):Br b want yes no:=by
 subst hb;cases want
 ·exact Br.tf h
 ·exact Br.ft h
def Br.ite {b:Bool} {ρ:Type} {X Y:Option ρ} {r:ρ} {yes no:Prop} (h:(if b=true then X else Y)=some r) (y:b=true→X=some r→yes) (n:b=false→Y=some r→no):Br b true yes no:=by
 cases b with
 |true=>exact y rfl (by simpa using h)
 |false=>exact n rfl (by simpa using h)
def Br.cO {b:Bool} {ρ:Type} {X Y:Option ρ} {r:ρ} {yes no:Prop} (h:(if b=true then X else Y)=some r) (y:b=true→X=some r→no) (n:b=false→Y=some r→yes):Br b false yes no:=by
 cases b with
 |true=>exact y rfl (by simpa using h)
 |false=>exact n rfl (by simpa using h)
def P5 (x:AV) (k:AV→Prop):Prop :=
 match x with
 |.v a=>k (.v a)
 |.s a=>k (.s a)
 |.p a=>k (.p a)
 |.a a=>k (.a a)
 |.t a=>k (.t a)
 |.c a b c=>k (.c a b c)
 |.b a b=>k (.b a b)
 |.o a=>k (.o a)
 |.e a b c d=>k (.e a b c d)
 |.w a b c=>k (.w a b c)
 |.m a=>k (.m a)
 |.z=>k .z
 |.χ=>k .χ
def YP (x:AV) (k:AV→Prop):P5 x k=k x:=by cases x<;>rfl
def put (n:Nat) (dst:Option Nat) (st:ai) (r:AV) (K:ai→Prop):Prop :=
 match st with
 |⟨f,H⟩=>match dst with
  |none=>K ⟨f,H⟩
  |some d=>bif ej d n then P5 r fun r=>K ⟨dF f d r,H⟩ else False
def put_eq (n:Nat) (dst:Option Nat) (st:ai) (r:AV) (K:ai→Prop):put n dst st r K=match dst with
  |none=>K st
  |some d=>bif ej d n then K ⟨dF st.f d r,st.H⟩ else False:=by
 cases st;cases dst with
 |none=>rfl
 |some d=>simp only [put,YP]
def gd (n:Nat) (all:Array Oper) (o:Oper) (st:ai) (yes no:ai→Prop):Prop :=
 match st with
 |⟨f,H⟩=>match o.guard with
  |none=>yes ⟨f,H⟩
  |some (j,want)=>match (all[j]?).bind (·.dst) with
   |some d=>bif ej d n then
     match f d with
     |.v (.bool b)=>Br b want (yes ⟨dF f d (.v (.bool want)),H⟩) (no ⟨dF f d (.v (.bool (!want))),H⟩)
     |.v (.tuple _)=>no ⟨f,H⟩
     |_=>False
    else False
   |none=>False
def qm (n:Nat) (all:Array Oper) (o:Oper) (st:ai) (yes no:ai→Prop):gd n all o st yes no=match o.guard with
 |none=>yes st
 |some (j,want)=>match (all[j]?).bind (·.dst) with
  |some d=>bif ej d n then
    match st.f d with
    |.v (.bool b)=>Br b want (yes ⟨dF st.f d (.v (.bool want)),st.H⟩) (no ⟨dF st.f d (.v (.bool (!want))),st.H⟩)
    |.v (.tuple _)=>no st
    |_=>False
   else False
  |none=>False:=by cases st;rfl
def ix (P:Program) (T:TT) (n:Nat) (all:Array Oper):List Oper→ai→(ai→Prop)→Prop
 |[],st,K=>K st
 |o::os,st,K=>gd n all o st (fun st=>step P T o st fun r av=>put n o.dst av r fun gk=>ix P T n all os gk K) fun st=>put n o.dst st (.v undef) fun av=>ix P T n all os av K
class dW where
 any:Prop
abbrev dW.yes:dW:=⟨True⟩
abbrev dW.no:dW:=⟨False⟩
variable [R:dW]
structure Ctx where
 w:World
 F:Nat→Prop
 β:Nat→Value
 H:Hp
 n:Nat
 ro:Option Nat:=none
 AN:ro=none∨R.any:=by exact .inl rfl
 dl:List Deferred:=[]
def Ctx.ms (C:Ctx) (ds:List Deferred):List Deferred:=ds.take (ds.length-C.dl.length)
structure XM (C:Ctx) (ds:List Deferred) (w:World) (F:Nat→Prop) (β:Nat→Value) (H:Hp):Prop where
 x:Ext C.w C.F C.β ⟨aM,C.H⟩ w F β ⟨aM,H⟩
 m:∀d,d∈C.ms ds→∃D,d={ target:=.collected D,args:=#[] }∧C.w.heap.size≤D∧w.heap[D]?=some (.deferred (some []))∧¬F D∧¬br β H D
 nd:(C.ms ds).Nodup
 sp:∃l,ds=l++C.dl
section
variable {C:Ctx} {ds:List Deferred} {w w':World} {F F':Nat→Prop} {β aw:Nat→Value} {H H':Hp}
def Ctx.abF {d:Deferred} (h:∃l,ds=l++C.dl):C.ms (d::ds)=d::C.ms ds:=by
 obtain ⟨l,rfl⟩:=h;unfold Ctx.ms
 have e1:(d::(l++C.dl)).length-C.dl.length=l.length+1:=by simp;omega
 have e2:(l++C.dl).length-C.dl.length=l.length:=by simp
 rw [e1,e2];rfl
def Ctx.Sr (h:C.dl=[]):C.ms ds=ds:=by unfold Ctx.ms;rw [h];simp
def Ctx.Bc {l:List Deferred}:C.ms (l++C.dl)=l:=by unfold Ctx.ms;simp
def XM.inv (h:XM C ds w F β H):Inv w F β H:=h.x.inv
def Ext.no {st av:ai} (h:Ext w F β st w' F' aw av):Ext w F β ⟨aM,st.H⟩ w' F' aw ⟨aM,av.H⟩ :=
 ⟨h.os,h.tape,h.output,h.size,h.block,h.mono,h.new,h.owned,fun _ _ _=>.χ,h.inv,h.fH⟩
def XM.trans {f f':Nat→AV} (h:XM C ds w F β H) (hx:Ext w F β ⟨f,H⟩ w' F' aw ⟨f',H'⟩):XM C ds w' F' aw H' where
 x:=h.x.trans hx.no
 m d hd:=by
  obtain ⟨D,h1,h2,h3,h4,h5⟩:=h.m d hd;have Ξ:=jM h3;refine ⟨D,h1,h2,(hx.block D Ξ h5).trans h3,fun hF=>?_,fun ho=>?_⟩
  ·rcases hx.new D hF with h|h|h
   ·exact h4 h
   ·exact absurd Ξ (Nat.not_lt.2 h)
   ·exact h5 h
  ·rcases hx.owned D ho with h|h
   ·exact absurd Ξ (Nat.not_lt.2 h)
   ·exact h5 h
 nd:=h.nd
 sp:=h.sp
def XM.KD (h:XM C ds w F β H):XM C ds w F β H:=h
end
def Rel (C:Ctx) (st:ai) (a:Act) (w:World):Prop :=
 ∃F β,a.tmps.size=C.n∧True∧(∀t,Rd w F β (st.f t) (a.tmps.getD t undef))∧XM C a.defers w F β st.H
def CY (P:Program) (C:Ctx) (c:Code) (st:ai) (Q:Exit→ai→Prop):Prop :=
 ∀a w,Rel C st a w→c.wpIn (fa C.ro) 0 P (fun e a' w'=>∃av,Rel C av a' w'∧Q e av) a w
structure OU (P:Program) (n:Nat) (c:Code) (st:ai) (Q:Exit→ai→Prop):Prop where
 h:∀C:Ctx,C.n=n→CY P C (.loop c) st Q
structure C3 (P:Program) (n:Nat) (id:Nat) (ops:Array Oper) (st:ai) (K:ai→Prop):Prop where
 h:∀C:Ctx,C.n=n→CY P C (.region id ops true) st fun e av=>match e with
  |.normal=>K av
  |_=>False
def ue (P:Program) (T:TT) (n:Nat):Code→ai→(Exit→ai→Prop)→Prop
 |.skip,st,Q=>Q .normal st
 |.label _,st,Q=>Q .normal st
 |.region id ops draw,st,Q=>bif draw then C3 P n id ops st (Q .normal) else ix P T n ops ops.toList st (Q .normal)
 |.seq x y,st,Q=>ue P T n x st fun e s=>match e with
  |.normal=>ue P T n y s Q
  |e=>Q e s
 |.cond c x y,st,Q=>match c with
  |.tmp d=>bif ej d n then
    match st.f d with
    |.v (.bool b)=>Br b true (ue P T n x ⟨dF st.f d (.v (.bool true)),st.H⟩ Q) (ue P T n y ⟨dF st.f d (.v (.bool false)),st.H⟩ Q)
    |_=>False
   else False
  |.const (.bool true)=>ue P T n x st Q
  |.const (.bool false)=>ue P T n y st Q
  |_=>False
 |.block id c,st,Q=>ue P T n c st fun e s=>match e with
  |.exit i=>bif aG i id then Q .normal s else Q (.exit i) s
  |e=>Q e s
 |.loop c,st,Q=>OU P n c st Q
 |.exit id,st,Q=>Q (.exit id) st
 |.ret,st,Q=>Q .ret st
 |_,_,_=>False
section
variable {P:Program} {T:TT} {C:Ctx}
def Ext.rR {w:World} {F:Nat→Prop} {β:Nat→Value} {st:ai} {w':World} {F':Nat→Prop} {aw:Nat→Value} {av:ai} (h:Ext w F β st w' F' aw av) (f:Nat→AV) :
  Ext w F β ⟨f,st.H⟩ w' F' aw ⟨aM,av.H⟩ :=
 ⟨h.os,h.tape,h.output,h.size,h.block,h.mono,h.new,h.owned,fun _ _ _=>.χ,h.inv,h.fH⟩
def Rd.put {w:World} {F:Nat→Prop} {β:Nat→Value} {f:Nat→AV} {a:Act} {d:Nat} {r:AV} {v:Value} (hf:∀t,Rd w F β (f t) (a.tmps.getD t undef)) (hv:Rd w F β r v) (hd:d<a.tmps.size) :
  ∀t,Rd w F β (dF f d r t) ((a.put (some d) v).tmps.getD t undef):=by
 intro t;unfold dF;cases hb:aG t d with
 |true =>
  obtain rfl:=cA hb;simpa [Act.put,hd] using hv
 |false =>
  have aS:d≠t:=fun e=>by rw [e,iz] at hb;cases hb
  have:=hf t;simpa [Act.put,uh aS] using this
def zp {w:World} {F:Nat→Prop} {β:Nat→Value} {f:Nat→AV} {a:Act} {d:Nat} {b c:Bool} (hf:∀t,Rd w F β (f t) (a.tmps.getD t undef)) (hd:f d=.v (.bool b)) (hb:b=c) :
  ∀t,Rd w F β (dF f d (.v (.bool c)) t) (a.tmps.getD t undef):=by
 intro t;unfold dF;cases ht:aG t d with
 |true =>
  obtain rfl:=cA ht;subst hb;simpa [hd] using hf t
 |false=>exact hf t
def wa {n:Nat} {dst:Option Nat} {st:ai} {r:AV} {K:ai→Prop} {a:Act} {w:World} {F:Nat→Prop} {β:Nat→Value} {v:Value} (hn:C.n=n) (hs:a.tmps.size=C.n) (hd:True)
  (hf:∀t,Rd w F β (st.f t) (a.tmps.getD t undef)) (he:XM C a.defers w F β st.H) (hv:Rd w F β r v) (h:put n dst st r K):∃av,Rel C av (a.put dst v) w∧K av:=by
 rw [put_eq] at h;cases dst with
 |none=>exact ⟨st,⟨F,β,hs,hd,hf,he⟩,h⟩
 |some d =>
  obtain ⟨Ξ,hk⟩:=cond_prop h
  have Ξ:d<n:=by simpa [fY] using Ξ
  exact ⟨⟨dF st.f d r,st.H⟩,⟨F,β,by simpa [Act.put] using hs,hd,Rd.put hf hv (by omega),he⟩,hk⟩
def put_defers (a:Act) (dst:Option Nat) (v:Value):(a.put dst v).defers=a.defers:=by cases dst<;>rfl
def sC {ro:Option Nat} {m:Nat} {f:FuncId} {args:Array Value} {w:World} {R:Ending→World→Prop} (h:Calls P f args w R):CallsIn (fa ro) m P f args w R :=
 ⟨trivial,fun cs _=>let ⟨e,w',fr,r,s,x⟩:=h cs;⟨e,w',fr,r,comesIn_wide.2 s,x⟩⟩
def Uc {ro:Option Nat} {m m':Nat} {l:Nat} {f:FuncId} {tmps:Array Value} {assign body:Code} {w:World} {R:Ending→World→Prop} (h:RoundIn fD m P l f tmps assign body w R):RoundIn (fa ro) m' P l f tmps assign body w R :=
 ⟨trivial,fun c cs _=>h.2 c cs (room_wide _)⟩
def Oper.jC {o:Oper} {ro:Option Nat} {a:Act} {w:World} {N:Act→World→Prop} {Q:Exit→Act→World→Prop} {r:Result Next} (hd:∀c,o.op≠.defer c) (bc:(execOp a.eval o).run P w=r) (h:o.uponIn (fa ro) 0 P a N Q r):o.wpIn (fa ro) 0 P a w N Q :=
 ⟨fun _ _=>trivial,by rw [Oper.semAt_eq _ _ _ hd,bc];exact h⟩
def UD {o:Oper} {ρ:Operand→AV} {H:Hp} {k:AV→Prop} (h:lK P T o ρ H k):∀c,o.op≠.defer c:=fun c e=>by
 unfold lK at h;rw [e] at h;exact h
def UF {o:Oper} {st:ai} {k:AV→ai→Prop} (h:step P T o st k):∀c,o.op≠.defer c:=fun c e=>by
 have h:=(cond_prop h).2;unfold y_ at h;rw [e] at h;exact UD h c e
def rW {n:Nat} {all:Array Oper} {o:Oper} {i:Nat} {st:ai} {K:ai→Prop} {a:Act} {w:World} {Q:Exit→Act→World→Prop} {N:Act→World→Prop} (hT:bB P T) (hn:C.n=n) (ho:all[i]?=some o) (hr:Rel C st a w)
  (hN:∀st a w,Rel C st a w→K st→N a w)
  (h:gd n all o st (fun st=>step P T o st fun r av=>put n o.dst av r K) fun st=>put n o.dst st (.v undef) K):wpOpIn (fa C.ro) 0 P all Q i N a w:=by
 obtain ⟨F,β,hs,hd,hf,he⟩:=hr;have hI:Inv w F β st.H:=he.inv
 have run:∀st,st.H=st.H→(∀t,Rd w F β (st.f t) (a.tmps.getD t undef))→Inv w F β st.H→XM C a.defers w F β st.H→(step P T o st fun r av=>put n o.dst av r K)→o.wpIn (fa C.ro) 0 P a w N Q:=by
  intro st _ hf hI he h;have cX:=UF h
  rcases ad5 hT hI hf h with ⟨v,w',bc,r,av,F',aw,hk,hv,hx⟩|⟨w',bc,r,av,F',aw,hk,hv,hx⟩|⟨g,vs,bc,hc⟩|⟨l,fn,tmps,assign,body,bc,hc⟩
  ·refine Oper.jC cX bc ?_;rw [Oper.uponIn_value];obtain ⟨gk,h1,h2⟩:=wa hn hs hd (fun t=>hx.keep t _ (hf t)) (he.trans (hx.rR aM)) hv hk;exact hN _ _ _ h1 h2
  ·refine Oper.jC cX bc ?_;rw [Oper.uponIn_skip];obtain ⟨gk,h1,h2⟩:=wa hn hs hd (fun t=>hx.keep t _ (hf t)) (he.trans (hx.rR aM)) hv hk;exact hN _ _ _ h1 h2
  ·refine Oper.jC cX bc ?_;rw [Oper.uponIn_enter];refine ⟨fun h=>(by cases h),sC (hc.mono ?_)⟩;rintro e w' ⟨v,rfl,r,av,F',aw,hk,hv,hx⟩;obtain ⟨gk,h1,h2⟩:=wa hn hs hd (fun t=>hx.keep t _ (hf t)) (he.trans (hx.rR aM)) hv hk;exact hN _ _ _ h1 h2
  ·refine Oper.jC cX bc ?_;rw [Oper.uponIn_round];refine ⟨fun h=>(by cases h),Uc (hc.mono ?_)⟩;rintro e w' ⟨v,rfl,r,av,F',aw,hk,hv,hx⟩;obtain ⟨gk,h1,h2⟩:=wa hn hs hd (fun t=>hx.keep t _ (hf t)) (he.trans (hx.rR aM)) hv hk;exact hN _ _ _ h1 h2
 have skip:∀st:ai,(∀t,Rd w F β (st.f t) (a.tmps.getD t undef))→XM C a.defers w F β st.H→put n o.dst st (.v undef) K→N (a.put o.dst undef) w:=by
  intro st hf he h;obtain ⟨gk,h1,h2⟩:=wa hn hs hd hf he (.i (.v (.inr rfl)):Rd w F β (.v undef) undef) h;exact hN _ _ _ h1 h2
 unfold wpOpIn;simp only [ho];rw [qm] at h;cases hg:o.guard with
 |none =>
  rw [hg] at h
  have hw:dA o (yielded all a.tmps)=true:=by simp [dA,hg]
  rw [if_pos hw];exact run st rfl hf hI he h
 |some jw =>
  obtain ⟨j,want⟩:=jw;rw [hg] at h;simp only at h;split at h
  ·rename_i d l6;obtain ⟨Ξ,h⟩:=cond_prop h
   have Ξ:d<a.tmps.size:=by rw [hs,hn];simpa [fY] using Ξ
   have fF:=hf d
   have hy:∀v,a.tmps.getD d undef=v→yielded all a.tmps j=match v with|.bool b=>some b|_=>none:=by
    intro v hv
    have h2:a.tmps[d]?=some v:=by
     rw [←hv];simp [Ξ]
    unfold yielded;rw [l6,Option.bind_some,h2];cases v<;>rfl
   split at h
   ·rename_i b hb;rw [hb] at fF;have hv:=fF.bA;have gy:=hy _ hv;simp only at gy;by_cases iR:b=want
    ·have hw:dA o (yielded all a.tmps)=true:=by simp [dA,hg,gy,iR]
     rw [if_pos hw];exact run ⟨dF st.f d (.v (.bool want)),st.H⟩ rfl (zp hf hb iR) hI he (h.y iR)
    ·have oA:b=!want:=by cases b<;>cases want<;>first|rfl|exact absurd rfl iR
     have hw:¬dA o (yielded all a.tmps)=true:=by simp [dA,hg,gy,iR]
     rw [if_neg hw];exact ⟨fun _ _=>trivial,skip ⟨dF st.f d (.v (.bool !want)),st.H⟩ (zp hf hb oA) he (h.n oA)⟩
   ·rename_i vs hb;rw [hb] at fF;have hv:=fF.bA;have gy:=hy _ hv;simp only at gy
    have hw:¬dA o (yielded all a.tmps)=true:=by simp [dA,hg,gy]
    rw [if_neg hw];exact ⟨fun _ _=>trivial,skip st hf he h⟩
   ·cases h
  ·cases h
def agv {n:Nat} {all:Array Oper} {K:ai→Prop} {Q:Exit→Act→World→Prop} (hT:bB P T) (hn:C.n=n) (hQ:∀st a w,Rel C st a w→K st→Q .normal a w) :
  ∀(l:List Oper) (i:Nat) (st:ai) (a:Act) (w:World),(∀k,k<l.length→all[i+k]?=l[k]?)→Rel C st a w→ix P T n all l st K→wpOpsIn (fa C.ro) 0 P all Q (List.range' i l.length) a w:=by
 intro l;induction l with
 |nil=>intro i st a w _ hr h;exact hQ _ _ _ hr h
 |cons o os ih =>
  intro i st a w dv hr h
  have ho:all[i]?=some o:=by simpa using dv 0 (by simp)
  rw [List.length_cons,List.range'_succ,wpOpsIn_cons];refine rW (K:=fun st=>ix P T n all os st K) hT hn ho hr (fun st a w hr hk=>?_) h;exact ih (i+1) st a w (fun k hk=>by have:=dv (k+1) (by simp;omega);rw [show i+1+k=i+(k+1) by omega];simpa using this) hr hk
def NT {n:Nat} (hT:bB P T) (hn:C.n=n):∀(c:Code) (st:ai) (Q:Exit→ai→Prop),ue P T n c st Q→CY P C c st Q:=by
 intro c;induction c with
 |skip=>intro st Q h a w hr;exact wpIn_skip ⟨st,hr,h⟩
 |label l=>intro st Q h a w hr;exact wpIn_label ⟨st,hr,h⟩
 |region id ops draw =>
  intro st Q h a w hr;cases draw with
  |true =>
   refine wpIn_mono ((show C3 P n id ops st (Q .normal) from h).h C hn a w hr) ?_;rintro e a' w' ⟨av,cj,hq⟩
   cases e<;>first|exact ⟨av,cj,hq⟩|exact hq.elim
  |false =>
   refine wpIn_region ?_;have:=agv (C:=C) (Q:=fun e a' w'=>∃av,Rel C av a' w'∧Q e av) hT hn (fun st a w hr hk=>⟨st,hr,hk⟩) ops.toList 0 st a w (fun k hk=>by simp) hr h;simpa [List.range_eq_range'] using this
 |seq x y A3 A4 =>
  intro st Q h a w hr;refine wpIn_seq (wpIn_mono (A3 st _ h a w hr) ?_);rintro e a' w' ⟨av,cj,hq⟩
  cases e<;>first|exact A4 av Q hq a' w' cj|exact ⟨av,cj,hq⟩
 |cond c x y A3 A4 =>
  intro st Q h a w hr;cases c with
  |tmp d =>
   obtain ⟨Ξ,h⟩:=cond_prop h;split at h
   ·rename_i b hb;obtain ⟨F,β,hs,hd,hf,he⟩:=hr;have fF:=hf d;rw [hb] at fF;have hv:a.eval (.tmp d)=.bool b:=fF.bA;refine wpIn_cond_split hv (fun ht=>?_) fun ht=>?_
    ·exact A3 _ _ (h.y ht) a w ⟨F,β,hs,hd,zp hf hb ht,he⟩
    ·exact A4 _ _ (h.n (by simpa using ht)) a w ⟨F,β,hs,hd,zp hf hb ht,he⟩
   ·cases h
  |const v =>
   cases v<;>first|exact h.elim|skip
   rename_i b;cases b with
   |true=>exact wpIn_cond_true rfl (A3 _ _ h a w hr)
   |false=>exact wpIn_cond_false rfl (A4 _ _ h a w hr)
  |global g=>cases h
  |func g=>cases h
 |block id c ih =>
  intro st Q h a w hr;refine wpIn_block (wpIn_mono (ih st _ h a w hr) ?_);rintro e a' w' ⟨av,cj,hq⟩;cases e with
  |exit i =>
   by_cases hi:i=id
   ·subst hi;simp only [iz,cond_true] at hq;simp only [Exit.inBlock,if_true];exact ⟨av,cj,hq⟩
   ·have:aG i id=false:=by cases hb:aG i id;rfl;exact absurd (cA hb) hi
    simp only [this,cond_false] at hq;simp only [Exit.inBlock,if_neg hi];exact ⟨av,cj,hq⟩
  |_=>exact ⟨av,cj,hq⟩
 |loop c ih=>intro st Q h a w hr;exact (show OU P n c st Q from h).h C hn a w hr
 |exit id=>intro st Q h a w hr;exact wpIn_exit ⟨st,hr,h⟩
 |ret=>intro st Q h a w hr;exact wpIn_ret ⟨st,hr,h⟩
 |scope c ih=>intro st Q h;cases h
 |goto l=>intro st Q h;cases h
 |refuse s=>intro st Q h;cases h
 |rangeFunc f ps x y A3 A4=>intro st Q h;cases h
end
def yY (T:TT):List ResultVar→ai→(List AV→Prop)→Prop
 |[],_,k=>k []
 |.tmp t::r,st,k=>yY T r st fun vs=>k (st.f t::vs)
 |.cell t ty::r,st,k=>match st.f t with
  |.b id off=>yZ T ty (.b id off) st.H fun x=>yY T r st fun vs=>k (x::vs)
  |_=>False
def oP (T:TT) (rs:List ResultVar) (st:ai) (k:AV→Prop):Prop :=
 yY T rs st fun vs=>match vs with
  |[x]=>k x
  |vs=>k (.t vs)
def qj (T:TT) (rs:List ResultVar) (R:AV→ai→Prop):Exit→ai→Prop
 |.normal,st=>oP T rs st fun x=>R x st
 |.ret,st=>oP T rs st fun x=>R x st
 |_,_=>False
def jZ (args:List AV):Nat→AV:=fun t=>args.getD t (.v undef)
def Fz (H:Hp) (x r:AV):Prop:=∀(w:World) (F:Nat→Prop) (β:Nat→Value) (u:Value),Inv w F β H→Rd w F β x u→bh w (fun b=>F b∨br β H b) r u
section
variable {P:Program} {T:TT} {w:World} {F:Nat→Prop} {β:Nat→Value}
def LL (hT:bB P T) {tmps:Array Value}:∀(rs:List ResultVar) {st:ai} {k:List AV→Prop},Inv w F β st.H→(∀t,Rd w F β (st.f t) (tmps.getD t undef))→yY T rs st k →
  ∃vs xs,(rs.mapM fun (r:ResultVar)=>(match r with
   |.tmp t=>pure (tmps.getD t undef)
   |.cell a t=>do loadVar t (←asAddr (tmps.getD a undef)):Sem Value)).run P w=.ok vs w∧k xs∧vs.length=xs.length∧∀i,i<xs.length→Rd w F β (xs.getD i .χ) (vs.getD i undef)
 |[],st,k,_,_,h=>⟨[],[],by simp,h,rfl,fun i hi=>by simp at hi⟩
 |.tmp t::r,st,k,hI,hf,h=>by
  obtain ⟨vs,xs,hr,hk,hl,hv⟩:=LL hT r hI hf h;refine ⟨tmps.getD t undef::vs,st.f t::xs,by rw [ahs];simp only [jK,Sem.run_pure,k_,hr],hk,by simp [hl],fun i hi=>?_⟩;cases i with
  |zero=>exact hf t
  |succ i=>exact hv i (by simpa using hi)
 |.cell t ty::r,st,k,hI,hf,h=>by
  simp only [yY] at h;split at h
  ·rename_i id off hid;have fF:=hf t;rw [hid] at fF;obtain ⟨v,x,bc,h,hx⟩:=Uj (P:=P) hT hI fF h;obtain ⟨e9,aj,hv⟩:=fF.lh
   have aaz:(loadVar ty ⟨e9,off,none⟩).run P w=.ok v w:=by
    rw [hv] at bc;simpa [Instr.loadAt,CL] using bc
   obtain ⟨vs,xs,hr,hk,hl,jk⟩:=LL hT r hI hf h;refine ⟨v::vs,x::xs,?_,hk,by simp [hl],fun i hi=>?_⟩
   ·have e:(do loadVar ty (←asAddr (tmps.getD t undef)):Sem Value).run P w=.ok v w:=by
     rw [hv];simpa [asAddr] using aaz
    rw [ahs,jK]
    erw [e]
    simp only [k_,jK,hr,Sem.run_pure]
   ·cases i with
    |zero=>exact hx
    |succ i=>exact jk i (by simpa using hi)
  ·cases h
def FX (hT:bB P T) {fn:Func} {tmps:Array Value} {st:ai} {k:AV→Prop} (hI:Inv w F β st.H) (hf:∀t,Rd w F β (st.f t) (tmps.getD t undef)) (h:oP T fn.results.toList st k) :
  ∃v x,(results fn tmps).run P w=.ok v w∧k x∧Rd w F β x v:=by
 obtain ⟨vs,xs,hr,hk,hl,hv⟩:=LL hT fn.results.toList hI hf h
 have hm:(fn.results.mapM fun (r:ResultVar)=>(match r with
   |.tmp t=>pure (tmps.getD t undef)
   |.cell a t=>do loadVar t (←asAddr (tmps.getD a undef)):Sem Value)).run P w=.ok vs.toArray w:=by
  rw [Array.mapM_eq_mapM_toList];simp only [Sem.run_map,hr,k_]
 have s_:(results fn tmps).run P w=.ok (if h:vs.toArray.size=1 then vs.toArray[0] else .tuple vs.toArray) w:=by
  unfold results;rw [jK];exact congrArg (fun z:Result (Array Value)=>z.andThen fun (a:Array Value) w'=>CV P (pure (if h:a.size=1 then a[0] else .tuple a)) w') hm
 split at hk
 ·rename_i x;obtain ⟨v,rfl⟩:=List.length_eq_one_iff.1 (by simpa using hl:vs.length=1);exact ⟨v,x,by rw [s_];rfl,hk,by simpa using hv 0 (by simp)⟩
 ·rename_i aS
  have aZ:¬vs.toArray.size=1:=fun h1=>by
   have:xs.length=1:=by simpa [hl] using h1
   match xs,this with
   |[x],_=>exact aS x rfl
  refine ⟨.tuple vs.toArray,.t xs,by rw [s_,dif_neg aZ],hk,.t (by simpa using hl) fun i hi=>?_⟩;simpa [aY] using hv i hi
def Kc {args:List AV} {vs:Array Value} {n:Nat} (hs:vs.size=args.length) (hv:∀i,i<args.length→Rd w F β (args.getD i .χ) (vs.getD i undef)) :
  ∀t,Rd w F β (jZ args t) ((vs++mw (n-vs.size) undef).getD t undef):=by
 intro t;unfold jZ;by_cases ht:t<args.length
 ·have h1:=hv t ht
  have e1:args.getD t (.v undef)=args.getD t .χ:=by simp [aY,ht]
  have e2:(vs++mw (n-vs.size) undef).getD t undef=vs.getD t undef:=by
   simp [n_,hs,ht]
  rw [e1,e2];exact h1
 ·have e1:args.getD t (.v undef)=.v undef:=by simp [aY,ht]
  have e2:(vs++mw (n-vs.size) undef).getD t undef=undef:=by
   simp only [j3,n_,hs,ht,if_false,Array.getElem?_replicate];split<;>rfl
  rw [e1,e2];exact .i (.v (.inr rfl))
def Fz.cq {H:Hp} {x:AV} (h:jB x=true):Fz H x x:=fun _ _ _ _ _ hr=>(Ek h hr).frame (fun _ _=>rfl) fun _ h=>.inl h
def Fz.v {H:Hp} {x:Value}:Fz H (.v x) (.v x):=Fz.cq rfl
def Fz.s {H:Hp} {x:List (List AV)}:Fz H (.s x) (.s x):=Fz.cq rfl
def Fz.nil {H:Hp}:Fz H (.v (.slice none 0 0)) (.s []):=fun _ _ _ _ _ hr=>by rw [hr.bA];exact .s0
def Fz.o {H:Hp} {id E K:Nat} {rows:List (List AV)} (h:di id H=some (.own E K rows)):Fz H (.o id) (.s rows):=fun _ _ _ _ hI hr=>SM hI (eE h) hr
inductive nB (H:Hp):List AV→List AV→Prop where
 |nil:nB H [] []
 |cons {x y:AV} {xs ys:List AV} (h:Fz H x y) (t:nB H xs ys):nB H (x::xs) (y::ys)
def nB.spec {H:Hp} {xs ys:List AV} (h:nB H xs ys):xs.length=ys.length∧∀i,i<xs.length→Fz H (xs.getD i .χ) (ys.getD i .χ):=by
 induction h with
 |nil=>exact ⟨rfl,fun i hi=>by simp at hi⟩
 |cons h t ih =>
  refine ⟨by simp [ih.1],fun i hi=>?_⟩;cases i with
  |zero=>simpa using h
  |succ i=>simpa using ih.2 i (by simpa using hi)
def Fz.a {H:Hp} {xs ys:List AV} (h:nB H xs ys):Fz H (.a xs) (.a ys):=fun _ _ _ _ hI hr=>by
 obtain ⟨us,rfl,hs,h1,hu⟩:=hr.o8;obtain ⟨hl,hz⟩:=h.spec;exact .a (by omega) (fun i hi=>h1 i (by omega)) fun i hi=>hz i (by omega) _ _ _ _ hI (hu i (by omega))
def Fz.t {H:Hp} {xs ys:List AV} (h:nB H xs ys):Fz H (.t xs) (.t ys):=fun _ _ _ _ hI hr=>by
 obtain ⟨us,rfl,hs,hu⟩:=hr.ze;obtain ⟨hl,hz⟩:=h.spec;exact .t (by omega) fun i hi=>hz i (by omega) _ _ _ _ hI (hu i (by omega))
def Inv.nil {H:Hp} (h:Inv w F β H):Inv w F β [] :=
 ⟨h.bW,fun _ _ hm=>(eI hm).elim,oY,fun _ ⟨_,_,hm,_⟩=>(eI hm).elim,fun _ _ _ _ _ hm=>(eI hm).elim,h.eN⟩
def Le (x y:AV):Prop:=∀(w:World) (F:Nat→Prop) (β:Nat→Value) (u:Value),Rd w F β x u→Rd w F β y u
def Le.refl (x:AV):Le x x:=fun _ _ _ _ h=>h
def Le.nil:Le (.v (.slice none 0 0)) (.s []):=fun _ _ _ _ h=>by rw [h.bA];exact .i .s0
inductive h_:List AV→List AV→Prop where
 |nil:h_ [] []
 |cons {x y:AV} {xs ys:List AV} (h:Le x y) (t:h_ xs ys):h_ (x::xs) (y::ys)
def h_.refl:∀(xs:List AV),h_ xs xs
 |[]=>.nil
 |x::xs=>.cons (Le.refl x) (h_.refl xs)
def h_.spec {xs ys:List AV} (h:h_ xs ys):xs.length=ys.length∧∀i,i<xs.length→Le (xs.getD i .χ) (ys.getD i .χ):=by
 induction h with
 |nil=>exact ⟨rfl,fun i hi=>by simp at hi⟩
 |cons h t ih =>
  refine ⟨by simp [ih.1],fun i hi=>?_⟩;cases i with
  |zero=>simpa using h
  |succ i=>simpa using ih.2 i (by simpa using hi)
def Le.a {xs ys:List AV} (h:h_ xs ys):Le (.a xs) (.a ys):=fun _ _ _ _ hr=>by
 obtain ⟨us,rfl,hs,h1,hu⟩:=hr.o8;obtain ⟨hl,hz⟩:=h.spec;exact .a (by omega) (fun i hi=>h1 i (by omega)) fun i hi=>hz i (by omega) _ _ _ _ (hu i (by omega))
def uE.dz {g:FuncId} {xs ys:List AV} {H:Hp} {r:AV} (h:Pure P g ys r) (hle:h_ xs ys):uE P g xs H r:=by
 obtain ⟨hl,hz⟩:=hle.spec;exact ⟨h.1,fun w F β vs hI hs hv=>h.2 w F β vs hI.nil (by omega) fun i hi=>hz i (by omega) _ _ _ _ (hv i (by omega))⟩
def Θ.pure {g:FuncId} {xs:List AV} {st:ai} {r:AV} {k:AV→ai→Prop} (h:uE P g xs st.H r) (hk:k r st):Θ P g xs st k:=by
 refine ⟨h.1,fun w F β vs hI hs hv=>(h.2 w F β vs hI hs hv).mono ?_⟩;rintro e w' ⟨v,rfl,hb,hr⟩;exact ⟨v,rfl,r,st,_,_,hk,.i hr,sL hI hb⟩
def Θ.call {g:FuncId} {xs ys:List AV} {st:ai} {r:AV} {k:AV→ai→Prop} (h:Pure P g ys r) (hle:h_ xs ys) (hk:k r st):Θ P g xs st k:=.pure (.dz h hle) hk
def Bo:AV→Bool
 |.v _=>true
 |_=>false
def KU:AV→Bool
 |.a cs|.t cs=>cs.all Bo
 |x=>Bo x
def KT {w':World} {F':Nat→Prop} {x:AV} {u:Value} (hx:Bo x=true) (h:bh w F x u):bh w' F' x u:=by
 cases x<;>first|(cases hx;done)|(cases h;exact .v (by assumption))
def acq {w':World} {F':Nat→Prop} {x:AV} {u:Value} (hx:KU x=true) (h:bh w F x u):bh w' F' x u:=by
 have get:∀(l:List AV) (i:Nat),l.all Bo=true→i<l.length→Bo (l.getD i .χ)=true:=fun l i hl hi =>
  dJ.1 hl (l.getD i .χ) (by rw [fk,bO hi];exact eH _)
 cases x with
 |a cs=>cases h with|a hs h1 h=>exact .a hs h1 fun i hi=>KT (get cs i hx hi) (h i hi)
 |t cs=>cases h with|t hs h=>exact .t hs fun i hi=>KT (get cs i hx hi) (h i hi)
 |_=>exact KT hx h
def uE.borrow {g:FuncId} {xs ys:List AV} {H:Hp} {r:AV} (h:Pure P g ys r) (hz:nB H xs ys) (hr:KU r=true):uE P g xs H r:=by
 obtain ⟨hl,hz⟩:=hz.spec;refine ⟨h.1,fun w F β vs hI hs hv=>?_⟩;have lY:Inv w (fun b=>F b∨br β H b) β [] :=
  ⟨fun b hb=>hb.elim (hI.bW b) hI.fj,fun _ _ hm=>(eI hm).elim,oY,fun _ ⟨_,_,hm,_⟩=>(eI hm).elim,fun _ _ _ _ _ hm=>(eI hm).elim,hI.eN.more fun _ h=>.inl h⟩
 refine (h.2 w _ β vs lY (by omega) fun i hi=>.i (hz i (by omega) _ _ _ _ hI (hv i (by omega)))).mono ?_;rintro e w' ⟨v,rfl,hb,hx⟩;exact ⟨v,rfl,hb,acq hr hx⟩
def Θ.borrow {g:FuncId} {xs ys:List AV} {st:ai} {r:AV} {k:AV→ai→Prop} (h:Pure P g ys r) (hz:nB st.H xs ys) (hr:KU r=true) (hk:k r st):Θ P g xs st k:=.pure (.borrow h hz hr) hk
end
end
end Go.Cat
