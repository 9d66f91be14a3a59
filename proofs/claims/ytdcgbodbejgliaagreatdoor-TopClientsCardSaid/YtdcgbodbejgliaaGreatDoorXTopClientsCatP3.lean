/- The logic that the walks are in, piece P3. No condition. -/
import Derived.Test.YtdcgbodbejgliaaGreatDoorXTopClientsCatP2
import Derived.Deep.Upon
import Derived.OrdersIn
import Derived.RangeFuncIn
import Derived.RangeFuncLeaves
import Derived.RangeFuncRecord
open Array renaming getD_eq_getD_getElem? → lh, length_toList → lJ, getElem?_setIfInBounds_ne → xm, getElem?_push → na, eq_empty_of_size_eq_zero → ue, replicate → oc, getElem?_append → pV, range → nf, size_append → uf, toList_map → Y7
open Bool renaming and_eq_true → bE, or_eq_false_iff → QT, not_eq_false' → QS
open Go.Addr renaming add_lit → gg
open Go.Builtin renaming zeroCells → dB, append_ → ib, copy_ → qM, firstCells → xn, clear_ → vz, nextslicecap → QV
open Go.Call renaming operands → qN
open Go.Deferred renaming ofValue → l8
open Go.Fence renaming wide → gh
open Go.Instr renaming sliceAt → lL, makeSlice → vD, sureAddr → G1, mapUpdate → GZ, next → G0, alloc → Q_, storeAt → Rg, makeMap → Rf, box → Ra
open Go.IntWalk renaming i64_in → qO
open Go.MapKept renaming run_findKey → GX, run_setObj_map → Zh
open Go.Question renaming forced → Ru
open Go.Region renaming wanted → dU
open Go.Result renaming andThen_ok → mg
open Go.Sem renaming run_bind → kC, run → G'
open Go.Utf8 renaming decode → Lq
open Int renaming natCast_mul → Rh
open List renaming length_map → az, getElem?_eq_getElem → bU, mem_cons_of_mem → cu, mem_cons → bf, getD → aV, length_append → dj, getElem?_eq_some_iff → fh, getD_eq_getElem?_getD → fW, mem_singleton → dC, length_take → dR, mem_map → c9, all_eq_true → ej, getElem_mem → eI, not_mem_nil → eJ, getElem?_take → gk, getElem?_append → gG, replicate → ij, getElem?_drop → js, nodup_cons → iw, range → gw, size_toArray → ll, map_cons → jJ, eq_nil_of_length_eq_zero → qQ, drop_eq_nil_of_le → qP, length_drop → l9, append_assoc → lN, nodup_nil → qS, append_nil → xq, getElem?_map → uj, length_replicate → ZB, take_of_length_le → Rp, mapM_cons → alB
open List.cons renaming injEq → G3
open Nat renaming mul_le_mul_right → cG, eq_of_beq_eq_true → cT, beq → aH, le_refl → bG, add_mul → bP, le_trans → fi, eq_zero_or_pos → oW, blt → eN, blt_eq → gH, zero_add → jL, beq_refl → iW, le_succ → j2, div_lt_iff_lt_mul → qU, add_zero → lO, mul_comm → og, mod_eq_of_lt → Dh, le_mul_of_pos_right → Rr, mod_lt → sy, mul_add_mod → Di, div_add_mod → Rq, le_of_not_lt → aly, pos_of_ne_zero → Rt, div_eq_of_lt → alz, mul_add_div → alA
open Option renaming map_eq_some_iff → Dj
open Prod.mk renaming injEq → il
open True renaming intro → Lo
namespace Go.Cat
set_option linter.all false
section
open Go.RowKit
variable [M:bM] [G:cK]
def fN (id:Nat) (c:Chunk):Hp→Hp
 |[]=>[]
 |(i,c')::r=>bif aH i id then (i,c)::fN id c r else (i,c')::fN id c r
def gJ (st:ae) (d:Nat) (c:Chunk):ae:=⟨fun t=>er 2 d (st.f t),(d,c)::gT d st.H⟩
def S4 (id:Nat) (rows:List (List AV)):Chunk→Chunk
 |.box cells=>.box (cells.map (sb (.s rows) 1 id))
 |.own E K r=>.own E K r
 |.mp ag r=>.mp ag r
 |.lp l e R L=>.lp l e R (L.map fun p=>(p.1,sb (.s rows) 2 id p.2))
 |.si s pos=>.si s pos
def oA (id:Nat) (rows:List (List AV)):Hp→Hp
 |[]=>[]
 |(i,c)::r=>bif aH i id then oA id rows r else (i,S4 id rows c)::oA id rows r
def Mq (id:Nat) (rows:List (List AV)) (st:ae):ae:=⟨fun t=>sb (.s rows) 2 id (st.f t),oA id rows st.H⟩
def Md (T:TT) (s t id:Nat) (st:ae) (k:AV→ae→Prop):Prop :=
 match T s with
 |some i=>match i.kind with
  |.slice e=>match T e with
   |some j=>match j.kind with
    |.int .u8=>bif aH s t then
      match dH id st.H with
      |some (.own _ _ rows)=>rows≠[]∧k (.s rows) (Mq id rows st)
      |_=>False
     else False
    |_=>False
   |none=>False
  |_=>False
 |none=>False
def L_ (T:TT) (t d:Nat) (st:ae) (k:AV→ae→Prop):Prop :=
 match T t with
 |some i=>bif jm (cr i.zero) then k (.b d 0) (gJ st d (.box (bu (cr i.zero)))) else False
 |none=>False
def Mb (x:AV) (d:Nat) (st:ae) (k:AV→ae→Prop):Prop :=
 bif jm x then k (.b d 0) (gJ st d (.box ((bu x).map (er 1 d)))) else False
def Cx (n:Nat) (cells:List AV) (off:Nat) (y:AV) (k:List AV→Prop):Prop :=
 bif jm y&&(aH (bu y).length n&&Nat.ble (off+n) cells.length) then ∃C,cells.take off++(bu y++cells.drop (off+n))=C∧k C else False
def v_ (T:TT) (t:Nat) (x y:AV) (st:ae) (k:AV→ae→Prop):Prop :=
 match T t with
 |some i=>match x with
  |.b id off=>match dH id st.H with
   |some (.box cells)=>Cx i.cells cells off y fun ya=>k (.v undef) ⟨st.f,fN id (.box ya) st.H⟩
   |_=>False
  |.e id K m j=>match dH id st.H with
   |some (.own E K' rows)=>bif (bu y).all fp then ∃row,rows[m]?=some row∧K=K'∧Cx i.cells row j y fun agy=>∃R,rows.set m agy=R∧k (.v undef) ⟨st.f,fN id (.own E K' R) st.H⟩ else False
   |_=>False
  |_=>False
 |none=>False
def oZ (rows:List (List AV)) (n:Nat):Prop:=∀r,r∈rows→r.length=n
def Qk (x:AV) (not:Nat) (H:Hp) (k:List (List AV)→Prop):Prop :=
 match x with
 |.s rows=>k rows
 |.v (.slice none 0 0)=>k []
 |.o id=>bif aH id not then False else match dH id H with
  |some (.own _ _ rows)=>k rows
  |_=>False
 |_=>False
def Ds (T:TT) (t t' e:Nat) (x:AV) (not:Nat) (H:Hp) (k:List (List AV)→Prop):Prop :=
 bif aH t t' then Qk x not H k else
 match T t',T e,x with
 |some i',some je,.v (.string s)=>match i'.kind,je.kind with
  |.str,.int .u8=>bif aH je.cells 1 then k (s.data.toList.map lv) else False
  |_,_=>False
 |_,_,_=>False
def AX (T:TT) (t t':Nat) (s x:AV) (d:Nat) (st:ae) (k:AV→ae→Prop):Prop :=
 match T t with
 |some i=>match i.kind with
  |.slice e=>match T e with
   |some j =>
    bif aH j.bytes 0||(aH j.cells 0||!(aH j.zero.cells.size j.cells)) then False else
    match s with
    |.v (.slice none 0 0)=>Ds T t t' e x d st.H fun bT=>oZ bT j.cells∧bT.length*j.bytes≤140737488355328∧∃R,bT=R∧k (.o d) (gJ st d (.own e j.cells R))
    |.o id=>match dH id st.H with
     |some (.own E K rows)=>bif (aH E e&&aH K j.cells)&&eN id 1000 then
       Ds T t t' e x id st.H fun bT=>oZ bT j.cells∧(rows.length+bT.length)*j.bytes≤140737488355328∧∃R,rows++bT=R∧k (.o id) (gJ st id (.own e j.cells R))
      else False
     |_=>False
    |_=>False
   |none=>False
  |_=>False
 |none=>False
def Ma (T:TT) (t t' id:Nat) (x:AV) (st:ae) (k:AV→ae→Prop):Prop :=
 match T t,T t',x with
 |some i,some i',.v (.int _ nx)=>match i.kind,i'.kind with
  |.slice e,.int _=>match T e,dH id st.H with
   |some j,some (.own E K rows)=>bif aH j.bytes 0||(aH j.cells 0||!(jm (cr j.zero)&&(aH (bu (cr j.zero)).length j.cells&&(bu (cr j.zero)).all fp))) then False else
     bif (aH E e&&aH K j.cells)&&eN id 1000 then
      ∃n:Nat,nx=(n:Int)∧(rows.length+n)*j.bytes≤140737488355328∧∃R,rows++ij n ((bu (cr j.zero)).map nz)=R∧k (.o id) (gJ st id (.own e j.cells R))
     else False
   |_,_=>False
  |_,_=>False
 |_,_,_=>False
def HU (T:TT) (t:Nat) (x y:AV) (st:ae) (k:AV→ae→Prop):Prop :=
 match T t with
 |some i=>match i.kind with
  |.slice e=>match T e with
   |some j=>match x,y with
    |.w id Kw d,.s news=>match dH id st.H with
     |some (.own E K rows)=>bif aH K j.cells&&aH Kw K then
       oZ news j.cells∧∃R,rows.take d++news.take (rows.length-d)++rows.drop (d+news.length)=R∧k (.v (.int .i64 ((Nat.min news.length (rows.length-d):Nat):Int))) ⟨st.f,fN id (.own E K R) st.H⟩
      else False
     |_=>False
    |_,_=>False
   |none=>False
  |_=>False
 |none=>False
def HR (T:TT) (t t':Nat) (s x:AV) (d:Nat) (st:ae) (k:AV→ae→Prop):Prop :=
 match s with
 |.o id=>Ma T t t' id x st k
 |s=>match T t,T t',s,x with
 |some i,some i',.v (.slice none 0 0),.v (.int _ nx)=>match i.kind,i'.kind with
  |.slice e,.int _=>match T e with
   |some j=>bif aH j.bytes 0||(aH j.cells 0||!(jm (cr j.zero)&&(aH (bu (cr j.zero)).length j.cells&&(bu (cr j.zero)).all fp))) then False else
     ∃n:Nat,nx=(n:Int)∧n*j.bytes≤140737488355328∧∃R,ij n ((bu (cr j.zero)).map nz)=R∧k (.o d) (gJ st d (.own e j.cells R))
   |none=>False
  |_,_=>False
 |_,_,_,_=>False
def Mi (T:TT) (t:Nat) (x:AV) (hi:Option AV) (st:ae) (k:AV→ae→Prop):Prop :=
 match T t,x,hi with
 |some i,.o id,some (.v (.int _ nh))=>match i.kind with
  |.slice e=>match T e with
   |some j=>match dH id st.H with
    |some (.own E K rows)=>bif aH K j.cells&&eN id 1000 then ∃h:Nat,nh=(h:Int)∧h≤rows.length∧∃R,rows.take h=R∧k (.o id) (gJ st id (.own E K R)) else False
    |_=>False
   |none=>False
  |_=>False
 |_,_,_=>False
def HW (T:TT) (t:Nat) (x:AV) (lo hi mx:Option AV) (d:Nat) (st:ae) (k:AV→ae→Prop):Prop :=
 match T t with
 |some i=>match i.kind,lo,hi,mx with
  |.slice e,none,some (.v (.int _ 0)),some (.v (.int _ 0))=>match T e with
   |some j=>match x with
    |.s _=>k (.o d) (gJ st d (.own e j.cells []))
    |.o _=>k (.o d) (gJ st d (.own e j.cells []))
    |.v (.slice none 0 0)=>k (.o d) (gJ st d (.own e j.cells []))
    |_=>False
   |none=>False
  |_,_,_,_=>False
 |none=>False
def SC (T:TT) (t n:Nat) (parts:List (Nat×AV)) (d:Nat) (st:ae) (k:AV→ae→Prop):Prop :=
 zZ T t n parts fun rows e size=>bif rows.all (fun r=>r.all fp) then k (.o d) (gJ st d (.own e size (rows.map fun r=>r.map nz))) else False
def Me (T:TT) (t:Nat) (l c:AV) (d:Nat) (st:ae) (k:AV→ae→Prop):Prop :=
 match T t,l,c with
 |some i,.v (.int _ nl),.v (.int _ nc)=>match i.kind with
  |.slice e=>match T e with
   |some j=>bif jm (cr j.zero)&&(aH (bu (cr j.zero)).length j.cells&&(bu (cr j.zero)).all fp) then
     ∃n m:Nat,nl=(n:Int)∧nc=(m:Int)∧n≤m∧m≤140737488355328∧m*j.bytes≤140737488355328∧∃R,ij n ((bu (cr j.zero)).map nz)=R∧k (.o d) (gJ st d (.own e j.cells R))
    else False
   |none=>False
  |_=>False
 |_,_,_=>False
inductive Tg where
 |f (g:FuncId)
 |y (l:Nat)
instance:Coe FuncId Tg:=⟨.f⟩
instance {n:Nat}:OfNat Tg n:=⟨.f n⟩
abbrev fQ (ro:Option Nat):Fence:={ gh with round:=ro }
def Tg.uA (P:Program):Tg→Prop
 |.f g=>p6 P g
 |.y _=>True
def Tg.goes (P:Program):Tg→Array Value→World→(Ending→World→Prop)→Prop
 |.f g,vs,w,R=>Calls P g vs w R
 |.y l,vs,w,R=>∃fn tmps assign body,(Instr.yield l vs).run P w=.ok (.round l fn tmps assign body) w∧RoundIn gh 0 P l fn tmps assign body w R
def Tg.goes.mono {P:Program} {g:Tg} {vs:Array Value} {w:World} {R R':Ending→World→Prop} (h:g.goes P vs w R) (hr:∀e w',R e w'→R' e w'):g.goes P vs w R':=by
 cases g with
 |f g=>exact Calls.mono h hr
 |y l =>
  obtain ⟨fn,tmps,assign,body,h1,h2⟩:=h;exact ⟨fn,tmps,assign,body,h1,h2.mono hr⟩
def af (P:Program) (g:Tg) (args:List AV) (st:ae) (k:AV→ae→Prop):Prop :=
 g.uA P∧∀(w:World) (F:Nat→Prop) (β:Nat→Value) (vs:Array Value),Inv w F β st.H→vs.size=args.length →
  (∀i,i<args.length→Rd w F β (args.getD i .χ) (vs.getD i undef)) →
  g.goes P vs w fun e w'=>∃v,e=.returned v∧∃r aq F' av,k r aq∧Rd w' F' av r v∧Ext w F β st w' F' av aq
def HS (P:Program) (f:AV) (xs:List AV) (st:ae) (k:AV→ae→Prop):Prop :=
 match f with
 |.c (.func g) fs cs=>af P (.f g) (fs++(xs++cs)) st k
 |.c (.yield l) [] []=>af P (.y l) xs st k
 |_=>False
def Mf (T:TT) (t d:Nat) (st:ae) (k:AV→ae→Prop):Prop :=
 match T t with
 |some ti=>match ti.kind with
  |.map kt e=>match T kt,T e with
   |some ik,some ie=>match ik.kind with
    |.int .i64=>k (.m d) (gJ st d (.mp (p7 ie.kind) []))
    |_=>False
   |_,_=>False
  |_=>False
 |none=>False
def HV (T:TT) (t:Nat) (m i y:AV) (st:ae) (k:AV→ae→Prop):Prop :=
 match T t with
 |some ti=>match ti.kind with
  |.map kt e=>match T kt with
   |some ik=>match ik.kind,m,i with
    |.int .i64,.m id,.v (.int .i64 n)=>match dH id st.H with
     |some (.mp ag rows)=>match zB ag y with
      |some yc=>Θ n∧rows.length<140737488355328∧∃R,ak n yc rows=R∧k (.v undef) ⟨st.f,fN id (.mp ag R) st.H⟩
      |none=>False
     |_=>False
    |_,_,_=>False
   |none=>False
  |_=>False
 |none=>False
def HT (T:TT) (t:Nat) (x:AV) (st:ae) (k:AV→ae→Prop):Prop :=
 match T t with
 |some i=>match i.kind with
  |.slice e=>match T e with
   |some j=>match x with
    |.w id Kw d=>match dH id st.H with
     |some (.own E K rows)=>bif (aH K j.cells&&aH Kw K)&&(jm (cr j.zero)&&(aH (bu (cr j.zero)).length j.cells&&(bu (cr j.zero)).all fp)) then
       ∃R,rows.take d++ij (rows.length-d) ((bu (cr j.zero)).map nz)=R∧k (.t []) ⟨st.f,fN id (.own E K R) st.H⟩
      else False
     |_=>False
    |_=>False
   |none=>False
  |_=>False
 |none=>False
def Mh (T:TT) (t:Nat) (x:AV) (d:Nat) (st:ae) (k:AV→ae→Prop):Prop :=
 match T t,x with
 |some i,.v (.string s)=>match i.kind with
  |.str=>k (.b d 0) (gJ st d (.si s 0))
  |_=>False
 |_,_=>False
def Mg (x:AV) (Jf:Bool) (st:ae) (k:AV→ae→Prop):Prop :=
 match x,Jf with
 |.b id 0,true=>match dH id st.H with
  |some (.si s pos)=>(pos<s.size→k (.t [.v (.bool true),.v (.int .i64 (pos:Int)),.v (.int .i32 ((Lq s pos).1:Int))]) ⟨st.f,fN id (.si s (pos+(Lq s pos).2)) st.H⟩) ∧
    (¬pos<s.size→k (.t [.v (.bool false)]) st)
  |_=>False
 |_,_=>False
def Cy (P:Program) (T:TT) (o:Oper) (st:ae) (k:AV→ae→Prop):Prop :=
 let ρ:=ev st.f;let d:=o.dst.getD 0
 match o.op with
 |.alloc t=>L_ T t d st k
 |.box _ x=>Mb (ρ x) d st k
 |.store t x y=>v_ T t (ρ x) (ρ y) st k
 |.makeMap t none=>Mf T t d st k
 |.range t x=>Mh T t (ρ x) d st k
 |.next x s=>Mg (ρ x) s st k
 |.mapUpdate t m i y=>HV T t (ρ m) (ρ i) (ρ y) st k
 |.insert t m i y=>HV T t (ρ m) (ρ i) (ρ y) st k
 |.buildSlice t n parts=>mZ P T o ρ st.H (fun r=>k r st)∨SC T t n (parts.toList.map fun q=>(q.1,ρ q.2)) d st k
 |.slice t x none hi none=>match ρ x with
  |.o _=>Mi T t (ρ x) (hi.map ρ) st k
  |_=>mZ P T o ρ st.H fun r=>k r st
 |.slice t x lo hi (some mx)=>HW T t (ρ x) (lo.map ρ) (hi.map ρ) (some (ρ mx)) d st k
 |.makeSlice t l c=>mZ P T o ρ st.H (fun r=>k r st)∨Me T t (ρ l) (ρ c) d st k
 |.convert s t x=>match ρ x with
  |.o id=>Md T s t id st k
  |_=>mZ P T o ρ st.H fun r=>k r st
 |.call c=>match c.callee with
  |.builtin .append=>match c.argTypes.toList,c.args.toList.map ρ with
   |[t,t'],[s,x]=>bif aH t t' then AX T t t' s x d st k else match x with
    |.v (.string _)=>AX T t t' s x d st k
    |_=>HR T t t' s x d st k
   |_,_=>False
  |.builtin .copy=>match c.argTypes.toList,c.args.toList.map ρ with
   |[t,_],[x,y]=>HU T t x y st k
   |_,_=>False
  |.builtin .clear=>match c.argTypes.toList,c.args.toList.map ρ with
   |[t],[x]=>HT T t x st k
   |_,_=>False
  |.value f=>HS P (ρ f) (c.args.toList.map ρ) st k
  |_=>mZ P T o ρ st.H fun r=>k r st
 |_=>mZ P T o ρ st.H fun r=>k r st
def step (P:Program) (T:TT) (o:Oper) (st:ae) (k:AV→ae→Prop):Prop:=bif eN (o.dst.getD 0) 1000 then Cy P T o st k else False
end
section
open Go.RowKit
variable [M:bM] [G:cK]
section
variable {P:Program} {T:TT} {w:World} {F:Nat→Prop} {β:Nat→Value} {st:ae} {k:AV→ae→Prop}
def EPost (w:World) (F:Nat→Prop) (β:Nat→Value) (st:ae) (k:AV→ae→Prop) (v:Value) (w':World):Prop :=
 ∃r aq F' av,k r aq∧Rd w' F' av r v∧Ext w F β st w' F' av aq
def cW (P:Program) (s:Sem Next) (w:World) (F:Nat→Prop) (β:Nat→Value) (st:ae) (k:AV→ae→Prop):Prop :=
 (∃v w',s.run P w=.ok (.value v) w'∧EPost w F β st k v w')∨(∃w',s.run P w=.ok .skip w'∧EPost w F β st k undef w') ∨
 (∃g vs,s.run P w=.ok (.enter g vs) w∧Calls P g vs w fun e w'=>∃v,e=.returned v∧EPost w F β st k v w') ∨
 (∃l fn tmps assign body,s.run P w=.ok (.round l fn tmps assign body) w∧RoundIn gh 0 P l fn tmps assign body w fun e w'=>∃v,e=.returned v∧EPost w F β st k v w')
def agh {s:Sem Next} (hI:Inv w F β st.H) (h:uu P s w fun v w'=>∃r,k r st∧Rd w' (fG F w w') β r v):cW P s w F β st k:=by
 rcases h with ⟨v,w',hr,hb,r,hk,hv⟩|⟨g,vs,hr,hc⟩
 ·exact .inl ⟨v,w',hr,r,st,_,_,hk,hv,wa hI hb⟩
 ·refine .inr (.inr (.inl ⟨g,vs,hr,hc.mono ?_⟩));rintro e w' ⟨v,rfl,hb,r,hk,hv⟩;exact ⟨v,rfl,r,st,_,_,hk,hv,wa hI hb⟩
def cW.value {s:Sem Value} {v:Value} {w':World} (hr:s.run P w=.ok v w') (h:EPost w F β st k v w'):cW P (do pure (.value (←s))) w F β st k :=
 .inl ⟨v,w',by simp [hr],h⟩
def cW.skip {s:Sem Unit} {w':World} (hr:s.run P w=.ok () w') (h:EPost w F β st k undef w'):cW P (do s;pure .skip) w F β st k :=
 .inr (.inl ⟨w',by simp [hr],h⟩)
def R4 {d:Nat} {cells:List AV} {us:Array Value} {e:TypeId} (hd:d<1000) (hI:Inv w F β st.H) (hs:us.size=cells.length) (h1:∀i,i<cells.length→(us.getD i undef).oneCell'=true)
  (hr:∀i,i<cells.length→Rd (w.alloc (.cells us e)) F (fun i=>if i=d then .pointer (some ⟨w.heap.size,0,none⟩) else β i) (cells.getD i .χ) (us.getD i undef)) (hk:k (.b d 0) (gJ st d (.box cells))) :
  EPost w F β st k (.pointer (some ⟨w.heap.size,0,none⟩)) (w.alloc (.cells us e)):=by
 refine ⟨_,_,F,_,hk,.b (by simp),qc (v:=.pointer (some ⟨w.heap.size,0,none⟩)) hd hI rfl ⟨rfl,fun _=>(by first|exact bG _|exact j2 _)⟩ rfl (by simp) (fun b hb _=>heap_alloc_old w _ hb) (fun i c b _ hm hb=>heap_alloc_old w _ (hI.fM ⟨i,c,hm,hb⟩)) (fun b hb=>?_) ?_⟩
 ·simp [bR] at hb;left;omega
 ·exact ⟨w.heap.size,us,e,by simp,heap_alloc_new w _,hs,h1,hr⟩
def aaN {t d:Nat} (hd:d<1000) (hT:bO P T) (hI:Inv w F β st.H) (h:L_ T t d st k):cW P (do pure (.value (←Q_ t true (.tuple #[])))) w F β st k:=by
 unfold L_ at h;split at h
 ·rename_i i hi;obtain ⟨bX,hk⟩:=cond_prop h;have hz:=(hT _ _ hi).tQ w
  have aY:(Q_ t true (.tuple #[])).run P w=.ok (.pointer (some ⟨w.heap.size,0,none⟩)) (w.alloc (.cells i.zero.cells t)):=by
   unfold Q_;simp [hz,newVar,newRow]
  refine cW.value aY ?_;have hr:=fun av:Nat→Value=>o9 (nV (w.alloc (.cells i.zero.cells t)) F i.zero av) bX;exact R4 hd hI (hr β).1 (fun j hj=>((hr β).2 j hj).1) (fun j hj=>((hr _).2 j hj).2) hk
 ·cases h
def aaR {x:AV} {vx:Value} {d t:Nat} (hd:d<1000) (hI:Inv w F β st.H) (hx:Rd w F β x vx) (h:Mb x d st k):cW P (do pure (.value (←Ra t vx))) w F β st k:=by
 unfold Mb at h;obtain ⟨bX,hk⟩:=cond_prop h
 have aY:(Ra t vx).run P w=.ok (.pointer (some ⟨w.heap.size,0,none⟩)) (w.alloc (.cells vx.cells t)):=by simp [Ra,newVar,newRow]
 obtain ⟨hs,hr⟩:=o9 hx bX;refine cW.value aY (R4 hd hI (by simpa using hs) (fun j hj=>(hr j (by simpa using hj)).1) (fun j hj=>?_) hk)
 have hj:j<(bu x).length:=by simpa using hj
 have e:((bu x).map (er 1 d)).getD j .χ=er 1 d ((bu x).getD j .χ):=by simp [aV,hj]
 rw [e];exact sN (fun i hi=>by simp [hi]) 1 ((hr j hj).2.frame (Below.agree (vR w _) hI.cC) fun _ h=>h)
def mY {id:Nat} {c:Chunk}:∀{H:Hp} {i:Nat} {c':Chunk},(i,c')∈fN id c H→(i=id∧c'=c∧∃c'',(i,c'')∈H)∨(i≠id∧(i,c')∈H)
 |[],_,_,h=>by cases h
 |(j,c0)::r,i,c',h=>by
  simp only [fN] at h;cases hb:aH j id with
  |true =>
   have hj:=cT hb;rw [hb] at h;simp only [cond_true,bf,il] at h
   rcases h with ⟨rfl,rfl⟩|h
   ·exact .inl ⟨hj,rfl,c0,by simp⟩
   ·rcases mY (H:=r) h with ⟨h1,h2,c2,h3⟩|⟨h1,h2⟩
    ·exact .inl ⟨h1,h2,c2,cu _ h3⟩
    ·exact .inr ⟨h1,cu _ h2⟩
  |false =>
   have hj:j≠id:=fun e=>by rw [e,iW] at hb;cases hb
   rw [hb] at h;simp only [cond_false,bf,il] at h
   rcases h with ⟨rfl,rfl⟩|h
   ·exact .inr ⟨hj,by simp⟩
   ·rcases mY (H:=r) h with ⟨h1,h2,c2,h3⟩|⟨h1,h2⟩
    ·exact .inl ⟨h1,h2,c2,cu _ h3⟩
    ·exact .inr ⟨h1,cu _ h2⟩
def z7 {id:Nat} {c:Chunk}:∀(H:Hp),(fN id c H).map (·.1)=H.map (·.1)
 |[]=>rfl
 |(j,c0)::r=>by
  simp only [fN];cases hb:aH j id<;>simp [z7 r]
def wb {id:Nat} {c c0:Chunk} {w':World} (hI:Inv w F β st.H) (hm:(id,c0)∈st.H) (uT:w'.os=w.os) (NV:jt w w') (th:w'.output=w.output) (eL:w'.heap.size=w.heap.size)
  (Bb:∀b,bR (β id)≠some b→w'.heap[b]?=w.heap[b]?) (hc:c.holds w' F β id):Ext w F β st w' F β ⟨st.f,fN id c st.H⟩:=by
 have dr:∀b,bC β (fN id c st.H) b→bC β st.H b:=by
  rintro b ⟨i,c',h,hb⟩
  rcases mY h with ⟨rfl,_,c2,h2⟩|⟨_,h2⟩
  ·exact ⟨i,c2,h2,hb⟩
  ·exact ⟨i,c',h2,hb⟩
 have ha:ga F w w':=fun b hb=>Bb b fun kL=>hI.apart b ⟨id,c0,hm,kL⟩ hb;refine ⟨uT,NV,th,by omega,fun b _ ho=>Bb b fun kL=>ho ⟨id,c0,hm,kL⟩,fun _ h=>h,fun _ h=>.inl h,fun b h=>.inr (dr b h),fun t u h=>h.frame ha fun _ h=>h,?_,fun _ _=>rfl⟩;refine ⟨fun b hb=>by have:=hI.cC b hb;omega,fun i c' h=>?_,by rw [z7];exact hI.keys,fun b ho=>hI.apart b (dr b ho),fun i c1 i' p8 b h h' hb aK=>?_,hI.fk.at ha⟩
 ·rcases mY h with ⟨rfl,rfl,_⟩|⟨hi,h2⟩
  ·exact hc
  ·exact pD ha (fun _ h=>h) (fun b hb=>Bb b fun kL=>hi (hI.eC i c' id c0 b h2 hm hb kL)) (hI.holds i c' h2)
 ·have hx:∃c,(i,c)∈st.H:=by rcases mY h with ⟨_,_,c2,h2⟩|⟨_,h2⟩<;>exact ⟨_,h2⟩
  have hy:∃c,(i',c)∈st.H:=by rcases mY h' with ⟨_,_,c2,h2⟩|⟨_,h2⟩<;>exact ⟨_,h2⟩
  obtain ⟨c2,h2⟩:=hx;obtain ⟨c3,h3⟩:=hy;exact hI.eC i c2 i' c3 b h2 h3 hb aK
def XJ {n off:Nat} {cells:List AV} {y:AV} {K:List AV→Prop} (h:Cx n cells off y K) :
  jm y=true∧(bu y).length=n∧off+n≤cells.length∧K (cells.take off++(bu y++cells.drop (off+n))):=by
 unfold Cx at h;obtain ⟨hb,hk⟩:=cond_prop h;simp only [bE] at hb;obtain ⟨C,rfl,hk⟩:=hk;exact ⟨hb.1,cT hb.2.1,by simpa using hb.2.2,hk⟩
def Qo {α:Type} (l m:List α) (off n:Nat) (hm:m.length=n) (hl:off+n≤l.length) (d:α) (j:Nat) :
  (l.take off++(m++l.drop (off+n))).getD j d=if j<off then l.getD j d else if j<off+n then m.getD (j-off) d else l.getD j d:=by
 simp only [aV,gG,dR,hm,gk,js];by_cases h1:j<off
 ·simp [h1,show j<min off l.length by omega]
 ·by_cases h2:j<off+n
  ·simp [h1,h2,show min off l.length=off by omega,show j-off<n by omega]
  ·simp [h1,h2,show min off l.length=off by omega,show ¬j-off<n by omega,show off+n+(j-off-n)=j by omega]
def Xg {t b off:Nat} {i:TI} {v:Value} {cur:Array Value} {e:TypeId} (hi:gz P t i) (hh:w.heap[b]?=some (.cells cur e (0,0))) (hv:v.cells.size=i.cells) (jj:off+i.cells≤cur.size)
  (h1:∀j,j<v.cells.size→(v.cells.getD j undef).oneCell'=true) :
  (Rg t (.pointer (some ⟨b,off,none⟩)) v).run P w=.ok () (w.setRow b (cur.toList.take off++v.cells.toList++cur.toList.drop (off+v.cells.toList.length)).toArray):=by
 have aX:=hi.kZ w
 have bV:=run_storeCells_at P b off e v.cells.toList 0 cur w hh (by simp;omega) (fun x hx=>by
  obtain ⟨j,hj,rfl⟩:=List.mem_iff_getElem.1 hx
  have hj:j<v.cells.size:=by simpa using hj
  have:=h1 j hj
  simpa [hj] using this)
 simp only [lO] at bV;simp [Rg,G1,storeVar,aX,hv,bV]
def Pc {b:Nat} {cs:Array Value} (hI:Inv w F β st.H) (ho:bC β st.H b) {x:AV} {u:Value} (h:Rd w F β x u):Rd (w.setRow b cs) F β x u :=
 h.frame (fun b' aK=>setRow_other w b b' cs fun e=>hI.apart b ho (e▸aK)) fun _ h=>h
def RW (l m:List Value) (off n:Nat) (hm:m.length=n) (hl:off+n≤l.length) (d:Value) (j:Nat) :
  (l.take off++m++l.drop (off+m.length)).toArray.getD j d=if j<off then l.getD j d else if j<off+n then m.getD (j-off) d else l.getD j d:=by
 have:=Qo l m off n hm hl d j;rw [hm,lN];simpa [lh,aV] using this
def aa7 {t:Nat} {x y:AV} {vx vy:Value} (hT:bO P T) (hI:Inv w F β st.H) (hx:Rd w F β x vx) (hy:Rd w F β y vy) (h:v_ T t x y st k) :
  cW P (do Rg t vx vy;pure .skip) w F β st k:=by
 unfold v_ at h;split at h
 ·rename_i i hi;split at h
  ·rename_i id off;split at h
   ·rename_i cells hc;obtain ⟨bX,hlen,hle,hk⟩:=XJ h;have hm:=eZ hc;obtain ⟨b,cur,e,ah,hh,hs,h1,hr⟩:=hI.holds _ _ hm;obtain ⟨eX,hb,rfl⟩:=hx.mz;rw [ah] at hb;cases hb;obtain ⟨aQ,gZ⟩:=o9 hy bX
    have uW:vy.cells.size=i.cells:=by rw [aQ,hlen]
    have fZ:off+i.cells≤cur.size:=by rw [hs];exact hle
    have aY:=Xg (off:=off) (hT _ _ hi) hh uW fZ (fun j hj=>(gZ j (by omega)).1)
    have ET:vy.cells.toList.length=i.cells:=by simpa using uW
    refine cW.skip aY ⟨_,_,F,β,hk,.i (.v (.inr rfl)),?_⟩;have ho:bC β st.H b:=⟨id,_,hm,by rw [ah];rfl⟩;refine wb hI hm rfl ⟨rfl,fun _=>(by first|exact bG _|exact j2 _)⟩ rfl (by simp) (fun b' aK=>setRow_other w b b' _ (fun e=>aK (by rw [ah,e];rfl))) ?_;have key:=fun j d=>RW cur.toList vy.cells.toList off i.cells ET (by simpa using fZ) d j;have zu:=fun j=>Qo cells (bu y) off i.cells hlen hle AV.χ j;refine ⟨b,_,e,ah,setRow_heap w b cur _ e _ hh,?_,fun j hj=>?_,fun j hj=>?_⟩
    ·simp only [ll,dj,dR,l9,lJ,uW,hs,hlen];omega
    all_goals
     have dq:j<cells.length:=by
      simp only [dj,dR,l9,hlen] at hj;omega
    ·rw [key];by_cases q1:j<off
     ·rw [if_pos q1];simpa [aV] using h1 j dq
     ·rw [if_neg q1];by_cases q2:j<off+i.cells
      ·rw [if_pos q2];simpa [aV] using (gZ (j-off) (by omega)).1
      ·rw [if_neg q2];simpa [aV] using h1 j dq
    ·rw [key,zu];by_cases q1:j<off
     ·rw [if_pos q1,if_pos q1];exact Pc hI ho (by simpa [aV] using hr j dq)
     ·rw [if_neg q1,if_neg q1];by_cases q2:j<off+i.cells
      ·rw [if_pos q2,if_pos q2];exact Pc hI ho (by simpa [aV] using (gZ (j-off) (by omega)).2)
      ·rw [if_neg q2,if_neg q2];exact Pc hI ho (by simpa [aV] using hr j dq)
   ·cases h
  ·rename_i id K m j;split at h
   ·rename_i E K' rows hc;obtain ⟨gW,row,jE,rfl,h⟩:=cond_prop h;obtain ⟨bX,hlen,hle,R,rfl,hk⟩:=XJ h;have hm:=eZ hc;have Nv:=E8 jE;obtain ⟨g,n,c,ah,rfl⟩:=hx.AY
    rcases hI.holds _ _ hm with ⟨rfl,_⟩|⟨g',cap,cur,hv,iO,hg,hn,gp,hs,hK,hr⟩
    ·simp at Nv
    ·rw [hv] at ah;cases ah
     have nM:row.length=K:=by have:=hK m Nv;rwa [wj jE] at this
     obtain ⟨aQ,gZ⟩:=o9 hy bX
     have uW:vy.cells.size=i.cells:=by rw [aQ,hlen]
     have hmK:m*K+K≤rows.length*K:=by
      calc m*K+K=(m+1)*K:=by rw [bP];omega
       _≤rows.length*K:=cG _ Nv
     have hrc:rows.length*K≤c*K:=cG _ hn
     have fZ:m*K+j+i.cells≤cur.size:=by omega
     have aY:=Xg (off:=m*K+j) (hT _ _ hi) hg uW fZ (fun j hj=>(gZ j (by omega)).1)
     have ET:vy.cells.toList.length=i.cells:=by simpa using uW
     have h0:aH c 0=false:=by cases c<;>first|rfl|omega
     have ho:bC β st.H g:=⟨id,_,hm,by rw [hv];simp [bR,h0]⟩;refine cW.skip aY ⟨_,_,F,β,hk,.i (.v (.inr rfl)),?_⟩;refine wb hI hm rfl ⟨rfl,fun _=>(by first|exact bG _|exact j2 _)⟩ rfl (by simp) (fun b' aK=>setRow_other w g b' _ (fun e=>aK (by rw [hv,e];simp [bR,h0]))) (.inr ?_);have key:=fun j' d=>RW cur.toList vy.cells.toList (m*K+j) i.cells ET (by simpa using fZ) d j'
     have BI:∀q,q<rows.length→(rows.set m (row.take j++(bu y++row.drop (j+i.cells)))).getD q []=if q=m then row.take j++(bu y++row.drop (j+i.cells)) else rows.getD q []:=by
      intro q hq;by_cases mQ:q=m
      ·subst mQ;simp [aV,hq]
      ·simp [aV,mQ,Ne.symm mQ]
     refine ⟨g,c,_,by rw [hv];simp,iO,setRow_heap w g cur _ E _ hg,by simpa using hn,gp,?_,fun q hq=>?_,fun q z hq hz=>?_⟩
     ·simp only [ll,dj,dR,l9,lJ,uW];omega
     ·have hq:q<rows.length:=by simpa using hq
      rw [BI q hq];split
      ·simp only [dj,dR,l9,hlen,nM];omega
      ·exact hK q hq
     ·have hq:q<rows.length:=by simpa using hq
      rw [key,BI q hq];have hold:=hr q z hq hz;by_cases mQ:q=m
      ·subst mQ;rw [if_pos rfl];have zu:=Qo row (bu y) j i.cells hlen (by omega) AV.χ z;by_cases q1:z<j
       ·rw [if_pos (by omega),zu,if_pos q1];rw [wj jE] at hold;refine ⟨by simpa [aV] using hold.1,?_⟩;have h2:=hold.2.frame (w':=w.setRow g (cur.toList.take (q*K+j)++vy.cells.toList++cur.toList.drop (q*K+j+vy.cells.toList.length)).toArray) (fun b' aK=>setRow_other w g b' _ fun e=>hI.apart g ho (e▸aK)) fun _ h=>h;simpa [aV] using h2
       ·by_cases q2:z<j+i.cells
        ·rw [if_neg (by omega),if_pos (by omega),zu,if_neg q1,if_pos q2];have Vc:=gZ (z-j) (by omega)
         have Nk:fp ((bu y).getD (z-j) .χ)=true:=ej.1 gW _ (by
          rw [fW,bU (show z-j<(bu y).length by omega)];exact eI _)
         have h2:=(nQ Nk Vc.2).frame (w':=w.setRow g (cur.toList.take (q*K+j)++vy.cells.toList++cur.toList.drop (q*K+j+vy.cells.toList.length)).toArray) (fun b' aK=>setRow_other w g b' _ fun e=>hI.apart g ho (e▸aK)) fun _ h=>h;rw [show q*K+z-(q*K+j)=z-j by omega];exact ⟨by simpa [aV] using Vc.1,by simpa [aV] using h2⟩
        ·rw [if_neg (by omega),if_neg (by omega),zu,if_neg q1,if_neg q2];rw [wj jE] at hold;have h2:=hold.2.frame (w':=w.setRow g (cur.toList.take (q*K+j)++vy.cells.toList++cur.toList.drop (q*K+j+vy.cells.toList.length)).toArray) (fun b' aK=>setRow_other w g b' _ fun e=>hI.apart g ho (e▸aK)) fun _ h=>h;exact ⟨by simpa [aV] using hold.1,by simpa [aV] using h2⟩
      ·rw [if_neg mQ]
       have th:q*K+z<m*K+j∨m*K+j+i.cells≤q*K+z:=by
        rcases Nat.lt_or_gt_of_ne mQ with h|h
        ·left
         calc q*K+z<q*K+K:=by omega
          _=(q+1)*K:=by rw [bP];omega
          _≤m*K:=cG _ h
          _≤m*K+j:=by omega
        ·right
         calc m*K+j+i.cells≤m*K+K:=by omega
          _=(m+1)*K:=by rw [bP];omega
          _≤q*K:=cG _ h
          _≤q*K+z:=by omega
       have h2:=hold.2.frame (w':=w.setRow g (cur.toList.take (m*K+j)++vy.cells.toList++cur.toList.drop (m*K+j+vy.cells.toList.length)).toArray) (fun b' aK=>setRow_other w g b' _ fun e=>hI.apart g ho (e▸aK)) fun _ h=>h
       rcases th with h|h
       ·rw [if_pos h];exact ⟨by simpa [aV] using hold.1,by simpa [aV] using h2⟩
       ·rw [if_neg (by omega),if_neg (by omega)];exact ⟨by simpa [aV] using hold.1,by simpa [aV] using h2⟩
   ·cases h
  ·cases h
 ·cases h
end
end
section
open Go.RowKit
variable [M:bM] [G:cK]
section
variable {P:Program} {T:TT} {w:World} {F:Nat→Prop} {β:Nat→Value} {st:ae} {k:AV→ae→Prop}
def AU:Chunk→Bool
 |.box cells=>cells.all fp
 |.own ..=>true
 |.mp ..=>true
 |.lp ..=>false
 |.si ..=>true
def pE {F':Nat→Prop} {av:Nat→Value} {i j:Nat} {c:Chunk} (hc:AU c=true) (hF:∀b,F b→F' b) (ah:av j=β i) (h:c.holds w F β i):c.holds w F' av j:=by
 cases c with
 |box cells =>
  obtain ⟨b,cs,e,hb,hh,hs,h1,hr⟩:=h;refine ⟨b,cs,e,ah.trans hb,hh,hs,h1,fun k hk=>?_⟩;have:fp (cells.getD k .χ)=true:=ej.1 hc _ (by rw [fW,bU hk];exact eI _);exact .i ((nQ this (hr k hk)).frame (fun _ _=>rfl) hF)
 |si s pos =>
  unfold Chunk.holds at *;rw [ah];exact h
 |mp ag rows =>
  unfold Chunk.holds at *;rw [ah];obtain ⟨b,es,ck,h0,hh,bV,hs,hm,hr⟩:=h;refine ⟨b,es,ck,h0,hh,bV,hs,hm,fun i r hi=>?_⟩;obtain ⟨e,h1,h2,h3,h4⟩:=hr i r hi;exact ⟨e,h1,h2,h3,h4.frame (fun _ _=>rfl) hF⟩
 |lp l e R L=>cases hc
 |own E K rows =>
  unfold Chunk.holds at *;rw [ah]
  rcases h with h|⟨g,cap,cur,hv,hc,hg,hn,hm,hs,hk,hr⟩
  ·exact .inl h
  ·exact .inr ⟨g,cap,cur,hv,hc,hg,hn,hm,hs,hk,fun i j hi hj=>⟨(hr i j hi hj).1,(hr i j hi hj).2.frame (fun _ _=>rfl) hF⟩⟩
def lx {id:Nat} {rows:List (List AV)}:∀{H:Hp} {i:Nat} {c:Chunk},(i,c)∈oA id rows H→i≠id∧∃c',(i,c')∈H∧c=S4 id rows c'
 |[],_,_,h=>by cases h
 |(j,c')::r,i,c,h=>by
  simp only [oA] at h;cases hb:aH j id with
  |true =>
   rw [hb] at h;obtain ⟨h1,c2,h2,h3⟩:=lx (H:=r) h;exact ⟨h1,c2,cu _ h2,h3⟩
  |false =>
   rw [hb] at h;simp only [cond_false,bf,il] at h
   rcases h with ⟨rfl,rfl⟩|h
   ·exact ⟨fun e=>(by rw [e,iW] at hb;cases hb),c',by simp,rfl⟩
   ·obtain ⟨h1,c2,h2,h3⟩:=lx (H:=r) h;exact ⟨h1,c2,cu _ h2,h3⟩
def DP {id:Nat} {rows:List (List AV)}:∀{H:Hp},(H.map (·.1)).Nodup→((oA id rows H).map (·.1)).Nodup
 |[],_=>by simp [oA]
 |(j,c)::r,h=>by
  simp only [jJ,iw] at h;simp only [oA];cases hb:aH j id with
  |true=>exact DP h.2
  |false =>
   simp only [cond_false,jJ,iw];refine ⟨fun hm=>?_,DP h.2⟩;obtain ⟨x,hx,lF⟩:=c9.1 hm;obtain ⟨i,c'⟩:=x;obtain ⟨_,c2,h2,_⟩:=lx hx;exact h.1 (c9.2 ⟨(i,c2),h2,lF⟩)
def V6 {id E K:Nat} {rows:List (List AV)} {u:Value} {H:Hp} (hI:Inv w F β H) (hm:(id,Chunk.own E K rows)∈H) (hu:Rd w F β (.o id) u):bg w (fun b=>F b∨bC β H b) (.s rows) u:=by
 obtain ⟨a,n,c,ah,rfl⟩:=hu.jY
 rcases hI.holds _ _ hm with ⟨rfl,a',hv⟩|⟨g,cap,cur,hv,hc,hg,hn,gp,hs,hK,hr⟩
 ·rw [ah] at hv;cases hv;exact .s0
 ·rw [ah] at hv;cases hv
  have h0:aH c 0=false:=by cases c<;>first|rfl|omega
  have eO:=(JC (hI.holds _ _ hm) ah).2.2.2;obtain ⟨u,hu⟩:=eO;exact .s (off:=0) (u:=u) (.inr ⟨id,_,hm,by rw [ah];simp [bR,h0]⟩) hn gp hK (fun i j hi hj=>by rw [jL];exact (hu i j hi hj).1) (fun i j hi hj=>(hu i j hi hj).2.1) fun i j hi hj=>(hu i j hi hj).2.2.frame (fun _ _=>rfl) fun _ h=>.inl h
def ow (id:Nat) (H:Hp):Hp:=H.filter fun p=>!Nat.beq p.1 id
def v8 {id:Nat} {H:Hp} {x:Nat×Chunk}:x∈ow id H↔x∈H∧x.1≠id:=by
 have hb:(!Nat.beq x.1 id)=true↔x.1≠id:=by
  cases h:aH x.1 id with
  |true=>simp [cT h]
  |false=>simp only [Bool.not_false,true_iff];exact fun e=>by rw [e,iW] at h;cases h
 unfold ow;rw [List.mem_filter,hb]
def Inv.ow {H:Hp} (h:Inv w F β H) (id:Nat):Inv w F β (ow id H) :=
 ⟨h.cC,fun i c hm=>h.holds i c (v8.1 hm).1,(List.Sublist.map _ (List.filter_sublist)).nodup h.keys,fun b ⟨i,c,hm,hb⟩=>h.apart b ⟨i,c,(v8.1 hm).1,hb⟩,
  fun i c i' c' b h1 h2=>h.eC i c i' c' b (v8.1 h1).1 (v8.1 h2).1,h.fk⟩
def Mr {id E K:Nat} {rows:List (List AV)} {H:Hp} (hI:Inv w F β H) (hm:(id,Chunk.own E K rows)∈H) {u:Value} (hu:Rd w F β (.o id) u):bg w (fun b=>F b∨bR (β id)=some b) (.s rows) u:=by
 have h1:=hI.ow id
 have uF:Inv w F β [(id,.own E K rows)]:=⟨hI.cC,fun i c h=>by
   simp only [dC,il] at h;obtain ⟨rfl,rfl⟩:=h;exact hI.holds _ _ hm,by simp,
  fun b ⟨i,c,h,hb⟩=>by simp only [dC,il] at h;obtain ⟨rfl,rfl⟩:=h;exact hI.apart b ⟨_,_,hm,hb⟩,
  fun i c i' c' b h h' _ _=>by simp only [dC,il] at h h';rw [h.1,h'.1],hI.fk⟩
 refine (V6 uF (dC.2 rfl) hu).frame (fun _ _=>rfl) fun b hb=>hb.elim .inl fun ⟨i,c,h,hb⟩=>.inr ?_;simp only [dC,il] at h;rw [←h.1];exact hb
structure Src (w:World) (F:Nat→Prop) (K:Nat) (rows:List (List AV)) (ad:Addr) (news:List Value):Prop where
 len:news.length=rows.length*K
 cell:∀j v,news[j]?=some v→w.cell? (ad.add j)=some v
 one:∀u,u∈news→u.oneCell'=true
 rd:∀i j,i<rows.length→j<K→bg w F ((rows.getD i []).getD j .χ) (news.getD (i*K+j) undef)
def Ql {K K' b off:Nat} {rows:List (List AV)} {u:Nat→Nat→Value} (hlen:oZ rows K) (hK:∀i,i<rows.length→(rows.getD i []).length=K')
  (hv:∀i j,i<rows.length→j<K'→w.cell? ⟨b,off+(i*K'+j),none⟩=some (u i j)∧(u i j).oneCell'=true∧bg w F ((rows.getD i []).getD j .χ) (u i j)) :
  ∃news,Src w F K rows ⟨b,off,none⟩ news:=by
 have A9:rows=[]∨K'=K:=by
  cases rows with
  |nil=>exact .inl rfl
  |cons r rs=>exact .inr ((hK 0 (by simp)).symm.trans (hlen r (by simp)))
 refine ⟨(gw (rows.length*K)).map fun q=>u (q/K) (q % K),by simp,fun q v hq=>?_,fun v jV=>?_,fun i j hi hj=>?_⟩
 ·simp only [uj,Dj] at hq;obtain ⟨q',wG,rfl⟩:=hq;obtain ⟨Φ,rfl⟩:=fh.1 wG
  have Φ:q<rows.length*K:=by simpa using Φ
  simp only [List.getElem_range]
  rcases A9 with rfl|rfl
  ·simp at Φ
  ·have kK:0<K':=by
    rcases oW K' with h|h
    ·rw [h] at Φ;simp at Φ
    ·exact h
   have h1:q/K'<rows.length:=(qU kK).2 Φ;have:=(hv (q/K') (q % K') h1 (sy _ kK)).1;rw [gg]
   have e:q/K'*K'+q % K'=q:=by rw [og];exact Rq q K'
   rwa [e] at this
 ·obtain ⟨q,hq,rfl⟩:=c9.1 jV
  have Φ:q<rows.length*K:=by simpa using hq
  rcases A9 with rfl|rfl
  ·simp at Φ
  ·have kK:0<K':=by
    rcases oW K' with h|h
    ·rw [h] at Φ;simp at Φ
    ·exact h
   exact (hv (q/K') (q % K') ((qU kK).2 Φ) (sy _ kK)).2.1
 ·rcases A9 with rfl|rfl
  ·simp at hi
  ·have Φ:i*K'+j<rows.length*K':=by
    calc i*K'+j<i*K'+K':=by omega
     _=(i+1)*K':=by rw [bP];omega
     _≤rows.length*K':=cG _ hi
   have e1:(i*K'+j)/K'=i:=by rw [og,alA (by omega)];simp [alz hj]
   have e2:(i*K'+j) % K'=j:=by rw [og,Di];exact Dh hj
   have:=(hv i j hi hj).2.2;simpa [aV,Φ,e1,e2] using this
def ahT {x:AV} {vx:Value} {no K:Nat} {kk:List (List AV)→Prop} (hI:Inv w F β st.H) (hx:Rd w F β x vx) (h:Qk x no st.H kk) (hk:∀rows,kk rows→oZ rows K) :
  ∃rows,kk rows∧((vx=.slice none 0 0∧rows=[])∨∃ad c news,vx=.slice (some ad) rows.length c∧Src w F K rows ad news):=by
 unfold Qk at h;split at h
 ·rename_i rows;refine ⟨rows,h,?_⟩
  rcases hx.oP.tT with ⟨rfl,a,rfl⟩|⟨b,off,c,K',v,hb,hc,hm,rfl,hK,hv⟩
  ·cases a with
   |none=>exact .inl ⟨rfl,rfl⟩
   |some ad=>exact .inr ⟨ad,0,[],rfl,by simp,fun j v hj=>by simp at hj,fun u hu=>by simp at hu,fun i j hi=>by simp at hi⟩
  ·obtain ⟨news,hn⟩:=Ql (hk _ h) hK hv;exact .inr ⟨_,_,news,rfl,hn⟩
 ·cases hx.bN;exact ⟨[],h,.inl ⟨rfl,rfl⟩⟩
 ·rename_i id;cases hb:aH id no with
  |true=>rw [hb] at h;cases h
  |false =>
   rw [hb] at h;simp only [cond_false] at h;split at h
   ·rename_i E K' rows hc;refine ⟨rows,h,?_⟩;obtain ⟨a,n,c,ah,rfl⟩:=hx.jY;have hh:=hI.holds _ _ (eZ hc)
    rcases tE hh with ⟨rfl,a',hv⟩|⟨g,cap,hv,hm,hn⟩
    ·rw [ah] at hv;cases hv;cases a with
     |none=>exact .inl ⟨rfl,rfl⟩
     |some ad =>
      refine .inr ⟨ad,0,[],rfl,by simp,fun j v hj=>by simp at hj,fun u hu=>by simp at hu,fun i j hi=>by simp at hi⟩
    ·rw [ah] at hv;cases hv;obtain ⟨_,_,_,u,hu⟩:=JC hh ah;obtain ⟨news,hn⟩:=Ql (b:=g) (off:=0) (u:=u) (hk _ h) (V5 hh) (fun i j hi hj=>by have:=hu i j hi hj;rwa [jL]);exact .inr ⟨_,_,news,rfl,hn⟩
   ·cases h
 ·cases h
def Fi {d E K cap:Nat} {rows:List (List AV)} {us:Array Value} {w1:World} (hd:d<1000) (hI:Inv w F β st.H) (hh:w1.heap=w.heap) (ho:w1.os=w.os) (ht:jt w w1) (hp:w1.output=w.output)
  (hs:us.size=cap*K) (hn:rows.length≤cap) (hm:cap≤maxLen) (hK:∀i,i<rows.length→(rows.getD i []).length=K)
  (hr:∀i j,i<rows.length→j<K→(us.getD (i*K+j) undef).oneCell'=true∧bg w F ((rows.getD i []).getD j .χ) (us.getD (i*K+j) undef))
  (hk:k (.o d) (gJ st d (.own E K rows))):EPost w F β st k (.slice (some ⟨w.heap.size,0,none⟩) rows.length cap) (w1.alloc (.cells us E)):=by
 have aR:∀b,b<w.heap.size→(w1.alloc (.cells us E)).heap[b]?=w.heap[b]?:=fun b hb=>by
  rw [_root_.Go.heap_alloc_old w1 _ (by rw [hh];exact hb),hh]
 have eS:(w1.alloc (.cells us E)).heap[w.heap.size]?=some (.cells us E (0,0)):=by rw [←hh];exact heap_alloc_new w1 _
 have ha:ga F w (w1.alloc (.cells us E)):=fun b hb=>aR b (hI.cC b hb);refine ⟨_,_,F,_,hk,.o (by simp),qc (v:=.slice (some ⟨w.heap.size,0,none⟩) rows.length cap) hd hI ho ht hp (by simp [hh]) (fun b hb _=>aR b hb) (fun i c b _ hm hb=>aR b (hI.fM ⟨i,c,hm,hb⟩)) (fun b hb=>?_) ?_⟩
 ·cases h0:aH cap 0<;>simp [bR,h0] at hb
  left;omega
 ·by_cases h0:cap=0
  ·subst h0;have:rows=[]:=qQ (by omega);subst this;exact .inl ⟨rfl,_,by simp;rfl⟩
  ·exact .inr ⟨w.heap.size,cap,us,by simp,by omega,eS,hn,hm,hs,hK,fun i j hi hj=>⟨(hr i j hi hj).1,(hr i j hi hj).2.frame ha fun _ h=>h⟩⟩
def vP (A:Array Value) (l:List Value) (h:A.toList=l) (i:Nat):A.getD i undef=l.getD i undef:=by
 subst h;simp [lh,aV]
def K0 (z:Array Value) (n:Nat):(dB z n).size=n*z.size:=by simp [dB]
def J9 {rows bT:List (List AV)} {K:Nat} {xs news zs:List Value} (hx:xs.length=rows.length*K) (hn:news.length=bT.length*K)
  {Q:AV→Value→Prop} (h1:∀i j,i<rows.length→j<K→Q ((rows.getD i []).getD j .χ) (xs.getD (i*K+j) undef))
  (h2:∀i j,i<bT.length→j<K→Q ((bT.getD i []).getD j .χ) (news.getD (i*K+j) undef)) :
  ∀i j,i<(rows++bT).length→j<K→Q (((rows++bT).getD i []).getD j .χ) ((xs++news++zs).getD (i*K+j) undef):=by
 intro i j hi hj
 have below:∀m n,m<n→m*K+j<n*K:=fun m n h=>by
  calc m*K+j<m*K+K:=by omega
   _=(m+1)*K:=by rw [bP];omega
   _≤n*K:=cG _ h
 simp only [dj] at hi;by_cases Φ:i<rows.length
 ·have:=below i rows.length Φ
  have e1:(rows++bT).getD i []=rows.getD i []:=by simp [aV,gG,Φ]
  have e2:(xs++news++zs).getD (i*K+j) undef=xs.getD (i*K+j) undef:=by
   simp [aV,gG,hx,this]
  rw [e1,e2];exact h1 i j Φ hj
 ·have hb:=below (i-rows.length) bT.length (by omega);have gA:rows.length*K≤i*K+j:=fi (cG K (aly Φ)) (Nat.le_add_right _ _)
  have e1:(rows++bT).getD i []=bT.getD (i-rows.length) []:=by simp [aV,gG,Φ]
  have e0:i*K+j-rows.length*K=(i-rows.length)*K+j:=by rw [Nat.sub_mul];have:=cG K (aly Φ);omega
  have e2:(xs++news++zs).getD (i*K+j) undef=news.getD ((i-rows.length)*K+j) undef:=by
   have h3:¬i*K+j<rows.length*K:=by omega
   simp [aV,gG,hx,hn,h3,e0,hb]
  rw [e1,e2];exact h2 _ j (by omega) hj
def Pl {rows bT:List (List AV)} {K:Nat} (h1:∀i,i<rows.length→(rows.getD i []).length=K) (h2:oZ bT K):∀i,i<(rows++bT).length→((rows++bT).getD i []).length=K:=by
 intro i hi;simp only [dj] at hi;by_cases Φ:i<rows.length
 ·have e1:(rows++bT).getD i []=rows.getD i []:=by simp [aV,gG,Φ]
  rw [e1];exact h1 i Φ
 ·have tg:i-rows.length<bT.length:=by omega
  have e1:(rows++bT).getD i []=bT[i-rows.length]:=by simp [aV,gG,Φ,tg]
  rw [e1];exact h2 _ (eI _)
def agC (w:World) (t tx ty e:TypeId) (i:TypeInfo) (ht:P.underlying t=some (.slice e)) (hi:P.info? e=some i) (g lG z6:Nat) (cur:Array Value) (hg:w.heap[g]?=some (.cells cur e (0,0)))
  (x:Value) (n:Nat) (news:List Value) (hs:Go.Src P i.size tx x n news w) (fC:lG+n≤z6) (jj:lG*i.size+news.length≤cur.size) :
  (ib #[t,tx] ty #[.slice (some ⟨g,0,none⟩) lG z6,x]).run P w =
   .ok (.slice (some ⟨g,0,none⟩) (lG+n) z6) (w.setRow g (cur.toList.take (lG*i.size)++news++cur.toList.drop (lG*i.size+news.length)).toArray):=by
 have bV:=run_storeCells_at P g (lG*i.size) e news 0 cur w hg (by simpa using jj) hs.one;simp only [lO] at bV
 rcases hs.kind with ⟨e',hk⟩|hk<;>simp [ib,run_underlying ht,run_underlying hk,sizeOf,typeInfo,hi,hs.len,fC,hs.cells,gg,bV]
structure Hl (w:World) (F:Nat→Prop) (K:Nat) (rows:List (List AV)) (news:List Value):Prop where
 len:news.length=rows.length*K
 one:∀u,u∈news→u.oneCell'=true
 rd:∀i j,i<rows.length→j<K→bg w F ((rows.getD i []).getD j .χ) (news.getD (i*K+j) undef)
structure xA (P:Program) (t tx ty e:TypeId) (i:TypeInfo) (z:Value) (vx:Value) (n:Nat) (news:List Value) (w:World):Prop where
 none:n=0→news=[]→∀(base:Option Addr) (len cap:Nat),len≤cap→(ib #[t,tx] ty #[.slice base len cap,vx]).run P w=.ok (.slice base len cap) w
 grow:∀(base:Option Addr) (len cap:Nat) (olds:List Value),(xn i.size len (.slice base len cap)).run P w.drew=.ok olds.toArray w.drew→cap<len+n→((len+n:Nat):Int)≤9223372036854775807 →
  QV (len+n) cap*i.bytes≤281474976710656→(ib #[t,tx] ty #[.slice base len cap,vx]).run P w =
   .ok (.slice (some ⟨w.heap.size,0,.none⟩) (len+n) (grownCap w (len+n) cap e)) (w.drew.alloc (.cells ((olds++news).toArray++dB z.cells (grownCap w (len+n) cap e-(len+n))) e))
 room:∀(g len cap:Nat) (cur:Array Value),w.heap[g]?=some (.cells cur e (0,0))→len+n≤cap→len*i.size+news.length≤cur.size →
  (ib #[t,tx] ty #[.slice (some ⟨g,0,.none⟩) len cap,vx]).run P w =
   .ok (.slice (some ⟨g,0,.none⟩) (len+n) cap) (w.setRow g (cur.toList.take (len*i.size)++news++cur.toList.drop (len*i.size+news.length)).toArray)
def xA.aeA {t tx ty e:TypeId} {i:TypeInfo} {z vx:Value} {n:Nat} {news:List Value} (hu:P.underlying t=some (.slice e)) (hi:P.info? e=some i) (hz:i.zero=some z) (h:Go.Src P i.size tx vx n news w):xA P t tx ty e i z vx n news w where
 none h0 h1 base len cap hle:=by subst h0;subst h1;exact run_append_nothing w t tx ty e i hu hi base len cap hle vx h
 grow base len cap olds hold hg ME jj:=run_append_grow_src (P:=P) w t tx ty e i z hu hi hz base len cap olds hold vx n news h hg ME jj
 room g len cap cur hg fC jj:=agC (P:=P) w t tx ty e i hu hi g len cap cur hg vx n news h fC jj
def xA.akw {t tx ty e:TypeId} {i:TypeInfo} {z:Value} {kx kn:IntKind} {n:Nat} (hu:P.underlying t=some (.slice e)) (iR:P.underlying tx=some (.int kn)) (hi:P.info? e=some i) (hz:i.zero=some z) (iG:z.cells.size=i.size) (h1:∀v,v∈(dB z.cells n).toList→v.oneCell'=true)
  (hn:n≤140737488355328) (kM:n*i.bytes≤140737488355328):xA P t tx ty e i z (.int kx (n:Int)) n (dB z.cells n).toList w:=by
 have qo:IntKind.i64.wrap (n:Int)=(n:Int):=qO _ (by omega)
 have abO:(n:Int)*(i.bytes:Int)≤140737488355328:=by
  have h5:((n*i.bytes:Nat):Int)=(n:Int)*(i.bytes:Int):=Rh _ _;rw [←h5];omega
 have g1:¬((n:Int)<0):=by omega
 have g2:¬(281474976710656<(n:Int)*(i.bytes:Int)):=by omega
 have EU:n*i.size=0→dB z.cells n=#[]:=fun h=>by simp [dB,iG,h]
 refine ⟨fun h0 _ base len cap hle=>?_,fun base len cap olds hold hg ME jj=>?_,fun g len cap cur hg fC jj=>?_⟩
 ·subst h0;have EP:IntKind.i64.wrap 0=0:=rfl;cases base<;>simp [ib,run_underlying hu,run_underlying iR,sizeOf,typeInfo,hi,asInt,asIntOf,EP,hle,storeCells]
 ·have wC:¬(len+n≤cap):=by omega
  have Tn:¬(9223372036854775807<((len:Int)+(n:Int))):=by omega
  have Tm:¬(281474976710656<QV (len+n) cap*i.bytes):=by omega
  by_cases h5:n*i.size=0
  ·simp [ib,run_underlying hu,run_underlying iR,sizeOf,typeInfo,zeroValue,hi,hz,asInt,asIntOf,qo,g1,g2,wC,Tn,Tm,h5,EU h5,Ru,hold,newRow,grownCap]
  ·simp [ib,run_underlying hu,run_underlying iR,sizeOf,typeInfo,zeroValue,hi,hz,asInt,asIntOf,qo,g1,g2,wC,Tn,Tm,h5,Ru,hold,newRow,grownCap];congr 2;apply Array.ext';simp [lN]
 ·have bV:=run_storeCells_at P g (len*i.size) e (dB z.cells n).toList 0 cur w hg (by simpa using jj) h1;simp only [lO] at bV;by_cases h5:n*i.size=0
  ·rw [EU h5] at bV ⊢;simp [ib,run_underlying hu,run_underlying iR,sizeOf,typeInfo,hi,asInt,asIntOf,qo,g1,g2,fC,h5,gg,bV]
  ·simp [ib,run_underlying hu,run_underlying iR,sizeOf,typeInfo,zeroValue,hi,hz,asInt,asIntOf,qo,g1,g2,fC,h5,gg,bV]
def RS {t tx e L:Nat} {i j:TI} {ty:TypeId} {rows bT:List (List AV)} {v vx:Value} (hd:L<1000) (hT:bO P T) (hI:Inv w F β st.H) (hi:T t=some i) (he:i.kind=.slice e) (hj:T e=some j)
  (eo:j.bytes≠0) (hz:j.zero.cells.size=j.cells)
  (hv:(rows=[]∧v=.slice none 0 0)∨((L,Chunk.own e j.cells rows)∈st.H∧β L=v))
  (hx:∃news,(∀i z,P.info? e=some i→i.zero=some z→i.size=j.cells→i.bytes=j.bytes→xA P t tx ty e i z vx bT.length news w)∧Hl w F j.cells bT news)
  (hlen:oZ bT j.cells) (nC:(rows.length+bT.length)*j.bytes≤140737488355328)
  (hk:k (.o L) (gJ st L (.own e j.cells (rows++bT)))) :
  ∃v' w',(ib #[t,tx] ty #[v,vx]).run P w=.ok v' w'∧EPost w F β st k v' w':=by
 have hu:=(hT _ _ hi).slice he;obtain ⟨inf,pr,hzero,eL,kM⟩:=(hT _ _ hj).info;have dN:rows.length+bT.length≤140737488355328:=fi (Rr _ (Rt eo)) nC
 have jC:rows.length+bT.length≤maxLen:=by unfold maxLen;omega
 have same:∀a,(rows=[]∧v=.slice none 0 0)∨((L,Chunk.own e j.cells rows)∈st.H∧β L=v)→bT=[]→v=.slice a rows.length rows.length∨True→EPost w F β st k v w:=by
  intro a jV hr _;subst hr;refine ⟨_,_,F,fun q=>if q=L then v else β q,hk,?_,qc (v:=v) hd hI rfl ⟨rfl,fun _=>(by first|exact bG _|exact j2 _)⟩ rfl (bG _) (fun _ _ _=>rfl) (fun _ _ _ _ _ _=>rfl) (fun b hb=>?_) ?_⟩
  ·rcases jV with ⟨_,rfl⟩|⟨hm,ah⟩
   ·exact .o (by simp)
   ·rcases tE (hI.holds _ _ hm) with ⟨_,a,ha⟩|⟨g,cap,ha,_⟩
    ·rw [ah] at ha;subst ha;exact .o (by simp)
    ·rw [ah] at ha;subst ha;exact .o (by simp)
  ·rcases jV with ⟨_,rfl⟩|⟨hm,ah⟩
   ·simp [bR] at hb
   ·exact .inr ⟨_,hm,by rw [ah];exact hb⟩
  ·rw [xq]
   rcases jV with ⟨rfl,rfl⟩|⟨hm,ah⟩
   ·exact .inl ⟨rfl,none,by simp⟩
   ·have:=hI.holds _ _ hm;unfold Chunk.holds at this ⊢;simpa [ah] using this
 have form:(rows=[]∧∃a,v=.slice a 0 0)∨∃g cap cur,(L,Chunk.own e j.cells rows)∈st.H∧β L=v∧v=.slice (some ⟨g,0,none⟩) rows.length cap∧0<cap∧w.heap[g]?=some (.cells cur e (0,0))∧rows.length≤cap∧cap≤maxLen ∧
   cur.size=cap*j.cells∧(∀i,i<rows.length→(rows.getD i []).length=j.cells) ∧
   ∀q z,q<rows.length→z<j.cells→(cur.getD (q*j.cells+z) undef).oneCell'=true∧bg w F ((rows.getD q []).getD z .χ) (cur.getD (q*j.cells+z) undef):=by
  rcases hv with ⟨hr,rfl⟩|⟨hm,ah⟩
  ·exact .inl ⟨hr,none,rfl⟩
  ·rcases hI.holds _ _ hm with ⟨hr,a,ha⟩|⟨g,cap,cur,ha,h1,h2,h3,h4,h5,h6,h7⟩
   ·exact .inl ⟨hr,a,by rw [←ah,ha]⟩
   ·exact .inr ⟨g,cap,cur,hm,ah,by rw [←ah,ha],h1,h2,h3,h4,h5,h6,h7⟩
 obtain ⟨news,wB,iF⟩:=hx;have Iy:=wB inf _ pr hzero eL kM
 have EA:news.length=bT.length*inf.size:=by rw [eL];exact iF.len
 ·
  rcases form with ⟨rfl,a,rfl⟩|⟨g,cap,cur,hm,ah,rfl,iO,hg,hn,gp,fZ,hK,fB⟩
  ·by_cases h0:bT=[]
   ·subst h0;refine ⟨_,w,?_,same none hv rfl (.inr Lo)⟩;have Bx:news=[]:=qQ (by simpa using iF.len);subst Bx;exact Iy.none rfl rfl a 0 0 (bG _)
   ·have rI:0<bT.length:=List.length_pos_iff.2 h0;simp only [List.length_nil,jL] at nC dN jC;have Ew:=grownCap_ge w bT.length 0 e;have Ex:=grownCap_le_maxLen w bT.length 0 e jC
    have post:EPost w F β st k (.slice (some ⟨w.heap.size,0,none⟩) bT.length (grownCap w bT.length 0 e)) (w.drew.alloc (.cells (news.toArray++dB j.zero.cells (grownCap w bT.length 0 e-bT.length)) e)):=by
     refine Fi (d:=L) (K:=j.cells) (rows:=bT) hd hI rfl rfl ⟨rfl,fun _=>j2 _⟩ rfl ?_ Ew Ex (fun q hq=>?_) (fun q z hq hz=>?_) (by simpa using hk)
     ·simp only [uf,ll,K0,iF.len,hz,←bP];congr 1;omega
     ·have:=hlen (bT.getD q []) (by rw [fW,bU hq];exact eI _);exact this
     ·have:=J9 (rows:=[]) (xs:=[]) (zs:=(dB j.zero.cells (grownCap w bT.length 0 e-bT.length)).toList) (Q:=fun x u=>u.oneCell'=true∧bg w F x u) (by simp) iF.len (fun _ _ h=>by simp at h) (fun i j' hi dq=>⟨iF.one _ ?_,iF.rd i j' hi dq⟩) q z (by simpa using hq) hz
      ·rw [vP _ ([]++news++(dB j.zero.cells (grownCap w bT.length 0 e-bT.length)).toList) (by simp)];exact this
      ·have Φ:i*j.cells+j'<news.length:=by
        rw [iF.len]
        calc i*j.cells+j'<i*j.cells+j.cells:=by omega
         _=(i+1)*j.cells:=by rw [bP];omega
         _≤bT.length*j.cells:=cG _ hi
       rw [fW,bU Φ];exact eI _
    have hold:(xn inf.size 0 (.slice a 0 0)).run P w.drew=.ok ([]:List Value).toArray w.drew:=by cases a<;>simp [xn,loadCells,loadCellsFrom]
    have hr:=Iy.grow a 0 0 [] hold (by omega) (by omega) (by rw [kM];exact growslice_fits (by omega) (by rw [jL];exact nC));simp only [jL,List.nil_append] at hr;exact ⟨_,_,hr,post⟩
  ·-- a block of its own
   have hrc:rows.length*j.cells≤cap*j.cells:=cG _ hn
   have h0:aH cap 0=false:=by cases cap<;>first|rfl|omega
   have dr:bC β st.H g:=⟨L,_,hm,by rw [ah];simp [bR,h0]⟩;let xs:List Value:=cur.toList.take (rows.length*j.cells)
   have nP:xs.length=rows.length*j.cells:=by simp only [xs,dR,lJ];omega
   have below:∀(m n z:Nat),m<n→z<j.cells→m*j.cells+z<n*j.cells:=fun m n z h hz=>by
    calc m*j.cells+z<m*j.cells+j.cells:=by omega
     _=(m+1)*j.cells:=by rw [bP];omega
     _≤n*j.cells:=cG _ h
   have hxg:∀q z,q<rows.length→z<j.cells→xs.getD (q*j.cells+z) undef=cur.getD (q*j.cells+z) undef:=fun q z hq hz=>by
    have h1:=below q rows.length z hq hz
    have h2:q*j.cells+z<cur.size:=by omega
    simp [xs,aV,h1,h2]
   have h2:∀q z,q<bT.length→z<j.cells→(news.getD (q*j.cells+z) undef).oneCell'=true∧bg w F ((bT.getD q []).getD z .χ) (news.getD (q*j.cells+z) undef):=fun q z hq hz=>by
    refine ⟨iF.one _ ?_,iF.rd q z hq hz⟩
    have Φ:q*j.cells+z<news.length:=by rw [iF.len];exact below q _ z hq hz
    rw [fW,bU Φ];exact eI _
   have h1:∀q z,q<rows.length→z<j.cells→(xs.getD (q*j.cells+z) undef).oneCell'=true∧bg w F ((rows.getD q []).getD z .χ) (xs.getD (q*j.cells+z) undef):=fun q z hq hz=>by
    rw [hxg q z hq hz];exact fB q z hq hz
   by_cases fC:rows.length+bT.length≤cap
   ·have jj:rows.length*inf.size+news.length≤cur.size:=by
     rw [EA,eL,fZ,←bP];exact cG _ fC
    have hr:=Iy.room g rows.length cap cur hg fC jj;rw [eL] at hr;refine ⟨_,_,hr,_,_,F,fun q=>if q=L then .slice (some ⟨g,0,none⟩) (rows.length+bT.length) cap else β q,hk,.o (by simp),?_⟩;have gX:∀b cs,b≠g→(w.setRow g cs).heap[b]?=w.heap[b]?:=fun b cs hb=>setRow_other w g b cs hb;refine qc (v:=.slice (some ⟨g,0,none⟩) (rows.length+bT.length) cap) hd hI rfl ⟨rfl,fun _=>(by first|exact bG _|exact j2 _)⟩ rfl (by simp) (fun b _ ho=>gX b _ fun e=>ho (e▸dr)) (fun i' c' b aP bW hb=>gX b _ fun e=>aP (hI.eC i' c' L _ b bW hm hb (by rw [ah,e];simp [bR,h0]))) (fun b hb=>?_) (.inr ?_)
    ·refine .inr ⟨_,hm,?_⟩;rw [ah];simpa [bR,h0] using hb
    ·have ha:∀cs,ga F w (w.setRow g cs):=fun cs b hb=>gX b cs fun e=>hI.apart g dr (e▸hb);refine ⟨g,cap,(xs++news++cur.toList.drop (rows.length*j.cells+news.length)).toArray,by simp,iO,setRow_heap w g cur _ e _ hg,by simpa using fC,gp,?_,Pl hK hlen,fun q z hq hz=>?_⟩
     ·simp only [ll,dj,l9,lJ];rw [eL] at jj;omega
     ·have:=J9 (zs:=cur.toList.drop (rows.length*j.cells+news.length)) (Q:=fun x u=>u.oneCell'=true∧bg w F x u) nP iF.len h1 h2 q z hq hz;rw [vP _ (xs++news++cur.toList.drop (rows.length*j.cells+news.length)) rfl];exact ⟨this.1,this.2.frame (ha _) fun _ h=>h⟩
   ·have eO:∀q u,xs[q]?=some u→w.cell? ((⟨g,0,none⟩:Addr).add q)=some u:=fun q u hq=>by
     rw [gg,jL,cell_of_row w g q cur e (0,0) hg];simp only [xs,gk] at hq;split at hq
     ·simpa using hq
     ·cases hq
    have hold:=run_firstCells_some (P:=P) w.drew inf.size rows.length ⟨g,0,none⟩ rows.length cap xs (by rw [eL];exact nP) (by simpa using eO);have hr:=Iy.grow (some ⟨g,0,none⟩) rows.length cap xs hold (by omega) (by omega) (by rw [kM];exact growslice_fits (by omega) nC);refine ⟨_,_,hr,?_⟩;have Ew:=grownCap_ge w (rows.length+bT.length) cap e;have Ex:=grownCap_le_maxLen w (rows.length+bT.length) cap e jC;have:=Fi (d:=L) (E:=e) (K:=j.cells) (cap:=grownCap w (rows.length+bT.length) cap e) (rows:=rows++bT) (us:=(xs++news).toArray++dB j.zero.cells (grownCap w (rows.length+bT.length) cap e-(rows.length+bT.length)))
     (w1:=w.drew) (k:=k) hd hI rfl rfl ⟨rfl,fun _=>j2 _⟩ rfl ?_ (by simpa using Ew) Ex (Pl hK hlen) (fun q z hq hz=>?_) hk
    ·simpa using this
    ·simp only [uf,ll,dj,K0,iF.len,nP,hz,←bP];congr 1;omega
    ·have:=J9 (zs:=(dB j.zero.cells (grownCap w (rows.length+bT.length) cap e-(rows.length+bT.length))).toList) (Q:=fun x u=>u.oneCell'=true∧bg w F x u) nP iF.len h1 h2 q z hq hz;rw [vP _ (xs++news++(dB j.zero.cells (grownCap w (rows.length+bT.length) cap e-(rows.length+bT.length))).toList) (by simp)];exact this
def LI {t tx e L:Nat} {i j:TI} {ty:TypeId} {rows bT:List (List AV)} {v vx:Value} (hd:L<1000) (hT:bO P T) (hI:Inv w F β st.H) (hi:T t=some i) (he:i.kind=.slice e) (hj:T e=some j)
  (eo:j.bytes≠0) (hz:j.zero.cells.size=j.cells)
  (hv:(rows=[]∧v=.slice none 0 0)∨((L,Chunk.own e j.cells rows)∈st.H∧β L=v))
  (hx:∃news,Go.Src P j.cells tx vx bT.length news w∧Hl w F j.cells bT news)
  (hlen:oZ bT j.cells) (nC:(rows.length+bT.length)*j.bytes≤140737488355328)
  (hk:k (.o L) (gJ st L (.own e j.cells (rows++bT)))) :
  ∃v' w',(ib #[t,tx] ty #[v,vx]).run P w=.ok v' w'∧EPost w F β st k v' w':=by
 have hu:=(hT _ _ hi).slice he;obtain ⟨news,wB,iF⟩:=hx;exact RS hd hT hI hi he hj eo hz hv ⟨news,fun i z h1 h2 h3 _=>xA.aeA hu h1 h2 (by rw [h3];exact wB),iF⟩ hlen nC hk
end
end
section
open Go.RowKit
variable [M:bM] [G:cK]
section
variable {P:Program} {T:TT} {w:World} {F:Nat→Prop} {β:Nat→Value} {st:ae} {k:AV→ae→Prop}
def aa0 {t d:Nat} (hd:d<1000) (hT:bO P T) (hI:Inv w F β st.H) (h:Mf T t d st k):cW P (do pure (.value (←Rf t none))) w F β st k:=by
 unfold Mf at h;split at h
 ·rename_i ti jF;split at h
  ·rename_i kt e hk;split at h
   ·rename_i ik ie nH uN;split at h
    ·have aY:(Rf t none).run P w=.ok (.map (some w.heap.size)) (w.alloc (.map #[] 0)):=by simp [Rf,newObj,G']
     have hb:=vR w (.map #[] 0);have eS:(w.alloc (.map #[] 0)).heap[w.heap.size]?=some (.map #[] 0):=(Go.MapKept.heap_alloc w _).1;refine cW.value aY ⟨_,_,F,fun q=>if q=d then .map (some w.heap.size) else β q,h,.m (by simp),qc (v:=.map (some w.heap.size)) hd hI hb.os hb.tape hb.output hb.size (fun b aK _=>hb.block b aK) (fun i c' b _ hm aK=>hb.block b (hI.fM ⟨i,c',hm,aK⟩)) (fun b aK=>.inl ?_) ?_⟩
     ·simp [bR] at aK;omega
     ·exact ⟨w.heap.size,#[],0,by simp,eS,Go.MapKept.stamped_empty 0,rfl,by simp,fun i r hi=>by simp at hi⟩
    ·cases h
   ·cases h
  ·cases h
 ·cases h
def Xl {w:World} {b b':Nat} (o:Obj) (h:b'≠b):({ w with heap:=w.heap.setIfInBounds b o }:World).heap[b']?=w.heap[b']?:=by
 simp [Array.getElem?_setIfInBounds,Ne.symm h]
def SD {t:Nat} {m i y:AV} {vm vi vy:Value} (hT:bO P T) (hI:Inv w F β st.H) (hm:Rd w F β m vm) (hi:Rd w F β i vi) (hy:Rd w F β y vy) (h:HV T t m i y st k) :
  cW P (do GZ t vm vi vy;pure .skip) w F β st k:=by
 unfold HV at h;split at h
 ·rename_i ti jF;split at h
  ·rename_i kt e hk;have hu:=(hT _ _ jF).map hk;split at h
   ·rename_i ik nH;split at h
    ·rename_i id n rC;have hd:=(hT _ _ nH).int rC;cases hi.bN;split at h
     ·rename_i ag rows hc;split at h
      ·rename_i yc hyc;obtain ⟨hn,hlen,R,rfl,cI⟩:=h;have bI:=eZ hc;obtain ⟨b,ah,rfl⟩:=hm.zz;obtain ⟨b',es,ck,iT,hh,bV,hs,gp,wJ⟩:=hI.holds _ _ bI;rw [ah] at iT;cases iT;have rp:b<w.heap.size:=kF hh;have hg:=Go.MapKept.run_getObj_map (P:=P) hh;have eP:=Go.MapKept.run_checkKey (P:=P) (w:=w) (k:=.int .i64 n) hd rfl false 9999;obtain ⟨d_,hf⟩:=SV bV hs wJ n;have Va:=VW hyc hy
       have hblk:bR (β id)=some b:=by rw [ah];rfl
       have fin:∀(nv:Array MapEntry) (Dx:Nat),(GZ t (.map (some b)) (.int .i64 n) vy).run P w=.ok () { w with heap:=w.heap.setIfInBounds b (.map nv Dx) } →
         Go.MapKept.Stamped nv Dx→nv.size=(ak n yc rows).length→nv.size≤140737488355328 →
         (∀(i:Nat) (r:Int×List AV),(ak n yc rows)[i]?=some r→∃e:MapEntry,nv[i]?=some e∧e.key=.int .i64 r.1∧Θ r.1∧bg w F (sa ag r.2) e.val) →
         cW P (do GZ t (.map (some b)) (.int .i64 n) vy;pure .skip) w F β st k:=fun nv Dx aY h1 h2 h3 h4=>by
        have sW:ga F w { w with heap:=w.heap.setIfInBounds b (.map nv Dx) }:=fun q hq=>Xl _ fun e=>hI.apart b ⟨id,_,bI,hblk⟩ (e▸hq);refine cW.skip aY ⟨_,_,F,β,cI,.i (.v (.inr rfl)),wb hI bI rfl ⟨rfl,fun _=>bG _⟩ rfl (by simp) (fun b' aK=>Xl _ fun e=>aK (by rw [hblk,e])) ?_⟩;refine ⟨b,nv,Dx,ah,(Go.MapKept.heap_set hh).1,h1,h2,h3,fun i r nI=>?_⟩;obtain ⟨e,g1,g2,g3,g4⟩:=h4 i r nI;exact ⟨e,g1,g2,g3,g4.frame sW fun _ h=>h⟩
       rcases hf with ⟨h1,h2,h3⟩|⟨j,e0,c',h1,h2,Uj,h3,h4,_,h6⟩
       ·have yH:=GX (P:=P) (w:=w) hd h1
        have jT:ak n yc rows=rows++[(n,yc)]:=by
         rcases BR n yc rows with ⟨_,h,_⟩|⟨j,c,_,h,_⟩
         ·exact h
         ·rw [h2] at h;cases h
        refine fin (es.push { key:=.int .i64 n,val:=vy,born:=ck }) (ck+1) ?_ (Go.MapKept.stamped_push bV h3) (by rw [jT];simp [hs]) (by simp;omega) (fun i r nI=>?_)
        ·have NU:=Zh (P:=P) (.map (es.push { key:=.int .i64 n,val:=vy,born:=ck }) (ck+1)) hh;simp [GZ,run_underlying hu,hg,eP,yH,NU]
        ·rw [jT] at nI
         rcases Nat.lt_or_ge i rows.length with Φ|gA
         ·rw [List.getElem?_append_left Φ] at nI;obtain ⟨e,g1,g2⟩:=wJ i r nI;exact ⟨e,by rw [na,if_neg (by omega)];exact g1,g2⟩
         ·rw [List.getElem?_append_right gA] at nI
          have ry:i-rows.length=0:=by
           have:=(fh.1 nI).1;simpa using this
          rw [ry] at nI;cases nI;exact ⟨_,by rw [na,if_pos (by omega)],rfl,hn,Va⟩
       ·have yH:=GX (P:=P) (w:=w) hd h1;have s9:j<es.size:=(Array.getElem?_eq_some_iff.1 h2).1;have iv:=Go.MapKept.run_keyThatStays (P:=P) (w:=w) (d:=.int .i64) (k:=.int .i64 n) rfl;let nv:=es.modify j fun e=>{ e with key:=.int .i64 n,val:=vy };have lB:∀i,nv[i]?=if j=i then (es[i]?).map (fun e=>{ e with key:=.int .i64 n,val:=vy }) else es[i]?:=fun i=>Array.getElem?_modify;refine fin nv ck ?_ (Go.MapKept.stamped_modify bV j _ (fun _ _=>rfl) fun e _ he=>by rw [h2] at he;cases he;exact Uj.symm) (by rw [h6];simp [nv,hs]) (by simpa [nv] using gp) (fun i r nI=>?_)
        ·have NU:=Zh (P:=P) (.map nv ck) hh;simp [GZ,run_underlying hu,hg,eP,yH,h2,Uj,iv,NU,nv]
        ·rw [h6,List.getElem?_set] at nI;rw [lB];by_cases uO:j=i
         ·subst uO;rw [if_pos rfl,if_pos (by omega)] at nI;cases nI;rw [if_pos rfl,h2];exact ⟨_,rfl,rfl,hn,Va⟩
         ·rw [if_neg uO] at nI;rw [if_neg uO];exact wJ i r nI
      ·cases h
     ·cases h
    ·cases h
   ·cases h
  ·cases h
 ·cases h
end
end
section
open Go.RowKit
variable [M:bM] [G:cK]
section
variable {P:Program} {T:TT} {w:World} {F:Nat→Prop} {β:Nat→Value} {st:ae} {k:AV→ae→Prop}
def LH {t t' e no:Nat} {i j:TI} {x:AV} {vx:Value} {kk:List (List AV)→Prop} (hT:bO P T) (hI:Inv w F β st.H) (hi:T t=some i) (he:i.kind=.slice e) (_hj:T e=some j) (hx:Rd w F β x vx) (h:Ds T t t' e x no st.H kk) (hk:∀rows,kk rows→oZ rows j.cells) :
  ∃rows,kk rows∧∃news,Go.Src P j.cells t' vx rows.length news w∧Hl w F j.cells rows news:=by
 unfold Ds at h;cases hb:aH t t' with
 |true =>
  rw [hb] at h;obtain rfl:=cT hb;have hu:=(hT _ _ hi).slice he;obtain ⟨rows,rC,gr⟩:=ahT hI hx h hk;refine ⟨rows,rC,?_⟩
  rcases gr with ⟨rfl,rfl⟩|⟨ad,c,news,rfl,hs⟩
  ·exact ⟨[],Go.Src.ofNil w hu 0,⟨by simp,fun u hu=>by simp at hu,fun i j hi=>by simp at hi⟩⟩
  ·exact ⟨news,Go.Src.ofSlice w hu ad rows.length c news hs.len hs.cell hs.one,⟨hs.len,hs.one,hs.rd⟩⟩
 |false =>
  rw [hb] at h;simp only [cond_false] at h;split at h
  ·rename_i i' je s bm Bn;split at h
   ·rename_i ac5 U2;obtain ⟨ax,h⟩:=cond_prop h
    have hj:j=je:=by rw [_hj] at Bn;exact Option.some.inj Bn
    have ax:j.cells=1:=by rw [hj];exact cT ax
    have hu:=(hT _ _ bm).str ac5;cases hx.bN;refine ⟨_,h,byteCells s,?_,?_⟩
    ·rw [ax];have:=Go.Src.ofString w hu s
     have e:(s.data.toList.map lv).length=s.size:=by rw [az,lJ];rfl
     rw [e];exact this
    ·rw [ax];refine ⟨by simp [byteCells],fun u hu=>by obtain ⟨_,_,rfl⟩:=c9.1 hu;rfl,fun a b ha hb=>?_⟩
     have eo:b=0:=by omega
     subst eo
     have sV:a<s.data.toList.length:=by simpa using ha
     have e1:((s.data.toList.map lv).getD a []).getD 0 .χ=.v (.int .u8 ((s.data.toList[a]).toNat:Int)):=by
      have e0:(s.data.toList.map lv).getD a []=lv (s.data.toList[a]):=by rw [fW,uj,bU sV];rfl
      rw [e0];rfl
     have e2:(byteCells s).getD (a*1+0) undef=.int .u8 ((s.data.toList[a]).toNat:Int):=by
      rw [Nat.mul_one,lO,fW];unfold byteCells;rw [uj,bU sV];rfl
     rw [e1,e2];exact .v (.inl rfl)
   ·cases h
  ·cases h
def SB {t t' d:Nat} {s x:AV} {vs vx:Value} (hd:d<1000) (hT:bO P T) (hI:Inv w F β st.H) (hs:Rd w F β s vs) (hx:Rd w F β x vx) (h:AX T t t' s x d st k) (ty:TypeId) :
  cW P (do pure (.value (←ib #[t,t'] ty #[vs,vx]))) w F β st k:=by
 unfold AX at h;split at h
 ·rename_i i hi;split at h
  ·rename_i e he;split at h
   ·rename_i j hj;cases hb:(aH j.bytes 0||(aH j.cells 0||!(aH j.zero.cells.size j.cells))) with
    |true=>rw [hb] at h;cases h
    |false =>
     rw [hb] at h;simp only [cond_false] at h;simp only [QT,QS] at hb;obtain ⟨eo,_,hz⟩:=hb;have hz:j.zero.cells.size=j.cells:=cT hz
     have eo:j.bytes≠0:=fun e=>by rw [e] at eo;cases eo
     split at h
     ·cases hs.bN;obtain ⟨bT,⟨hlen,kM,R,rfl,hk⟩,gr⟩:=LH hT hI hi he hj hx h fun rows h=>h.1;obtain ⟨v',w',hr,hp⟩:=LI (P:=P) (L:=d) (ty:=ty) (rows:=[]) hd hT hI hi he hj eo hz (.inl ⟨rfl,rfl⟩) gr hlen (by simpa using kM) (by simpa using hk);exact cW.value hr hp
     ·rename_i id;split at h
      ·rename_i E K rows hc;obtain ⟨Ix,h'⟩:=cond_prop h;clear h;simp only [bE] at Ix
       have hid:id<1000:=by simpa using Ix.2
       obtain rfl:=cT Ix.1.1;obtain rfl:=cT Ix.1.2;obtain ⟨bT,⟨hlen,kM,R,rfl,hk⟩,gr⟩:=LH hT hI hi he hj hx h' fun rows h=>h.1;obtain ⟨a,n,c,ah,rfl⟩:=hs.jY;obtain ⟨v',w',hr,hp⟩:=LI (P:=P) (L:=id) (ty:=ty) hid hT hI hi he hj eo hz (.inr ⟨eZ hc,ah⟩) gr hlen kM hk;exact cW.value hr hp
      ·cases h
     ·cases h
   ·cases h
  ·cases h
 ·cases h
def HY {d e K:Nat} {a:Option Addr} (hd:d<1000) (hI:Inv w F β st.H) (hk:k (.o d) (gJ st d (.own e K []))):EPost w F β st k (.slice a 0 0) w:=by
 refine ⟨_,_,F,fun q=>if q=d then .slice a 0 0 else β q,hk,.o (by simp),qc (v:=.slice a 0 0) hd hI rfl ⟨rfl,fun _=>(by first|exact bG _|exact j2 _)⟩ rfl (bG _) (fun _ _ _=>rfl) (fun _ _ _ _ _ _=>rfl) (fun b hb=>?_) (.inl ⟨rfl,a,by simp⟩)⟩;cases a<;>simp [bR] at hb
def aa4 {t d:Nat} {x:AV} {vx:Value} {lo hi mx:Option AV} {vlo vhi vmx:Option Value} (hd:d<1000) (hT:bO P T) (hI:Inv w F β st.H) (hx:Rd w F β x vx) (kT:xB lo vlo w F β) (kP:xB hi vhi w F β) (gp:xB mx vmx w F β)
  (h:HW T t x lo hi mx d st k):cW P (do pure (.value (←lL t vx vlo vhi vmx))) w F β st k:=by
 unfold HW at h;split at h
 ·rename_i i bm;split at h
  ·rename_i e k1 k2 he;have hu:=(hT _ _ bm).slice he;cases vlo with
   |some v=>exact kT.elim
   |none =>
    cases vhi with
    |none=>exact kP.elim
    |some v1 =>
     cases vmx with
     |none=>exact gp.elim
     |some v2 =>
      cases (show Rd w F β _ v1 from kP).bN;cases (show Rd w F β _ v2 from gp).bN;split at h
      ·rename_i j hj;have aX:=(hT _ _ hj).kZ w
       have aY:∀a n c,(lL t (.slice a n c) none (some (.int k1 0)) (some (.int k2 0))).run P w=.ok (.slice a 0 0) w:=fun a n c=>by
        simp [lL,Instr.slice,Instr.sliceBounds,Instr.sliceBound,asIntOf,run_underlying hu,aX]
       split at h
       ·rcases hx.oP.tT with ⟨_,a,rfl⟩|⟨b,off,c,K',v,_,_,_,rfl,_⟩
        iterate 2 exact cW.value (aY _ _ _) (HY hd hI h)
       ·obtain ⟨a,n,c,_,rfl⟩:=hx.jY;exact cW.value (aY _ _ _) (HY hd hI h)
       ·cases hx.bN;exact cW.value (aY _ _ _) (HY hd hI h)
       ·cases h
      ·cases h
  ·cases h
 ·cases h
def aaS {t n d:Nat} {parts:List (Nat×AV)} {vs:Array (Nat×Value)} (hd:d<1000) (hT:bO P T) (hI:Inv w F β st.H) (hl:parts.length=vs.size)
  (hv:∀i,i<parts.length→(parts.getD i (0,.χ)).1=(vs.toList.getD i (0,undef)).1∧Rd w F β (parts.getD i (0,.χ)).2 (vs.toList.getD i (0,undef)).2)
  (h:SC T t n parts d st k):cW P (do pure (.value (←Instr.buildSlice t n vs))) w F β st k:=by
 obtain ⟨rows,e,size,us,hk,_,hs,nM,lD,fD,aX,aY,hlen⟩:=Pn hT hl hv h;obtain ⟨hi,hk⟩:=cond_prop hk;have gW:=Vf hi fD;refine cW.value aY ?_
 have hg:∀i,i<rows.length→(rows.map (fun r=>r.map nz)).getD i []=(rows.getD i []).map nz:=fun i hi=>by simp [aV,hi]
 have aI:∀i j,i<rows.length→j<size→((rows.map (fun r=>r.map nz)).getD i []).getD j .χ=nz ((rows.getD i []).getD j .χ):=fun i j hi hj=>by
  rw [hg i hi]
  have dq:j<(rows.getD i []).length:=by rw [lD i hi];exact hj
  simp only [fW,uj] at dq ⊢;rw [bU dq];rfl
 have:=Fi (d:=d) (E:=e) (K:=size) (cap:=n) (rows:=rows.map fun r=>r.map nz) (us:=us) (w1:=w) (k:=k) hd hI rfl rfl ⟨rfl,fun _=>(by first|exact bG _|exact j2 _)⟩ rfl aX (by rw [az];omega) (by unfold maxLen;omega)
  (fun i hi=>by rw [az] at hi;rw [hg i hi,az];exact lD i hi) (fun i j hi hj=>?_) hk
 ·rwa [az,nM] at this
 ·rw [az] at hi;rw [aI i j hi hj]
  have Φ:i*size+j<rows.flatten.length:=by
   rw [H6 rows lD]
   calc i*size+j<i*size+size:=by omega
    _=(i+1)*size:=by rw [bP];omega
    _≤rows.length*size:=cG _ hi
  have:=gW _ Φ;rw [Mo rows i j lD hi hj] at this;exact ⟨this.1,BW this.2⟩
def aa1 {t d:Nat} {l c:AV} {vl vc:Value} (hd:d<1000) (hT:bO P T) (hI:Inv w F β st.H) (hl:Rd w F β l vl) (hc:Rd w F β c vc) (h:Me T t l c d st k) :
  cW P (do pure (.value (←vD t vl vc))) w F β st k:=by
 unfold Me at h;split at h
 ·rename_i i kl nl kc nc hi;cases hl.bN;cases hc.bN;split at h
  ·rename_i e he;have hu:=(hT _ _ hi).slice he;split at h
   ·rename_i j hj;obtain ⟨hb,n,m,rfl,rfl,dN,hm,kM,R,rfl,hk⟩:=cond_prop h;simp only [bE] at hb;obtain ⟨bX,hlen,gW⟩:=hb;have hlen:(bu (cr j.zero)).length=j.cells:=cT hlen;have hz:=o9 (nV w F j.zero β) bX
    have iG:j.zero.cells.size=j.cells:=by rw [hz.1,hlen]
    obtain ⟨inf,pr,hzero,eL,nC⟩:=(hT _ _ hj).info;have qo:IntKind.i64.wrap (n:Int)=(n:Int):=qO _ (by omega);have ER:IntKind.i64.wrap (m:Int)=(m:Int):=qO _ (by omega)
    have hbm:(inf.bytes:Int)*(m:Int)≤140737488355328:=by
     have h5:((m*j.bytes:Nat):Int)=(j.bytes:Int)*(m:Int):=by rw [Rh,Int.mul_comm]
     rw [nC,←h5];omega
    have aY:(vD t (.int kl (n:Int)) (.int kc (m:Int))).run P w=.ok (.slice (some ⟨w.heap.size,0,none⟩) n m) (w.alloc (.cells ((nf (m*j.cells)).map (j.zero.cells[· % j.zero.cells.size]!)) e)):=by
     have h1:¬((m:Int)<0):=by omega
     have h2:¬(281474976710656<(inf.bytes:Int)*(m:Int)):=by omega
     have h3:¬((n:Int)<0):=by omega
     have h4:¬((m:Int)<(n:Int)):=by omega
     by_cases h0:m*j.cells=0
     ·have c8:nf (m*j.cells)=#[]:=by rw [h0];exact ue (by simp)
      simp [vD,run_underlying hu,asInt,asIntOf,typeInfo,pr,qo,ER,h1,h2,h3,h4,sizeOf,eL,h0,newRow];rw [h0] at c8;simp [c8]
     ·simp [vD,run_underlying hu,asInt,asIntOf,typeInfo,pr,qo,ER,h1,h2,h3,h4,sizeOf,eL,h0,newRow,zeroValue,hzero]
    refine cW.value aY ?_;have:=Fi (d:=d) (E:=e) (K:=j.cells) (cap:=m) (rows:=ij n ((bu (cr j.zero)).map nz)) (us:=(nf (m*j.cells)).map (j.zero.cells[· % j.zero.cells.size]!)) (w1:=w) (k:=k)
     hd hI rfl rfl ⟨rfl,fun _=>(by first|exact bG _|exact j2 _)⟩ rfl (by simp) (by simpa using dN) (by unfold maxLen;omega) (fun q hq=>?_) (fun q z hq iS=>?_) hk
    ·simpa using this
    ·simp at hq;simp [aV,hq,hlen]
    ·simp at hq
     have Φ:q*j.cells+z<m*j.cells:=by
      calc q*j.cells+z<q*j.cells+j.cells:=by omega
       _=(q+1)*j.cells:=by rw [bP];omega
       _≤m*j.cells:=cG _ (by omega)
     rw [VK Φ,iG]
     have e1:(q*j.cells+z) % j.cells=z:=by rw [og,Di];exact Dh iS
     rw [e1];have h2:=hz.2 z (by omega)
     have e2:j.zero.cells[z]! = j.zero.cells.getD z undef:=by
      have:z<j.zero.cells.size:=by omega
      simp [this]
     have e3:((ij n ((bu (cr j.zero)).map nz)).getD q []).getD z .χ=nz ((bu (cr j.zero)).getD z .χ):=by
      have zo:z<(bu (cr j.zero)).length:=by omega
      simp [aV,hq,zo]
     rw [e2,e3];refine ⟨h2.1,BW (nQ (ej.1 gW _ ?_) h2.2)⟩;rw [fW,bU (show z<(bu (cr j.zero)).length by omega)];exact eI _
   ·cases h
  ·cases h
 ·cases h
def akv {z:Value} {n k:Nat} {w:World} {F:Nat→Prop} {β:Nat→Value} (hz:z.cells.size=k) (bX:jm (cr z)=true) (hlen:(bu (cr z)).length=k) (gW:(bu (cr z)).all fp=true) :
  Hl w F k (ij n ((bu (cr z)).map nz)) (dB z.cells n).toList:=by
 have hc:=o9 (nV w F z β) bX;refine ⟨by simp [dB,hz],fun u hu=>?_,fun i j hi hj=>?_⟩
 ·simp only [dB,Y7,c9] at hu;obtain ⟨q,hq,rfl⟩:=hu
  have rI:0<z.cells.size:=by
   have:q∈nf (n*z.cells.size):=by simpa using hq
   rcases oW z.cells.size with h|h
   ·rw [h] at this;simp at this
   ·exact h
  have Φ:=sy q rI;have h2:=(hc.2 (q % z.cells.size) (by omega)).1;simpa [Φ] using h2
 ·have hi:i<n:=by simpa using hi
  have Φ:i*k+j<n*k:=by
   calc i*k+j<i*k+k:=by omega
    _=(i+1)*k:=by rw [bP];omega
    _≤n*k:=cG _ (by omega)
  have e0:(dB z.cells n).toList.getD (i*k+j) undef=z.cells[(i*k+j) % z.cells.size]! := by
   simp [dB,hz,aV,Φ]
  have e1:(i*k+j) % k=j:=by rw [og,Di];exact Dh hj
  rw [e0,hz,e1];have h2:=(hc.2 j (by omega)).2
  have e2:((ij n ((bu (cr z)).map nz)).getD i []).getD j .χ=nz ((bu (cr z)).getD j .χ):=by
   simp [aV,hi,hlen,hj]
  rw [e2]
  have e3:z.cells[j]! = z.cells.getD j undef:=by
   have:j<z.cells.size:=by omega
   simp [this]
  rw [e3];refine BW (nQ ?_ h2);have:=ej.1 gW ((bu (cr z)).getD j .χ) (by simp [aV,hlen,hj]);exact this
def aaP {t t' id:Nat} {x:AV} {vs vx:Value} (hT:bO P T) (hI:Inv w F β st.H) (hs:Rd w F β (.o id) vs) (hx:Rd w F β x vx) (h:Ma T t t' id x st k) (ty:TypeId) :
  cW P (do pure (.value (←ib #[t,t'] ty #[vs,vx]))) w F β st k:=by
 unfold Ma at h;split at h
 ·rename_i i i' kx nx hi bm;cases hx.bN;split at h
  ·rename_i e kn he fw;have hu:=(hT _ _ hi).slice he;have iR:=(hT _ _ bm).int fw;split at h
   ·rename_i j E K rows hj hc;cases hb:(aH j.bytes 0||(aH j.cells 0||!(jm (cr j.zero)&&(aH (bu (cr j.zero)).length j.cells&&(bu (cr j.zero)).all fp)))) with
    |true=>rw [hb] at h;cases h
    |false =>
     rw [hb] at h;simp only [QT,QS,bE] at hb;obtain ⟨eo,oD,bX,hlen,gW⟩:=hb;have hlen:(bu (cr j.zero)).length=j.cells:=cT hlen
     have eo:j.bytes≠0:=fun e=>by rw [e] at eo;cases eo
     obtain ⟨hg,n,rfl,kM,R,rfl,hk⟩:=cond_prop h;simp only [bE] at hg;obtain ⟨⟨hE,hK⟩,Φ⟩:=hg;obtain rfl:=cT hE;obtain rfl:=cT hK
     have hid:id<1000:=by simpa [gH] using Φ
     have hz:=o9 (nV w F j.zero β) bX
     have iG:j.zero.cells.size=j.cells:=by rw [hz.1,hlen]
     have UU:=akv (n:=n) (w:=w) (F:=F) (β:=β) iG bX hlen gW;obtain ⟨a,m,c,ah,rfl⟩:=hs.jY;have pA:n*j.bytes≤140737488355328:=fi (cG _ (Nat.le_add_left _ _)) kM;have hn:n≤140737488355328:=fi (Rr _ (Rt eo)) pA;obtain ⟨v',w',hr,hp⟩:=RS (P:=P) (L:=id) (tx:=t') (vx:=.int kx (n:Int)) (ty:=ty) (rows:=rows) (bT:=ij n ((bu (cr j.zero)).map nz)) hid hT hI hi he hj eo iG (.inr ⟨eZ hc,ah⟩)
      ⟨_,fun inf z h1 h2 h3 h4=>by
       obtain ⟨ak1,pr,hzero,eL,nC⟩:=(hT _ _ hj).info;rw [pr] at h1;cases h1;rw [hzero] at h2;cases h2;have:=xA.akw (P:=P) (w:=w) (t:=t) (tx:=t') (ty:=ty) (kx:=kx) (n:=n) hu iR pr hzero (by rw [iG,eL]) UU.one hn (by rw [nC];exact pA)
       simpa using this,UU⟩ (fun r hr=>by
       rw [(List.mem_replicate.1 hr).2,az,hlen]) (by simpa using kM) hk
     exact cW.value hr hp
   ·cases h
  ·cases h
 ·cases h
def aaZ {t t':Nat} {x y:AV} {vx vy:Value} (hT:bO P T) (hI:Inv w F β st.H) (hx:Rd w F β x vx) (hy:Rd w F β y vy) (h:HU T t x y st k) (ty:TypeId) :
  cW P (do pure (.value (←qM #[t,t'] ty #[vx,vy]))) w F β st k:=by
 unfold HU at h;split at h
 ·rename_i i hi;split at h
  ·rename_i e he;have hu:=(hT _ _ hi).slice he;split at h
   ·rename_i j hj;split at h
    ·rename_i id Kw d news;split at h
     ·rename_i E K rows hc;obtain ⟨hb,EB,R,rfl,hk⟩:=cond_prop h;simp only [bE] at hb;have hK:K=j.cells:=cT hb.1;have Ej:Kw=K:=cT hb.2;subst Ej;have hm:=eZ hc;have aX:=(hT _ _ hj).kZ w;obtain ⟨a,a',n,c,ah,hd,ha,rfl⟩:=hx.xi
      have hn:n=rows.length:=by
       rcases tE (hI.holds _ _ hm) with ⟨rfl,a2,hv⟩|⟨g,cap,hv,_,iO⟩
       iterate 2 (rw [ah] at hv;cases hv;rfl)
      subst hn;obtain ⟨m,Bv⟩:∃m,m=Nat.min news.length (rows.length-d):=⟨_,rfl⟩;rw [←Bv] at hk
      have iP:m≤news.length:=by rw [Bv];exact Nat.min_le_left _ _
      have yV:m≤rows.length-d:=by rw [Bv];exact Nat.min_le_right _ _
      have hRe:rows.take d++news.take (rows.length-d)++rows.drop (d+news.length)=rows.take d++news.take m++rows.drop (d+m):=by
       rcases Nat.le_total news.length (rows.length-d) with h1|h1
       ·have:m=news.length:=by rw [Bv];exact Nat.min_eq_left h1
        rw [this,Rp h1,Rp (bG _)]
       ·have:m=rows.length-d:=by rw [Bv];exact Nat.min_eq_right h1
        rw [this,qP (by omega),qP (by omega)]
      rw [hRe] at hk;obtain ⟨b0,alb,c0,hvy,us,fD,N2,U5⟩:∃(aa:Option Addr) (ln cp:Nat),vy=.slice aa ln cp∧∃us:List Value,(us.length=m*j.cells∧ln=news.length)∧((xn j.cells m vy).run P w=.ok us.toArray w) ∧
        (∀q z,q<m→z<j.cells→(us.getD (q*j.cells+z) undef).oneCell'=true∧bg w F ((news.getD q []).getD z .χ) (us.getD (q*j.cells+z) undef)):=by
       rcases hy.oP.tT with ⟨rfl,a,rfl⟩|⟨b,off,cc,K',v,aK,eK,jC,rfl,yv,hv⟩
       ·have oF:m=0:=by simpa using iP
        subst oF;exact ⟨a,0,0,rfl,[],⟨by simp,rfl⟩,by cases a<;>simp [xn,loadCells,loadCellsFrom],fun q z hq=>by omega⟩
       ·have A9:∀q,q<news.length→K'=j.cells:=fun q hq=>by
         rw [←yv q hq];exact EB _ (by rw [fW,bU hq];exact eI _)
        have Φ:∀q,q<m*j.cells→q/j.cells<m∧q % j.cells<j.cells∧q/j.cells*j.cells+q % j.cells=q:=fun q hq=>by
         have yM:0<j.cells:=(oW j.cells).elim (fun h=>by rw [h] at hq;simp at hq) fun h=>h;exact ⟨(qU yM).2 hq,sy _ yM,by rw [og];exact Rq q j.cells⟩
        refine ⟨_,_,_,rfl,(gw (m*j.cells)).map fun q=>v (q/j.cells) (q % j.cells),⟨by simp,rfl⟩,?_,fun q z hq hz=>?_⟩
        ·refine run_firstCells_some (P:=P) w j.cells m ⟨b,off,none⟩ news.length cc _ (by simp) fun q u hq=>?_;simp only [uj,Dj] at hq;obtain ⟨q',wG,rfl⟩:=hq
         have mQ:q<m*j.cells∧q'=q:=by
          obtain ⟨h1,h2⟩:=fh.1 wG;exact ⟨by simpa using h1,by simpa using h2.symm⟩
         obtain ⟨mQ,rfl⟩:=mQ;obtain ⟨h1,h2,h3⟩:=Φ _ mQ;have h4:=A9 _ (show q'/j.cells<news.length by omega);have:=(hv (q'/j.cells) (q' % j.cells) (by omega) (by rw [h4];exact h2)).1;rw [h4,h3] at this;rw [gg];exact this
        ·have oH:q*j.cells+z<m*j.cells:=by
          calc q*j.cells+z<q*j.cells+j.cells:=by omega
           _=(q+1)*j.cells:=by rw [bP];omega
           _≤m*j.cells:=cG _ hq
         have yM:0<j.cells:=by omega
         have e1:(q*j.cells+z)/j.cells=q:=by rw [og,alA yM,alz hz];rfl
         have e2:(q*j.cells+z) % j.cells=z:=by rw [og,Di];exact Dh hz
         have e3:((gw (m*j.cells)).map fun q=>v (q/j.cells) (q % j.cells)).getD (q*j.cells+z) undef=v q z:=by
          simp [aV,oH,e1,e2]
         rw [e3];exact (hv q z (by omega) (by rw [A9 q (by omega)];exact hz)).2
      obtain ⟨fc,EA⟩:=fD
      have kT:(Builtin.lenOf vy).run P w=.ok news.length w:=by rw [hvy,←EA];rfl
      have dN:Nat.min news.length (rows.length-d)=m:=Bv.symm;by_cases h0:m=0
      ·have aY:(qM #[t,t'] ty #[.slice a' (rows.length-d) (c-d),vy]).run P w=.ok (.int .i64 (m:Int)) w:=by
        have N1:us=[]:=qQ (by rw [fc,h0];simp);rw [N1] at N2
        have hw:IntKind.i64.wrap (m:Int)=(m:Int):=by rw [h0];rfl
        cases a'<;>simp [qM,run_underlying hu,kT,dN,aX,N2,storeCells,goInt]
       refine cW.value aY ⟨_,_,F,β,hk,.i (.v (.inl rfl)),?_⟩
       have e:rows.take d++news.take m++rows.drop (d+m)=rows:=by rw [h0];simp
       rw [e];exact wb hI hm rfl ⟨rfl,fun _=>bG _⟩ rfl rfl (fun _ _=>rfl) (hI.holds _ _ hm)
      ·rcases hI.holds _ _ hm with ⟨rfl,_⟩|⟨g,cap,cur,hv,iO,hg,hn,gp,hs,A_,hr⟩
       ·simp at yV;omega
       ·rw [ah] at hv;cases hv
        have sV:a'=some ⟨g,d*Kw,none⟩:=by rw [ha (by omega)];simp [gg]
        subst sV
        have ri:aH c 0=false:=by cases c<;>first|rfl|omega
        have ho:bC β st.H g:=⟨id,_,hm,by rw [ah];simp [bR,ri]⟩;have hcK:rows.length*Kw≤c*Kw:=cG _ hn
        have T1:d*Kw+m*Kw≤rows.length*Kw:=by rw [←bP];exact cG _ (by omega)
        have fc:us.length=m*Kw:=by rw [fc,hK]
        have fb:∀x,x∈us→x.oneCell'=true:=fun x hx=>by
         obtain ⟨q,hq,rfl⟩:=List.getElem_of_mem hx;have yM:0<Kw:=(oW Kw).elim (fun h=>by rw [h] at fc;simp at fc;rw [fc] at hq;simp at hq) fun h=>h;rw [fc] at hq;have h1:q/Kw<m:=(qU yM).2 hq;have h2:q % Kw<Kw:=sy _ yM
         have h3:q/Kw*Kw+q % Kw=q:=by rw [og];exact Rq q Kw
         have:=(U5 (q/Kw) (q % Kw) h1 (by rw [←hK];exact h2)).1;rw [←hK,h3] at this
         have e:us.getD q undef=us[q]:=by simp [aV,fc,hq]
         rwa [e] at this
        have bV:=run_storeCells_at P g (d*Kw) E us 0 cur w hg (by rw [fc];omega) fb;simp only [lO] at bV
        have aY:(qM #[t,t'] ty #[.slice (some ⟨g,d*Kw,none⟩) (rows.length-d) (c-d),vy]).run P w=.ok (.int .i64 (m:Int)) (w.setRow g (cur.toList.take (d*Kw)++us++cur.toList.drop (d*Kw+us.length)).toArray):=by
         simp [qM,run_underlying hu,kT,dN,aX,N2,bV,goInt]
        refine cW.value aY ⟨_,_,F,β,hk,.i (.v (.inl rfl)),?_⟩;have gX:∀b cs,b≠g→(w.setRow g cs).heap[b]?=w.heap[b]?:=fun b cs hb=>setRow_other w g b cs hb;have ha:∀cs,ga F w (w.setRow g cs):=fun cs b hb=>gX b cs fun e=>hI.apart g ho (e▸hb);refine wb hI hm rfl ⟨rfl,fun _=>bG _⟩ rfl (by simp) (fun b' aK=>gX b' _ (fun e=>aK (by rw [ah,e];simp [bR,ri]))) (.inr ?_)
        have yS:(rows.take d++news.take m++rows.drop (d+m)).length=rows.length:=by simp;omega
        have hR:∀q,q<rows.length→(rows.take d++news.take m++rows.drop (d+m)).getD q []=if q<d then rows.getD q [] else if q<d+m then news.getD (q-d) [] else rows.getD q []:=fun q hq=>by
         simp only [aV,gG,dj,dR,gk,js];by_cases h1:q<d
         ·have h2:q<min d rows.length:=by omega
          have h3:q<min d rows.length+min m news.length:=by omega
          simp [h1,h2,h3]
         ·have h2:¬q<min d rows.length:=by omega
          by_cases h4:q<d+m
          ·have h3:q<min d rows.length+min m news.length:=by omega
           have h5:q-min d rows.length<m:=by omega
           have h6:q-min d rows.length=q-d:=by omega
           simp [h1,h2,h3,h4,h5,h6];simp [show q-d<m by omega]
          ·have h3:¬q<min d rows.length+min m news.length:=by omega
           have h6:d+m+(q-(min d rows.length+min m news.length))=q:=by omega
           simp [h1,h3,h4,h6]
        refine ⟨g,c,_,by rw [ah,yS],iO,setRow_heap w g cur _ E _ hg,by rw [yS];exact hn,gp,?_,fun q hq=>?_,fun q z hq iS=>?_⟩
        ·simp only [ll,dj,dR,l9,lJ,fc];omega
        ·rw [yS] at hq;rw [hR q hq];split
         ·exact A_ q hq
         ·split
          ·rw [hK];exact EB _ (by rw [fW,bU (show q-d<news.length by omega)];exact eI _)
          ·exact A_ q hq
        ·rw [yS] at hq
         have hqz:q*Kw+z<rows.length*Kw:=by
          calc q*Kw+z<q*Kw+Kw:=by omega
           _=(q+1)*Kw:=by rw [bP];omega
           _≤rows.length*Kw:=cG _ hq
         have fZ:q*Kw+z<cur.size:=by omega
         have eO:(cur.toList.take (d*Kw)++us++cur.toList.drop (d*Kw+us.length)).toArray.getD (q*Kw+z) undef=if q<d then cur.getD (q*Kw+z) undef else if q<d+m then us.getD ((q-d)*Kw+z) undef else cur.getD (q*Kw+z) undef:=by
          rw [lh,List.getElem?_toArray];simp only [gG,dj,dR,lJ,gk,js,fc];by_cases h1:q<d
          ·have Φ:q*Kw+z<d*Kw:=by
            calc q*Kw+z<q*Kw+Kw:=by omega
             _=(q+1)*Kw:=by rw [bP];omega
             _≤d*Kw:=cG _ h1
           have h2:q*Kw+z<min (d*Kw) cur.size:=by omega
           have h3:q*Kw+z<min (d*Kw) cur.size+m*Kw:=by omega
           simp [h1,h2,h3,Φ]
          ·have gA:d*Kw≤q*Kw:=cG _ (by omega)
           have h2:¬q*Kw+z<min (d*Kw) cur.size:=by omega
           have akW:(q-d)*Kw=q*Kw-d*Kw:=Nat.sub_mul _ _ _;by_cases h4:q<d+m
           ·have Φ:q*Kw+z<(d+m)*Kw:=by
             calc q*Kw+z<q*Kw+Kw:=by omega
              _=(q+1)*Kw:=by rw [bP];omega
              _≤(d+m)*Kw:=cG _ h4
            rw [bP] at Φ
            have h3:q*Kw+z<min (d*Kw) cur.size+m*Kw:=by omega
            have h5:q*Kw+z-min (d*Kw) cur.size=(q-d)*Kw+z:=by omega
            simp [h1,h2,h3,h4,h5,aV]
           ·have acj:(d+m)*Kw≤q*Kw:=cG _ (by omega);rw [bP] at acj
            have h3:¬q*Kw+z<min (d*Kw) cur.size+m*Kw:=by omega
            have h5:d*Kw+m*Kw+(q*Kw+z-(min (d*Kw) cur.size+m*Kw))=q*Kw+z:=by omega
            simp [h1,h3,h4,h5,fZ]
         rw [eO,hR q hq];have old:=hr q z hq iS;by_cases h1:q<d
         ·rw [if_pos h1,if_pos h1];exact ⟨old.1,old.2.frame (ha _) fun _ h=>h⟩
         ·rw [if_neg h1,if_neg h1];by_cases h2:q<d+m
          ·rw [if_pos h2,if_pos h2];have:=U5 (q-d) z (by omega) (by rw [←hK];exact iS);rw [←hK] at this;exact ⟨this.1,this.2.frame (ha _) fun _ h=>h⟩
          ·rw [if_neg h2,if_neg h2];exact ⟨old.1,old.2.frame (ha _) fun _ h=>h⟩
     ·cases h
    ·cases h
   ·cases h
  ·cases h
 ·cases h
def aaY {args:Array Operand} {argTypes:Array TypeId} {a:Act} {type:TypeId} {f:Nat→AV} (hT:bO P T) (hI:Inv w F β st.H) (bJ:∀x,x∈args→Rd w F β (ev f x) (a.eval x))
  (h:match argTypes.toList,args.toList.map (ev f) with
   |[t,_],[x,y]=>HU T t x y st k
   |_,_=>False) :
  cW P (do let d ←resolve a.eval { callee:=.builtin .copy,args:=args,argTypes:=argTypes } type;invoke d.target d.args) w F β st k:=by
 split at h
 ·rename_i t t' x y ht hx;obtain ⟨l,rfl⟩:∃l:List Operand,args=l.toArray:=⟨args.toList,by simp⟩;obtain ⟨lt,rfl⟩:∃l:List TypeId,argTypes=l.toArray:=⟨argTypes.toList,by simp⟩;simp only at ht hx;subst ht
  match l,hx with
  |[o1,o2],hx =>
   simp only [jJ,List.map_nil,G3,and_true] at hx;obtain ⟨rfl,rfl⟩:=hx;have:=aaZ (t':=t') hT hI (bJ o1 (by simp)) (bJ o2 (by simp)) h type;unfold cW at this ⊢;simpa [resolve,invoke,builtin] using this
 ·cases h
def aaO {t t' d:Nat} {s x:AV} {vs vx:Value} (hd:d<1000) (hT:bO P T) (hI:Inv w F β st.H) (hs:Rd w F β s vs) (hx:Rd w F β x vx) (h:HR T t t' s x d st k) (ty:TypeId) :
  cW P (do pure (.value (←ib #[t,t'] ty #[vs,vx]))) w F β st k:=by
 unfold HR at h;split at h
 ·exact aaP hT hI hs hx h ty
 split at h
 ·rename_i i i' kx nx hi bm _;cases hs.bN;cases hx.bN;split at h
  ·rename_i e ki he fw;have hu:=(hT _ _ hi).slice he;have iR:=(hT _ _ bm).int fw;split at h
   ·rename_i j hj;cases hb:(aH j.bytes 0||(aH j.cells 0||!(jm (cr j.zero)&&(aH (bu (cr j.zero)).length j.cells&&(bu (cr j.zero)).all fp)))) with
    |true=>rw [hb] at h;cases h
    |false =>
     rw [hb] at h;simp only [QT,QS,bE] at hb;obtain ⟨eo,oD,bX,hlen,gW⟩:=hb;have hlen:(bu (cr j.zero)).length=j.cells:=cT hlen
     have eo:j.bytes≠0:=fun e=>by rw [e] at eo;cases eo
     have oD:j.cells≠0:=fun e=>by rw [e] at oD;cases oD
     obtain ⟨n,rfl,kM,R,rfl,hk⟩:=h;have hz:=o9 (nV w F j.zero β) bX
     have iG:j.zero.cells.size=j.cells:=by rw [hz.1,hlen]
     obtain ⟨inf,pr,hzero,eL,nC⟩:=(hT _ _ hj).info;have hn:n≤140737488355328:=fi (Rr _ (Rt eo)) kM;have qo:IntKind.i64.wrap (n:Int)=(n:Int):=qO _ (by omega)
     have abO:(n:Int)*(j.bytes:Int)≤140737488355328:=by
      have h5:((n*j.bytes:Nat):Int)=(n:Int)*(j.bytes:Int):=Rh _ _;rw [←h5];omega
     by_cases h0:n=0
     ·subst h0
      have aY:(ib #[t,t'] ty #[.slice none 0 0,.int kx ((0:Nat):Int)]).run P w=.ok (.slice none 0 0) w:=by
       have EP:IntKind.i64.wrap 0=0:=rfl;simp [ib,run_underlying hu,run_underlying iR,sizeOf,typeInfo,pr,asInt,asIntOf,EP]
      exact cW.value aY (HY hd hI (by simpa using hk))
     ·have jC:n≤maxLen:=by unfold maxLen;omega
      have Ew:=grownCap_ge w n 0 e;have Ex:=grownCap_le_maxLen w n 0 e jC
      have h1:¬((n:Int)<0):=by omega
      have h2:¬(281474976710656<(n:Int)*(inf.bytes:Int)):=by rw [nC];omega
      have h3:¬(9223372036854775807<(n:Int)):=by omega
      have h4:¬(281474976710656<QV n 0*inf.bytes):=by rw [nextslicecap_zero (by omega),nC];omega
      have h5:n*inf.size≠0:=by rw [eL];exact Nat.mul_ne_zero h0 oD
      have aY:(ib #[t,t'] ty #[.slice none 0 0,.int kx (n:Int)]).run P w=.ok (.slice (some ⟨w.heap.size,0,none⟩) n (grownCap w n 0 e)) (w.drew.alloc (.cells (dB j.zero.cells n++dB j.zero.cells (grownCap w n 0 e-n)) e)):=by
       simp [ib,run_underlying hu,run_underlying iR,sizeOf,typeInfo,pr,asInt,asIntOf,qo,h1,h2,h3,h4,h0,zeroValue,hzero,Ru,run_firstCells_none,newRow,grownCap];intro h7;exact absurd h7 h5
      refine cW.value aY ?_;have:=Fi (d:=d) (E:=e) (K:=j.cells) (cap:=grownCap w n 0 e) (rows:=ij n ((bu (cr j.zero)).map nz)) (us:=dB j.zero.cells n++dB j.zero.cells (grownCap w n 0 e-n)) (w1:=w.drew) (k:=k)
       hd hI rfl rfl ⟨rfl,fun _=>(by first|exact bG _|exact j2 _)⟩ rfl (by simp only [uf,K0,iG,←bP];congr 1;omega) (by simpa using Ew) Ex (fun q hq=>?_) (fun q z hq iS=>?_) hk
      ·simpa using this
      ·simp at hq;simp [aV,hq,hlen]
      ·simp at hq
       have Φ:q*j.cells+z<n*j.cells:=by
        calc q*j.cells+z<q*j.cells+j.cells:=by omega
         _=(q+1)*j.cells:=by rw [bP];omega
         _≤n*j.cells:=cG _ (by omega)
       have e0:(dB j.zero.cells n++dB j.zero.cells (grownCap w n 0 e-n)).getD (q*j.cells+z) undef=j.zero.cells[(q*j.cells+z) % j.zero.cells.size]! := by
        simp [pV,dB,iG,Φ]
       rw [e0,iG]
       have e1:(q*j.cells+z) % j.cells=z:=by rw [og,Di];exact Dh iS
       rw [e1];have h2:=hz.2 z (by omega)
       have e2:j.zero.cells[z]! = j.zero.cells.getD z undef:=by
        have:z<j.zero.cells.size:=by omega
        simp [this]
       have e3:((ij n ((bu (cr j.zero)).map nz)).getD q []).getD z .χ=nz ((bu (cr j.zero)).getD z .χ):=by
        have zo:z<(bu (cr j.zero)).length:=by omega
        simp [aV,hq,zo]
       rw [e2,e3];refine ⟨h2.1,BW (nQ (ej.1 gW _ ?_) h2.2)⟩;rw [fW,bU (show z<(bu (cr j.zero)).length by omega)];exact eI _
   ·cases h
  ·cases h
 ·cases h
def aa5 {t:Nat} {x:AV} {vx:Value} {hi:Option AV} {vhi:Option Value} (hT:bO P T) (hI:Inv w F β st.H) (hx:Rd w F β x vx) (kP:xB hi vhi w F β) (h:Mi T t x hi st k) :
  cW P (do pure (.value (←lL t vx none vhi none))) w F β st k:=by
 unfold Mi at h;split at h
 ·rename_i i id kh nh bm;split at h
  ·rename_i e he;have hu:=(hT _ _ bm).slice he;cases vhi with
   |none=>exact kP.elim
   |some v1 =>
    cases (show Rd w F β _ v1 from kP).bN;split at h
    ·rename_i j hj;have aX:=(hT _ _ hj).kZ w;split at h
     ·rename_i E K rows hc;obtain ⟨Ts,m,rfl,hm,R,rfl,hk⟩:=cond_prop h
      have hid:id<1000:=by
       simp only [bE] at Ts;simpa using Ts.2
      have bI:=eZ hc;obtain ⟨a,n,c,ah,rfl⟩:=hx.jY
      have aY:n=rows.length→rows.length≤c→(lL t (.slice a n c) none (some (.int kh (m:Int))) none).run P w=.ok (.slice a m c) w:=fun hn eK=>by
       have hb:=zX (P:=P) (w:=w) (is:=true) (lo:=none) (hi:=some (.int kh (m:Int))) (len:=rows.length) (cap:=c) (l:=0) (h:=m) (.inl ⟨rfl,rfl⟩) (.inr ⟨_,rfl⟩) (Nat.zero_le _) hm eK;subst hn
       have hs:(lL t (.slice a rows.length c) none (some (.int kh (m:Int))) none).run P w=.ok (.slice (if c=0 then a else a.map (·.add (0*j.cells))) (m-0) (c-0)) w:=by
        simp [lL,Instr.slice,run_underlying hu,hb,aX]
       rw [hs]
       have:(if c=0 then a else a.map (·.add (0*j.cells)))=a:=by
        split
        ·rfl
        ·cases a<;>simp [Addr.add]
       rw [this];simp
      rcases hI.holds _ _ bI with ⟨rfl,a',hv⟩|⟨g,cap,cur,hv,iO,hg,hn,gp,fZ,hK,hr⟩
      ·rw [ah] at hv;cases hv
       have oF:m=0:=by simpa using hm
       subst oF;refine cW.value (aY rfl (bG _)) ⟨_,_,F,fun q=>if q=id then .slice a 0 0 else β q,hk,.o (by simp),qc (v:=.slice a 0 0) hid hI rfl ⟨rfl,fun _=>(by first|exact bG _|exact j2 _)⟩ rfl (bG _) (fun _ _ _=>rfl) (fun _ _ _ _ _ _=>rfl) (fun b hb=>?_) (.inl ⟨by simp,a,by simp⟩)⟩;cases a<;>simp [bR] at hb
      ·rw [ah] at hv;cases hv;refine cW.value (aY rfl hn) ⟨_,_,F,fun q=>if q=id then .slice (some ⟨g,0,none⟩) m c else β q,hk,.o (by simp),qc (v:=.slice (some ⟨g,0,none⟩) m c) hid hI rfl ⟨rfl,fun _=>(by first|exact bG _|exact j2 _)⟩ rfl (bG _) (fun _ _ _=>rfl) (fun _ _ _ _ _ _=>rfl) (fun b hb=>.inr ⟨_,bI,?_⟩) (.inr ?_)⟩
       ·rw [ah];simpa [bR] using hb
       ·have hlen:(rows.take m).length=m:=by simp;omega
        have gC:∀q,q<m→(rows.take m).getD q []=rows.getD q []:=fun q hq=>by simp [aV,hq]
        refine ⟨g,c,cur,by simp [hlen],iO,hg,by omega,gp,fZ,fun q hq=>?_,fun q z hq hz=>?_⟩
        ·rw [hlen] at hq;rw [gC q hq];exact hK q (by omega)
        ·rw [hlen] at hq;rw [gC q hq];exact hr q z (by omega) hz
     ·cases h
    ·cases h
  ·cases h
 ·cases h
def Hs {fs xs cs:List AV} {us vs ws:Array Value} (hs:us.size=fs.length) (hl:vs.size=xs.length) (akC:ws.size=cs.length) (hu:∀i,i<fs.length→Rd w F β (fs.getD i .χ) (us.getD i undef))
  (hv:∀i,i<xs.length→Rd w F β (xs.getD i .χ) (vs.getD i undef)) (hw:∀i,i<cs.length→Rd w F β (cs.getD i .χ) (ws.getD i undef)) :
  ∀i,i<(fs++(xs++cs)).length→Rd w F β ((fs++(xs++cs)).getD i .χ) ((us++vs++ws).getD i undef):=by
 intro i hi;simp only [dj] at hi
 have e1:(fs++(xs++cs)).getD i .χ=if i<fs.length then fs.getD i .χ else if i<fs.length+xs.length then xs.getD (i-fs.length) .χ else cs.getD (i-fs.length-xs.length) .χ:=by
  simp only [aV,gG];by_cases h1:i<fs.length
  ·simp [h1]
  ·by_cases h2:i<fs.length+xs.length
   ·simp [h1,h2,show i-fs.length<xs.length by omega]
   ·simp [h1,h2,show ¬i-fs.length<xs.length by omega]
 have e2:(us++vs++ws).getD i undef=if i<fs.length then us.getD i undef else if i<fs.length+xs.length then vs.getD (i-fs.length) undef else ws.getD (i-fs.length-xs.length) undef:=by
  simp only [lh,pV,uf,hs,hl];by_cases h1:i<fs.length
  ·simp [h1,show i<fs.length+xs.length by omega]
  ·by_cases h2:i<fs.length+xs.length
   ·simp [h1,h2]
   ·simp [h1,h2,Nat.sub_sub]
 rw [e1,e2];by_cases h1:i<fs.length
 ·rw [if_pos h1,if_pos h1];exact hu i h1
 ·rw [if_neg h1,if_neg h1];by_cases h2:i<fs.length+xs.length
  ·rw [if_pos h2,if_pos h2];exact hv _ (by omega)
  ·rw [if_neg h2,if_neg h2];exact hw _ (by omega)
def aaU {f:AV} {vf:Value} {xs:List AV} {vs:Array Value} (hI:Inv w F β st.H) (hf:Rd w F β f vf) (hl:vs.size=xs.length)
  (hv:∀i,i<xs.length→Rd w F β (xs.getD i .χ) (vs.getD i undef)) (h:HS P f xs st k) :
  cW P (do let d ←l8 vf vs;invoke d.target d.args) w F β st k:=by
 unfold HS at h;split at h
 ·rename_i g fs cs;obtain ⟨⟨fn,c,dE,dN,yy⟩,hp⟩:=h;obtain ⟨us,ws,rfl,hs,ew,hu,hw⟩:=hf.nt
  have rG : ¬ fn.name = "runtime.NumGoroutine" := by simpa using dN
  refine .inr (.inr (.inl ⟨g,us++vs++ws,by simp [l8,invoke,callFunc,dE,rG,yy],?_⟩));refine Calls.mono (hp w F β (us++vs++ws) hI ?_ (Hs hs hl ew hu hv hw)) ?_
  ·simp [hs,hl,ew]
  ·rintro e w' ⟨v,rfl,r,aq,F',av,hk,hr,he⟩;exact ⟨v,rfl,r,aq,F',av,hk,hr,he⟩
 ·rename_i l;obtain ⟨us,ws,rfl,hs,ew,_,_⟩:=hf.nt;have e1:us=#[]:=ue (by simpa using hs);have e2:ws=#[]:=ue (by simpa using ew);subst e1;subst e2;obtain ⟨fn,tmps,assign,body,hy,hR⟩:=h.2 w F β vs hI hl hv;exact .inr (.inr (.inr ⟨l,fn,tmps,assign,body,by simpa [l8,invoke] using hy,hR⟩))
 ·cases h
def aaT {f:Operand} {args:Array Operand} {argTypes:Array TypeId} {ρ:Operand→AV} {a:Act} {type:TypeId} (hI:Inv w F β st.H) (hf:Rd w F β (ρ f) (a.eval f))
  (mN:∀i,i<(args.toList.map ρ).length→Rd w F β ((args.toList.map ρ).getD i .χ) ((args.map a.eval).getD i undef)) (h:HS P (ρ f) (args.toList.map ρ) st k) :
  cW P (do let d ←resolve a.eval { callee:=.value f,args:=args,argTypes:=argTypes } type;invoke d.target d.args) w F β st k:=by
 have e:(do let d ←resolve a.eval { callee:=.value f,args:=args,argTypes:=argTypes } type;invoke d.target d.args:Sem Next)=(do let d ←l8 (a.eval f) (args.map a.eval);invoke d.target d.args):=rfl;rw [e];exact aaU hI hf (by simp) mN h
def aaQ {args:Array Operand} {argTypes:Array TypeId} {a:Act} {type:TypeId} {d:Nat} {f:Nat→AV} (hd:d<1000) (hT:bO P T) (hI:Inv w F β st.H) (bJ:∀x,x∈args→Rd w F β (ev f x) (a.eval x))
  (h:match argTypes.toList,args.toList.map (ev f) with
   |[t,t'],[s,x]=>bif aH t t' then AX T t t' s x d st k else match x with
    |.v (.string _)=>AX T t t' s x d st k
    |_=>HR T t t' s x d st k
   |_,_=>False) :
  cW P (do let d ←resolve a.eval { callee:=.builtin .append,args:=args,argTypes:=argTypes } type;invoke d.target d.args) w F β st k:=by
 split at h
 ·rename_i t t' s x ht hx;obtain ⟨l,rfl⟩:∃l:List Operand,args=l.toArray:=⟨args.toList,by simp⟩;obtain ⟨lt,rfl⟩:∃l:List TypeId,argTypes=l.toArray:=⟨argTypes.toList,by simp⟩;simp only at ht hx;subst ht
  match l,hx with
  |[o1,o2],hx =>
   simp only [jJ,List.map_nil,G3,and_true] at hx;obtain ⟨rfl,rfl⟩:=hx;cases hb:aH t t' with
   |true =>
    rw [hb] at h;have:=SB hd hT hI (bJ o1 (by simp)) (bJ o2 (by simp)) h type;unfold cW at this ⊢;simpa [resolve,invoke,builtin] using this
   |false =>
    rw [hb] at h;simp only [cond_false] at h;split at h
    ·have:=SB hd hT hI (bJ o1 (by simp)) (bJ o2 (by simp)) h type;unfold cW at this ⊢;simpa [resolve,invoke,builtin] using this
    ·have:=aaO hd hT hI (bJ o1 (by simp)) (bJ o2 (by simp)) h type;unfold cW at this ⊢;simpa [resolve,invoke,builtin] using this
 ·cases h
def aaX {s t id:Nat} {vx:Value} (hT:bO P T) (hI:Inv w F β st.H) (hx:Rd w F β (.o id) vx) (h:Md T s t id st k) :
  cW P (do pure (.value (←convert s t vx))) w F β st k:=by
 unfold Md at h;split at h
 ·rename_i i hi;split at h
  ·rename_i e he;split at h
   ·rename_i j hj;split at h
    ·rename_i h8;have bV:=(cond_prop h).1;replace h:=(cond_prop h).2;obtain rfl:=cT bV;split at h
     ·rename_i E K rows hc;obtain ⟨aP,hk⟩:=h;have hu:=(hT _ _ hi).slice he;have U2:=(hT _ _ hj).int h8;have hm:=eZ hc;obtain ⟨a,n,c,ah,rfl⟩:=hx.jY
      rcases hI.holds _ _ hm with ⟨h0,_⟩|⟨g,cap,cur,hv,iO,hg,hn,gp,hs,hK,hr⟩
      ·exact absurd h0 aP
      rw [ah] at hv;cases hv
      have h0:aH c 0=false:=by cases c<;>first|rfl|omega
      have hblk:bR (β id)=some g:=by rw [ah];simp [bR,h0]
      have dr:bC β st.H g:=⟨id,_,hm,hblk⟩;let w':=w.freeze ⟨g,cur.size,none⟩ 1
      have rE:(markStringish ⟨g,0,none⟩).run P w=.ok () w':=by
       have:w.shape? g=some (E,cur.size):=by simp [World.shape?,hg]
       simp [markStringish,this,w']
      have aY:(convert s s (.slice (some ⟨g,0,none⟩) rows.length c)).run P w=.ok (.slice (some ⟨g,0,none⟩) rows.length c) w':=by
       simp [convert,run_underlying hu,run_underlying U2,rE]
      have Bj:w'.heap[g]?=some (.cells cur E (cur.size,cur.size+1)):=T4 hg;have gX:∀b,b≠g→w'.heap[b]?=w.heap[b]?:=fun b hb=>T3 (fun e=>hb e.symm);have hF:∀b,F b→w'.heap[b]?=w.heap[b]?:=fun b hb=>gX b fun e=>hI.apart g dr (e▸hb)
      have aX:w'.heap.size=w.heap.size:=by simp [w',World.freeze]
      have akU:∀o,w'.cell? ⟨g,o,none⟩=w.cell? ⟨g,o,none⟩:=fun o=>by
       rw [cell_of_row w' g o cur E _ Bj,cell_of_row w g o cur E _ hg]
      let F2:Nat→Prop:=fun b=>F b∨bR (β id)=some b
      have UN:bg w' F2 (.s rows) (.slice (some ⟨g,0,none⟩) rows.length c):=by
       refine .s (off:=0) (k:=K) (u:=fun i j=>cur.getD (i*K+j) undef) (.inr hblk) hn gp hK (fun i j hi hj=>?_) (fun i j hi hj=>(hr i j hi hj).1) fun i j hi hj=>(hr i j hi hj).2.frame hF fun _ h=>.inl h
       have:i*K+j<cur.size:=by
        rw [hs]
        calc i*K+j<i*K+K:=by omega
         _=(i+1)*K:=by rw [bP];omega
         _≤c*K:=cG _ (by omega)
       rw [jL,cell_of_row w' g _ cur E _ Bj];simp [this]
      have hz:∀u,Rd w' F2 β (.o id) u→Rd w' F2 β (.s rows) u:=fun u hu=>by
       obtain ⟨a',n',c',h1,rfl⟩:=hu.jY;rw [ah] at h1;cases h1;exact .i UN
      have up:∀{x u},Rd w F β x u→Rd w' F2 β x u:=fun h=>h.frame hF fun _ h=>.inl h
      have lV:Inv w' F2 β (oA id rows st.H):=by
       refine ⟨fun b hb=>by rw [aX];exact hb.elim (hI.cC b) fun hb=>hI.fM ⟨id,_,hm,hb⟩,fun i c2 h=>?_,DP hI.keys,fun b ⟨i,c2,h,hb⟩ Eg=>?_,fun i c2 i' AP b h h' hb aK=>?_,hI.fk.frame hF fun _ h=>.inl h⟩
       ·obtain ⟨rA,c3,h3,rfl⟩:=lx h;have hh:=hI.holds i c3 h3;have acE:∀b,bR (β i)=some b→w'.heap[b]?=w.heap[b]?:=fun b hb=>gX b fun e=>rA (hI.eC i c3 id _ b h3 hm hb (by rw [hblk,e]));have qi:=pD (F':=F2) hF (fun _ h=>.inl h) acE hh;cases c3 with
        |own E' K' r=>exact qi
        |mp ag r=>exact qi
        |si s pos=>exact qi
        |lp l e R L =>
         obtain ⟨fn,tmps,D,hb,yJ,pA,ze⟩:=qi;refine ⟨fn,tmps,D,hb,yJ,pA,fun p hp=>?_⟩;obtain ⟨q,hq,rfl⟩:=c9.1 hp;exact rV hz (fun _ _=>rfl) 2 (ze q hq)
        |box cells =>
         obtain ⟨b,cs,e,hb,yJ,NT,h1b,ze⟩:=qi;refine ⟨b,cs,e,hb,yJ,by simpa using NT,fun j hj=>h1b j (by simpa using hj),fun j hj=>?_⟩
         have hj:j<cells.length:=by simpa using hj
         have:(cells.map (sb (.s rows) 1 id)).getD j .χ=sb (.s rows) 1 id (cells.getD j .χ):=by simp [aV,hj]
         rw [this];exact rV hz (fun _ _=>rfl) 1 (ze j hj)
       ·obtain ⟨rA,c3,h3,_⟩:=lx h
        rcases Eg with Eg|Eg
        ·exact hI.apart b ⟨i,c3,h3,hb⟩ Eg
        ·exact rA (hI.eC i c3 id _ b h3 hm hb Eg)
       ·obtain ⟨_,c3,h3,_⟩:=lx h;obtain ⟨_,c4,h4,_⟩:=lx h';exact hI.eC i c3 i' c4 b h3 h4 hb aK
      have y0:∀b,bC β (oA id rows st.H) b→bC β st.H b:=fun b ⟨i,c2,h,hb⟩=>by
       obtain ⟨_,c3,h3,_⟩:=lx h;exact ⟨i,c3,h3,hb⟩
      refine cW.value aY ⟨_,_,F2,β,hk,.i UN,⟨rfl,⟨rfl,fun _=>(by first|exact bG _|exact j2 _)⟩,rfl,Nat.le_of_eq aX.symm,fun b _ bp=>gX b fun e=>bp (e▸dr),fun _ h=>.inl h,fun b hb=>?_,fun b hb=>.inr (y0 b hb),fun t u hu=>rV hz (fun _ _=>rfl) 2 (up hu),lV,fun _ _=>rfl⟩⟩;exact hb.imp (fun h=>h) fun h=>.inr ⟨id,_,hm,h⟩
     ·cases h
    ·cases h
   ·cases h
  ·cases h
 ·cases h
def aaW {t:Nat} {x:AV} {vx:Value} (hT:bO P T) (hI:Inv w F β st.H) (hx:Rd w F β x vx) (h:HT T t x st k) (ty:TypeId) :
  cW P (do pure (.value (←vz #[t] ty #[vx]))) w F β st k:=by
 unfold HT at h;split at h
 ·rename_i i hi;split at h
  ·rename_i e he;have hu:=(hT _ _ hi).slice he;split at h
   ·rename_i j hj;split at h
    ·rename_i id Kw d;split at h
     ·rename_i E K rows hc;obtain ⟨hb,R,rfl,hk⟩:=cond_prop h;simp only [bE] at hb;obtain ⟨⟨hK,Ej⟩,bX,hlen,gW⟩:=hb;have hK:K=j.cells:=cT hK;have Ej:Kw=K:=cT Ej;have hlen:(bu (cr j.zero)).length=j.cells:=cT hlen;subst Ej;have hm:=eZ hc;obtain ⟨a,a',n,c,ah,hd,ha,rfl⟩:=hx.xi;have hz:=fun w' F'=>o9 (nV w' F' j.zero β) bX
      have iG:j.zero.cells.size=j.cells:=by rw [(hz w F).1,hlen]
      have hn:n=rows.length:=by
       rcases tE (hI.holds _ _ hm) with ⟨rfl,a2,hv⟩|⟨g,cap,hv,_,iO⟩
       iterate 2 (rw [ah] at hv;cases hv;rfl)
      subst hn;by_cases h0:rows.length-d=0
      ·have aY:(vz #[t] ty #[.slice a' (rows.length-d) (c-d)]).run P w=.ok (.tuple #[]) w:=by
        rw [h0];cases a'<;>simp [vz,run_underlying hu]
       refine cW.value aY ⟨_,_,F,β,hk,.i (.t rfl fun i hi=>by simp at hi),?_⟩;rw [h0,List.replicate_zero,xq,Rp (by omega)];exact wb hI hm rfl ⟨rfl,fun _=>bG _⟩ rfl rfl (fun _ _=>rfl) (hI.holds _ _ hm)
      ·rcases hI.holds _ _ hm with ⟨rfl,_⟩|⟨g,cap,cur,hv,iO,hg,hn,gp,hs,A_,hr⟩
       ·simp at h0
       ·rw [ah] at hv;cases hv
        have sV:a'=some ⟨g,d*Kw,none⟩:=by rw [ha (by omega)];simp [gg]
        subst sV
        have ri:aH c 0=false:=by cases c<;>first|rfl|omega
        have ho:bC β st.H g:=⟨id,_,hm,by rw [ah];simp [bR,ri]⟩
        have hdK:d*Kw+(rows.length-d)*Kw=rows.length*Kw:=by rw [←bP];congr 1;omega
        have hcK:rows.length*Kw≤c*Kw:=cG _ hn;let zs:=dB j.zero.cells (rows.length-d)
        have mR:zs.toList.length=(rows.length-d)*Kw:=by simp only [zs,lJ,K0,iG,hK]
        have fb:∀x,x∈zs.toList→x.oneCell'=true:=fun x hx=>by
         simp only [zs,dB,Y7,c9] at hx;obtain ⟨q,hq,rfl⟩:=hx
         have rI:0<j.zero.cells.size:=by
          have:q∈nf ((rows.length-d)*j.zero.cells.size):=by simpa using hq
          rcases oW j.zero.cells.size with h|h
          ·rw [h] at this;simp at this
          ·exact h
         have Φ:=sy q rI;have h2:=((hz w F).2 (q % j.zero.cells.size) (by omega)).1;simpa [Φ] using h2
        have bV:=run_storeCells_at P g (d*Kw) E zs.toList 0 cur w hg (by rw [mR];omega) fb;simp only [lO] at bV;have Oe:=(hT _ _ hj).tQ w
        have aY:(vz #[t] ty #[.slice (some ⟨g,d*Kw,none⟩) (rows.length-d) (c-d)]).run P w=.ok (.tuple #[]) (w.setRow g (cur.toList.take (d*Kw)++zs.toList++cur.toList.drop (d*Kw+zs.toList.length)).toArray):=by
         obtain ⟨q,hq⟩:∃q,rows.length-d=q+1:=⟨rows.length-d-1,by omega⟩;have UW:=bV;simp only [zs,hq] at UW ⊢;simp [vz,run_underlying hu,Oe,UW]
        refine cW.value aY ⟨_,_,F,β,hk,.i (.t rfl fun i hi=>by simp at hi),?_⟩;have gX:∀b cs,b≠g→(w.setRow g cs).heap[b]?=w.heap[b]?:=fun b cs hb=>setRow_other w g b cs hb;refine wb hI hm rfl ⟨rfl,fun _=>bG _⟩ rfl (by simp) (fun b' aK=>gX b' _ (fun e=>aK (by rw [ah,e];simp [bR,ri]))) (.inr ?_);have ha:∀cs,ga F w (w.setRow g cs):=fun cs b hb=>gX b cs fun e=>hI.apart g ho (e▸hb)
        have yS:(rows.take d++ij (rows.length-d) ((bu (cr j.zero)).map nz)).length=rows.length:=by simp;omega
        have wL:(rows.take d).length=d:=by simp;omega
        have nP:(cur.toList.take (d*Kw)).length=(rows.take d).length*Kw:=by simp only [dR,lJ,wL];omega
        refine ⟨g,c,_,by rw [ah,yS],iO,setRow_heap w g cur _ E _ hg,by rw [yS];exact hn,gp,?_,Pl (fun q hq=>?_) (fun r cJ=>?_),fun q z hq iS=>?_⟩
        ·simp only [ll,dj,dR,l9,lJ,mR];omega
        ·have wG:q<d:=by omega
         have:(rows.take d).getD q []=rows.getD q []:=by simp [aV,wG]
         rw [this];exact A_ q (by omega)
        ·rw [List.eq_of_mem_replicate cJ,az,hlen,hK]
        ·have below:∀(m n z:Nat),m<n→z<Kw→m*Kw+z<n*Kw:=fun m n z h hz=>by
          calc m*Kw+z<m*Kw+Kw:=by omega
           _=(m+1)*Kw:=by rw [bP];omega
           _≤n*Kw:=cG _ h
         have h1:∀q z,q<(rows.take d).length→z<Kw→((cur.toList.take (d*Kw)).getD (q*Kw+z) undef).oneCell'=true∧bg w F (((rows.take d).getD q []).getD z .χ) ((cur.toList.take (d*Kw)).getD (q*Kw+z) undef):=fun q z hq hz=>by
          rw [wL] at hq;have h3:=below q d z hq hz
          have h4:q*Kw+z<cur.size:=by omega
          have e1:(rows.take d).getD q []=rows.getD q []:=by simp [aV,hq]
          have e2:(cur.toList.take (d*Kw)).getD (q*Kw+z) undef=cur.getD (q*Kw+z) undef:=by simp [aV,h3,h4]
          rw [e1,e2];exact hr q z (by omega) hz
         have h2:∀q z,q<(ij (rows.length-d) ((bu (cr j.zero)).map nz)).length→z<Kw→(zs.toList.getD (q*Kw+z) undef).oneCell'=true∧bg w F (((ij (rows.length-d) ((bu (cr j.zero)).map nz)).getD q []).getD z .χ) (zs.toList.getD (q*Kw+z) undef):=fun q z hq Vd=>by
          simp only [ZB] at hq;have h3:=below q (rows.length-d) z hq Vd
          have e3:zs.toList.getD (q*Kw+z) undef=j.zero.cells.getD z undef:=by
           have h5:(q*Kw+z) % j.zero.cells.size=z:=by rw [iG,←hK,og,Di];exact Dh Vd
           have h6:q*Kw+z<(rows.length-d)*j.zero.cells.size:=by rw [iG,←hK];exact h3
           have h7:z<j.zero.cells.size:=by omega
           simp [zs,dB,aV,h6,h5,h7]
          have e4:((ij (rows.length-d) ((bu (cr j.zero)).map nz)).getD q []).getD z .χ=nz ((bu (cr j.zero)).getD z .χ):=by
           have h5:z<(bu (cr j.zero)).length:=by omega
           simp [aV,hq,h5]
          rw [e3,e4];have h4:=(hz w F).2 z (by omega);refine ⟨h4.1,BW (nQ (ej.1 gW _ ?_) h4.2)⟩;rw [fW,bU (show z<(bu (cr j.zero)).length by omega)];exact eI _
         have:=J9 (zs:=cur.toList.drop (d*Kw+zs.toList.length)) (Q:=fun x u=>u.oneCell'=true∧bg w F x u) nP (by simp only [ZB];exact mR) h1 h2 q z hq iS;rw [vP _ (cur.toList.take (d*Kw)++zs.toList++cur.toList.drop (d*Kw+zs.toList.length)) rfl];exact ⟨this.1,this.2.frame (ha _) fun _ h=>h⟩
     ·cases h
    ·cases h
   ·cases h
  ·cases h
 ·cases h
def aaV {args:Array Operand} {argTypes:Array TypeId} {a:Act} {type:TypeId} {f:Nat→AV} (hT:bO P T) (hI:Inv w F β st.H) (bJ:∀x,x∈args→Rd w F β (ev f x) (a.eval x))
  (h:match argTypes.toList,args.toList.map (ev f) with
   |[t],[x]=>HT T t x st k
   |_,_=>False) :
  cW P (do let d ←resolve a.eval { callee:=.builtin .clear,args:=args,argTypes:=argTypes } type;invoke d.target d.args) w F β st k:=by
 split at h
 ·rename_i t x e1 e2
  have L7:argTypes=#[t]:=by rw [←Array.toArray_toList (xs:=argTypes),e1]
  have hl:args.size=1:=by have:=congrArg List.length e2;simpa using this
  have ex:x=ev f args[0]:=by
   have:=congrArg (fun l=>l[0]?) e2;simp [hl] at this;exact this.symm
  have ea:args.map a.eval=#[a.eval args[0]]:=by
   apply Array.ext
   ·simp [hl]
   ·intro i h1 h2
    have:i=0:=by simp at h2;omega
    subst this;simp
  have e:(do let d ←resolve a.eval { callee:=.builtin .clear,args:=args,argTypes:=argTypes } type;invoke d.target d.args:Sem Next)=builtin .clear argTypes type (args.map fun|.const _=>true|_=>false) (args.map a.eval):=rfl;rw [e,ea,L7];exact aaW hT hI (by rw [ex];exact bJ _ (by simp)) h type
 ·cases h
def aa3 {t d:Nat} {x:AV} {vx:Value} (hd:d<1000) (hT:bO P T) (hI:Inv w F β st.H) (hx:Rd w F β x vx) (h:Mh T t x d st k):cW P (do pure (.value (←Instr.range t vx))) w F β st k:=by
 unfold Mh at h;split at h
 ·rename_i i s hi;cases hx.bN;split at h
  ·rename_i hk;have hu:=(hT _ _ hi).str hk;have aY:=run_range_string w t s hu;have eS:(w.iter s 0).heap[w.heap.size]?=some (.stringIter s 0):=World.iter_heap w s 0;have hb:=vR w (.stringIter s 0);refine cW.value aY ⟨_,_,F,_,h,.b (by simp),qc (v:=.pointer (some ⟨w.heap.size,0,none⟩)) hd hI hb.os hb.tape hb.output hb.size (fun b Φ _=>hb.block b Φ) (fun i c b _ hm kL=>hb.block b (hI.fM ⟨i,c,hm,kL⟩)) (fun b kL=>?_) ?_⟩
   ·simp [bR] at kL;left;omega
   ·exact ⟨w.heap.size,by simp,eS⟩
  ·cases h
 ·cases h
def aa2 {x:AV} {vx:Value} {Jf:Bool} {ty:TypeId} (hI:Inv w F β st.H) (hx:Rd w F β x vx) (h:Mg x Jf st k):cW P (do pure (.value (←G0 vx Jf ty))) w F β st k:=by
 unfold Mg at h;split at h
 ·rename_i id;split at h
  ·rename_i s pos hc;have hm:=eZ hc;obtain ⟨b,ah,hh⟩:=hI.holds _ _ hm;obtain ⟨eX,hb,rfl⟩:=hx.mz;rw [ah] at hb;cases hb
   have kL:bR (β id)=some b:=by rw [ah];rfl
   have Φ:=kF hh;by_cases hp:pos<s.size
   ·have aY:(G0 (.pointer (some ⟨b,0,none⟩)) true ty).run P w=.ok (.tuple #[.bool true,.int .i64 (pos:Int),.int .i32 ((Lq s pos).1:Int)]) { w with heap:=w.heap.setIfInBounds b (.stringIter s (pos+(Lq s pos).2)) }:=by
     simp only [G0,getObj,setObj,kC,G',hh,Result.andThen,hp,if_true];simp [goInt,G',hh]
    refine cW.value aY ⟨_,_,F,β,h.1 hp,.i (.t rfl fun i hi=>?_),wb hI hm rfl ⟨rfl,fun _=>bG _⟩ rfl (by simp) (fun b' aK=>?_) ?_⟩
    ·match i,hi with
     |0,_=>exact .v (.inl rfl)
     |1,_=>exact .v (.inl rfl)
     |2,_=>exact .v (.inl rfl)
    ·exact xm fun e=>aK (by rw [kL,e])
    ·exact ⟨b,ah,by simp [Φ]⟩
   ·have aY:(G0 (.pointer (some ⟨b,0,none⟩)) true ty).run P w=.ok (.tuple #[.bool false]) w:=by
     simp [G0,getObj,G',hh,hp]
    refine cW.value aY ⟨_,_,F,β,h.2 hp,.i (.t rfl fun i hi=>?_),Ext.refl hI⟩
    match i,hi with
    |0,_=>exact .v (.inl rfl)
  ·cases h
 ·cases h
def XT {o:Oper} {a:Act} (hT:bO P T) (hI:Inv w F β st.H) (bJ:∀x,x∈o.op.operands→Rd w F β (ev st.f x) (a.eval x)) (h:step P T o st k):cW P (execOp a.eval o) w F β st k:=by
 have Bd:=(cond_prop h).1;replace h:=(cond_prop h).2
 have hd:o.dst.getD 0<1000:=by simpa using Bd
 clear Bd;have quiet:mZ P T o (ev st.f) st.H (fun r=>k r st)→cW P (execOp a.eval o) w F β st k:=fun h=>agh hI (KE hT hI bJ h);obtain ⟨dst,op,type,pos,after,guard⟩:=o;cases op<;>simp only [Op.operands] at bJ
 case alloc t=>simp only [execOp];exact aaN hd hT hI h
 case box t x=>simp only [execOp];exact aaR hd hI (bJ x (by simp)) h
 case makeMap t r =>
  cases r with
  |none=>simp only [execOp];exact aa0 hd hT hI h
  |some r=>exact quiet h
 case range t x=>simp only [execOp];exact aa3 hd hT hI (bJ x (by simp)) h
 case next x s=>simp only [execOp];exact aa2 hI (bJ x (by simp)) h
 case mapUpdate t m i y=>simp only [execOp];exact SD hT hI (bJ m (by simp)) (bJ i (by simp)) (bJ y (by simp)) h
 case insert t m i y=>simp only [execOp];exact SD hT hI (bJ m (by simp)) (bJ i (by simp)) (bJ y (by simp)) h
 case store t x y=>simp only [execOp];exact aa7 hT hI (bJ x (by simp)) (bJ y (by simp)) h
 case buildSlice t n parts =>
  rcases h with h|h
  ·exact quiet h
  ·simp only [execOp];exact aaS hd hT hI (JL (ev st.f) a.eval parts) (JM fun x hx=>bJ x (by simpa using hx)) h
 case slice t x lo hi mx =>
  cases mx with
  |none =>
   cases lo with
   |some l=>exact quiet h
   |none =>
    simp only [Cy] at h;split at h
    ·simp only [execOp];refine aa5 (vhi:=hi.map a.eval) hT hI (bJ x (by simp)) ?_ h;cases hi with
     |none=>exact Lo
     |some l=>exact bJ l (by simp)
    ·exact quiet h
  |some m =>
   have h:HW T t (ev st.f x) (lo.map (ev st.f)) (hi.map (ev st.f)) (some (ev st.f m)) (dst.getD 0) st k:=by cases lo<;>exact h
   simp only [execOp];refine aa4 (vlo:=lo.map a.eval) (vhi:=hi.map a.eval) (vmx:=some (a.eval m)) hd hT hI (bJ x (by simp)) ?_ ?_ ?_ h
   ·cases lo with
    |none=>exact Lo
    |some l=>exact bJ l (by simp)
   ·cases hi with
    |none=>exact Lo
    |some l=>exact bJ l (by simp)
   ·exact bJ m (by simp)
 case makeSlice t l c =>
  rcases h with h|h
  ·exact quiet h
  ·simp only [execOp];exact aa1 hd hT hI (bJ l (by simp)) (bJ c (by simp)) h
 case convert s t x =>
  simp only [Cy] at h;split at h
  ·rename_i id hid;simp only [execOp];have hx:=bJ x (by simp);rw [hid] at hx;exact aaX hT hI hx h
  ·exact quiet h
 case call c =>
  obtain ⟨callee,args,argTypes⟩:=c
  have mN:∀i,i<(args.toList.map (ev st.f)).length→Rd w F β ((args.toList.map (ev st.f)).getD i .χ) ((args.map a.eval).getD i undef):=fun i hi=>by
   simp at hi;simpa [aV,hi] using bJ args[i] (by simp [qN])
  cases callee with
  |builtin b =>
   cases b
   case append=>simp only [execOp];exact aaQ hd hT hI (fun x hx=>bJ x (by simp [qN,hx])) h
   case copy=>simp only [execOp];exact aaY hT hI (fun x hx=>bJ x (by simp [qN,hx])) h
   case clear=>simp only [execOp];exact aaV hT hI (fun x hx=>bJ x (by simp [qN,hx])) h
   all_goals exact quiet h
  |value f=>simp only [execOp];exact aaT hI (bJ f (by simp [qN])) mN h
  |invoke r m=>exact quiet h
 all_goals exact quiet h
def ahZ {o:Oper} {a:Act} (hT:bO P T) (hI:Inv w F β st.H) (hf:∀t,Rd w F β (st.f t) (a.tmps.getD t undef)) (h:step P T o st k):cW P (execOp a.eval o) w F β st k :=
 XT hT hI (fun x _=>A2 hf x) h
end
end
section
open Go.RowKit
variable [M:bM] [G:cK]
def Br (b want:Bool) (yes no:Prop):Prop :=
 match b,want with
 |true,true=>yes
 |false,false=>yes
 |true,false=>no
 |false,true=>no
def Br.y {b want:Bool} {yes no:Prop} (h:Br b want yes no) (hb:b=want):yes:=by subst hb;cases b<;>exact h
def Br.n {b want:Bool} {yes no:Prop} (h:Br b want yes no) (hb:b=!want):no:=by subst hb;cases want<;>exact h
def Br.tt {yes no:Prop} (h:yes):Br true true yes no:=h
def Br.ff {yes no:Prop} (h:yes):Br false false yes no:=h
def Br.tf {yes no:Prop} (h:no):Br true false yes no:=h
def Br.ft {yes no:Prop} (h:no):Br false true yes no:=h
def Br.yes {b want:Bool} {yes no:Prop} (hb:b=want) (h:yes):Br b want yes no:=by
 subst hb;cases b
 ·exact Br.ff h
 ·exact Br.tt h
def Br.no {b want:Bool} {yes no:Prop} (hb:b=!want) (h:no):Br b want yes no:=by
 subst hb;cases want
 ·exact Br.tf h
 ·exact Br.ft h
def Br.ite {b:Bool} {ρ:Type} {X Y:Option ρ} {r:ρ} {yes no:Prop} (h:(if b=true then X else Y)=some r) (y:b=true→X=some r→yes) (n:b=false→Y=some r→no):Br b true yes no:=by
 cases b with
 |true=>exact y rfl (by simpa using h)
 |false=>exact n rfl (by simpa using h)
def Br.ei {b:Bool} {ρ:Type} {X Y:Option ρ} {r:ρ} {yes no:Prop} (h:(if b=true then X else Y)=some r) (y:b=true→X=some r→no) (n:b=false→Y=some r→yes):Br b false yes no:=by
 cases b with
 |true=>exact y rfl (by simpa using h)
 |false=>exact n rfl (by simpa using h)
def S5 (x:AV) (k:AV→Prop):Prop :=
 match x with
 |.v a=>k (.v a)
 |.s a=>k (.s a)
 |.p a=>k (.p a)
 |.a a=>k (.a a)
 |.t a=>k (.t a)
 |.c a b c=>k (.c a b c)
 |.b a b=>k (.b a b)
 |.o a=>k (.o a)
 |.e a b c d=>k (.e a b c d)
 |.w a b c=>k (.w a b c)
 |.m a=>k (.m a)
 |.z=>k .z
 |.χ=>k .χ
def abx (x:AV) (k:AV→Prop):S5 x k=k x:=by cases x<;>rfl
def put (n:Nat) (dst:Option Nat) (st:ae) (r:AV) (K:ae→Prop):Prop :=
 match st with
 |⟨f,H⟩=>match dst with
  |none=>K ⟨f,H⟩
  |some d=>bif eN d n then S5 r fun r=>K ⟨dX f d r,H⟩ else False
def put_eq (n:Nat) (dst:Option Nat) (st:ae) (r:AV) (K:ae→Prop):put n dst st r K=match dst with
  |none=>K st
  |some d=>bif eN d n then K ⟨dX st.f d r,st.H⟩ else False:=by
 cases st;cases dst with
 |none=>rfl
 |some d=>simp only [put,abx]
def gd (n:Nat) (all:Array Oper) (o:Oper) (st:ae) (yes no:ae→Prop):Prop :=
 match st with
 |⟨f,H⟩=>match o.guard with
  |none=>yes ⟨f,H⟩
  |some (j,want)=>match (all[j]?).bind (·.dst) with
   |some d=>bif eN d n then
     match f d with
     |.v (.bool b)=>Br b want (yes ⟨dX f d (.v (.bool want)),H⟩) (no ⟨dX f d (.v (.bool (!want))),H⟩)
     |.v (.tuple _)=>no ⟨f,H⟩
     |_=>False
    else False
   |none=>False
def sR (n:Nat) (all:Array Oper) (o:Oper) (st:ae) (yes no:ae→Prop):gd n all o st yes no=match o.guard with
 |none=>yes st
 |some (j,want)=>match (all[j]?).bind (·.dst) with
  |some d=>bif eN d n then
    match st.f d with
    |.v (.bool b)=>Br b want (yes ⟨dX st.f d (.v (.bool want)),st.H⟩) (no ⟨dX st.f d (.v (.bool (!want))),st.H⟩)
    |.v (.tuple _)=>no st
    |_=>False
   else False
  |none=>False:=by cases st;rfl
def iV (P:Program) (T:TT) (n:Nat) (all:Array Oper):List Oper→ae→(ae→Prop)→Prop
 |[],st,K=>K st
 |o::os,st,K=>gd n all o st (fun st=>step P T o st fun r aq=>put n o.dst aq r fun fO=>iV P T n all os fO K) fun st=>put n o.dst st (.v undef) fun aq=>iV P T n all os aq K
class dK where
 any:Prop
abbrev dK.yes:dK:=⟨True⟩
abbrev dK.no:dK:=⟨False⟩
variable [R:dK]
structure Ctx where
 w:World
 F:Nat→Prop
 β:Nat→Value
 H:Hp
 n:Nat
 ro:Option Nat:=none
 EM:ro=none∨R.any:=by exact .inl rfl
 dl:List Deferred:=[]
def Ctx.ms (C:Ctx) (ds:List Deferred):List Deferred:=ds.take (ds.length-C.dl.length)
structure XM (C:Ctx) (ds:List Deferred) (w:World) (F:Nat→Prop) (β:Nat→Value) (H:Hp):Prop where
 x:Ext C.w C.F C.β ⟨aF,C.H⟩ w F β ⟨aF,H⟩
 m:∀d,d∈C.ms ds→∃D,d={ target:=.collected D,args:=#[] }∧C.w.heap.size≤D∧w.heap[D]?=some (.deferred (some []))∧¬F D∧¬bC β H D
 nd:(C.ms ds).Nodup
 sp:∃l,ds=l++C.dl
section
variable {C:Ctx} {ds:List Deferred} {w w':World} {F F':Nat→Prop} {β av:Nat→Value} {H H':Hp}
def Ctx.aek {d:Deferred} (h:∃l,ds=l++C.dl):C.ms (d::ds)=d::C.ms ds:=by
 obtain ⟨l,rfl⟩:=h;unfold Ctx.ms
 have e1:(d::(l++C.dl)).length-C.dl.length=l.length+1:=by simp;omega
 have e2:(l++C.dl).length-C.dl.length=l.length:=by simp
 rw [e1,e2];rfl
def Ctx.VU (h:C.dl=[]):C.ms ds=ds:=by unfold Ctx.ms;rw [h];simp
def Ctx.E9 {l:List Deferred}:C.ms (l++C.dl)=l:=by unfold Ctx.ms;simp
def XM.inv (h:XM C ds w F β H):Inv w F β H:=h.x.inv
def Ext.no {st aq:ae} (h:Ext w F β st w' F' av aq):Ext w F β ⟨aF,st.H⟩ w' F' av ⟨aF,aq.H⟩ :=
 ⟨h.os,h.tape,h.output,h.size,h.block,h.mono,h.new,h.owned,fun _ _ _=>.χ,h.inv,h.gu⟩
def XM.trans {f f':Nat→AV} (h:XM C ds w F β H) (hx:Ext w F β ⟨f,H⟩ w' F' av ⟨f',H'⟩):XM C ds w' F' av H' where
 x:=h.x.trans hx.no
 m d hd:=by
  obtain ⟨D,h1,h2,h3,h4,h5⟩:=h.m d hd;have Φ:=kF h3;refine ⟨D,h1,h2,(hx.block D Φ h5).trans h3,fun hF=>?_,fun ho=>?_⟩
  ·rcases hx.new D hF with h|h|h
   ·exact h4 h
   ·exact absurd Φ (Nat.not_lt.2 h)
   ·exact h5 h
  ·rcases hx.owned D ho with h|h
   ·exact absurd Φ (Nat.not_lt.2 h)
   ·exact h5 h
 nd:=h.nd
 sp:=h.sp
def XM.OP (h:XM C ds w F β H):XM C ds w F β H:=h
end
def Rel (C:Ctx) (st:ae) (a:Act) (w:World):Prop :=
 ∃F β,a.tmps.size=C.n∧True∧(∀t,Rd w F β (st.f t) (a.tmps.getD t undef))∧XM C a.defers w F β st.H
def Hc (P:Program) (C:Ctx) (c:Code) (st:ae) (Q:Exit→ae→Prop):Prop :=
 ∀a w,Rel C st a w→c.wpIn (fQ C.ro) 0 P (fun e a' w'=>∃aq,Rel C aq a' w'∧Q e aq) a w
structure RG (P:Program) (n:Nat) (c:Code) (st:ae) (Q:Exit→ae→Prop):Prop where
 h:∀C:Ctx,C.n=n→Hc P C (.loop c) st Q
structure He (P:Program) (n:Nat) (id:Nat) (ops:Array Oper) (st:ae) (K:ae→Prop):Prop where
 h:∀C:Ctx,C.n=n→Hc P C (.region id ops true) st fun e aq=>match e with
  |.normal=>K aq
  |_=>False
def xj (P:Program) (T:TT) (n:Nat):Code→ae→(Exit→ae→Prop)→Prop
 |.skip,st,Q=>Q .normal st
 |.label _,st,Q=>Q .normal st
 |.region id ops draw,st,Q=>bif draw then He P n id ops st (Q .normal) else iV P T n ops ops.toList st (Q .normal)
 |.seq x y,st,Q=>xj P T n x st fun e s=>match e with
  |.normal=>xj P T n y s Q
  |e=>Q e s
 |.cond c x y,st,Q=>match c with
  |.tmp d=>bif eN d n then
    match st.f d with
    |.v (.bool b)=>Br b true (xj P T n x ⟨dX st.f d (.v (.bool true)),st.H⟩ Q) (xj P T n y ⟨dX st.f d (.v (.bool false)),st.H⟩ Q)
    |_=>False
   else False
  |.const (.bool true)=>xj P T n x st Q
  |.const (.bool false)=>xj P T n y st Q
  |_=>False
 |.block id c,st,Q=>xj P T n c st fun e s=>match e with
  |.exit i=>bif aH i id then Q .normal s else Q (.exit i) s
  |e=>Q e s
 |.loop c,st,Q=>RG P n c st Q
 |.exit id,st,Q=>Q (.exit id) st
 |.ret,st,Q=>Q .ret st
 |_,_,_=>False
section
variable {P:Program} {T:TT} {C:Ctx}
def Ext.vn {w:World} {F:Nat→Prop} {β:Nat→Value} {st:ae} {w':World} {F':Nat→Prop} {av:Nat→Value} {aq:ae} (h:Ext w F β st w' F' av aq) (f:Nat→AV) :
  Ext w F β ⟨f,st.H⟩ w' F' av ⟨aF,aq.H⟩ :=
 ⟨h.os,h.tape,h.output,h.size,h.block,h.mono,h.new,h.owned,fun _ _ _=>.χ,h.inv,h.gu⟩
def Rd.put {w:World} {F:Nat→Prop} {β:Nat→Value} {f:Nat→AV} {a:Act} {d:Nat} {r:AV} {v:Value} (hf:∀t,Rd w F β (f t) (a.tmps.getD t undef)) (hv:Rd w F β r v) (hd:d<a.tmps.size) :
  ∀t,Rd w F β (dX f d r t) ((a.put (some d) v).tmps.getD t undef):=by
 intro t;unfold dX;cases hb:aH t d with
 |true =>
  obtain rfl:=cT hb;simpa [Act.put,hd] using hv
 |false =>
  have aP:d≠t:=fun e=>by rw [e,iW] at hb;cases hb
  have:=hf t;simpa [Act.put,xm aP] using this
def CX {w:World} {F:Nat→Prop} {β:Nat→Value} {f:Nat→AV} {a:Act} {d:Nat} {b c:Bool} (hf:∀t,Rd w F β (f t) (a.tmps.getD t undef)) (hd:f d=.v (.bool b)) (hb:b=c) :
  ∀t,Rd w F β (dX f d (.v (.bool c)) t) (a.tmps.getD t undef):=by
 intro t;unfold dX;cases ht:aH t d with
 |true =>
  obtain rfl:=cT ht;subst hb;simpa [hd] using hf t
 |false=>exact hf t
def zN {n:Nat} {dst:Option Nat} {st:ae} {r:AV} {K:ae→Prop} {a:Act} {w:World} {F:Nat→Prop} {β:Nat→Value} {v:Value} (hn:C.n=n) (hs:a.tmps.size=C.n) (hd:True)
  (hf:∀t,Rd w F β (st.f t) (a.tmps.getD t undef)) (he:XM C a.defers w F β st.H) (hv:Rd w F β r v) (h:put n dst st r K):∃aq,Rel C aq (a.put dst v) w∧K aq:=by
 rw [put_eq] at h;cases dst with
 |none=>exact ⟨st,⟨F,β,hs,hd,hf,he⟩,h⟩
 |some d =>
  obtain ⟨Φ,hk⟩:=cond_prop h
  have Φ:d<n:=by simpa [gH] using Φ
  exact ⟨⟨dX st.f d r,st.H⟩,⟨F,β,by simpa [Act.put] using hs,hd,Rd.put hf hv (by omega),he⟩,hk⟩
def put_defers (a:Act) (dst:Option Nat) (v:Value):(a.put dst v).defers=a.defers:=by cases dst<;>rfl
def vV {ro:Option Nat} {m:Nat} {f:FuncId} {args:Array Value} {w:World} {R:Ending→World→Prop} (h:Calls P f args w R):CallsIn (fQ ro) m P f args w R :=
 ⟨trivial,fun cs _=>let ⟨e,w',fr,r,s,x⟩:=h cs;⟨e,w',fr,r,comesIn_wide.2 s,x⟩⟩
def Xa {ro:Option Nat} {m m':Nat} {l:Nat} {f:FuncId} {tmps:Array Value} {assign body:Code} {w:World} {R:Ending→World→Prop} (h:RoundIn gh m P l f tmps assign body w R):RoundIn (fQ ro) m' P l f tmps assign body w R :=
 ⟨trivial,fun c cs _=>h.2 c cs (room_wide _)⟩
def Oper.kj {o:Oper} {ro:Option Nat} {a:Act} {w:World} {N:Act→World→Prop} {Q:Exit→Act→World→Prop} {r:Result Next} (hd:∀c,o.op≠.defer c) (aY:(execOp a.eval o).run P w=r) (h:o.uponIn (fQ ro) 0 P a N Q r):o.wpIn (fQ ro) 0 P a w N Q :=
 ⟨fun _ _=>trivial,by rw [Oper.semAt_eq _ _ _ hd,aY];exact h⟩
def XQ {o:Oper} {ρ:Operand→AV} {H:Hp} {k:AV→Prop} (h:mZ P T o ρ H k):∀c,o.op≠.defer c:=fun c e=>by
 unfold mZ at h;rw [e] at h;exact h
def XS {o:Oper} {st:ae} {k:AV→ae→Prop} (h:step P T o st k):∀c,o.op≠.defer c:=fun c e=>by
 have h:=(cond_prop h).2;unfold Cy at h;rw [e] at h;exact XQ h c e
def vv {n:Nat} {all:Array Oper} {o:Oper} {i:Nat} {st:ae} {K:ae→Prop} {a:Act} {w:World} {Q:Exit→Act→World→Prop} {N:Act→World→Prop} (hT:bO P T) (hn:C.n=n) (ho:all[i]?=some o) (hr:Rel C st a w)
  (hN:∀st a w,Rel C st a w→K st→N a w)
  (h:gd n all o st (fun st=>step P T o st fun r aq=>put n o.dst aq r K) fun st=>put n o.dst st (.v undef) K):wpOpIn (fQ C.ro) 0 P all Q i N a w:=by
 obtain ⟨F,β,hs,hd,hf,he⟩:=hr;have hI:Inv w F β st.H:=he.inv
 have run:∀st,st.H=st.H→(∀t,Rd w F β (st.f t) (a.tmps.getD t undef))→Inv w F β st.H→XM C a.defers w F β st.H→(step P T o st fun r aq=>put n o.dst aq r K)→o.wpIn (fQ C.ro) 0 P a w N Q:=by
  intro st _ hf hI he h;have dJ:=XS h
  rcases ahZ hT hI hf h with ⟨v,w',aY,r,aq,F',av,hk,hv,hx⟩|⟨w',aY,r,aq,F',av,hk,hv,hx⟩|⟨g,vs,aY,hc⟩|⟨l,fn,tmps,assign,body,aY,hc⟩
  ·refine Oper.kj dJ aY ?_;rw [Oper.uponIn_value];obtain ⟨fO,h1,h2⟩:=zN hn hs hd (fun t=>hx.keep t _ (hf t)) (he.trans (hx.vn aF)) hv hk;exact hN _ _ _ h1 h2
  ·refine Oper.kj dJ aY ?_;rw [Oper.uponIn_skip];obtain ⟨fO,h1,h2⟩:=zN hn hs hd (fun t=>hx.keep t _ (hf t)) (he.trans (hx.vn aF)) hv hk;exact hN _ _ _ h1 h2
  ·refine Oper.kj dJ aY ?_;rw [Oper.uponIn_enter];refine ⟨fun h=>(by cases h),vV (hc.mono ?_)⟩;rintro e w' ⟨v,rfl,r,aq,F',av,hk,hv,hx⟩;obtain ⟨fO,h1,h2⟩:=zN hn hs hd (fun t=>hx.keep t _ (hf t)) (he.trans (hx.vn aF)) hv hk;exact hN _ _ _ h1 h2
  ·refine Oper.kj dJ aY ?_;rw [Oper.uponIn_round];refine ⟨fun h=>(by cases h),Xa (hc.mono ?_)⟩;rintro e w' ⟨v,rfl,r,aq,F',av,hk,hv,hx⟩;obtain ⟨fO,h1,h2⟩:=zN hn hs hd (fun t=>hx.keep t _ (hf t)) (he.trans (hx.vn aF)) hv hk;exact hN _ _ _ h1 h2
 have skip:∀st:ae,(∀t,Rd w F β (st.f t) (a.tmps.getD t undef))→XM C a.defers w F β st.H→put n o.dst st (.v undef) K→N (a.put o.dst undef) w:=by
  intro st hf he h;obtain ⟨fO,h1,h2⟩:=zN hn hs hd hf he (.i (.v (.inr rfl)):Rd w F β (.v undef) undef) h;exact hN _ _ _ h1 h2
 unfold wpOpIn;simp only [ho];rw [sR] at h;cases hg:o.guard with
 |none =>
  rw [hg] at h
  have hw:dU o (yielded all a.tmps)=true:=by simp [dU,hg]
  rw [if_pos hw];exact run st rfl hf hI he h
 |some jw =>
  obtain ⟨j,want⟩:=jw;rw [hg] at h;simp only at h;split at h
  ·rename_i d oE;obtain ⟨Φ,h⟩:=cond_prop h
   have Φ:d<a.tmps.size:=by rw [hs,hn];simpa [gH] using Φ
   have gn:=hf d
   have hy:∀v,a.tmps.getD d undef=v→yielded all a.tmps j=match v with|.bool b=>some b|_=>none:=by
    intro v hv
    have h2:a.tmps[d]?=some v:=by
     rw [←hv];simp [Φ]
    unfold yielded;rw [oE,Option.bind_some,h2];cases v<;>rfl
   split at h
   ·rename_i b hb;rw [hb] at gn;have hv:=gn.bN;have g_:=hy _ hv;simp only at g_;by_cases jA:b=want
    ·have hw:dU o (yielded all a.tmps)=true:=by simp [dU,hg,g_,jA]
     rw [if_pos hw];exact run ⟨dX st.f d (.v (.bool want)),st.H⟩ rfl (CX hf hb jA) hI he (h.y jA)
    ·have qf:b=!want:=by cases b<;>cases want<;>first|rfl|exact absurd rfl jA
     have hw:¬dU o (yielded all a.tmps)=true:=by simp [dU,hg,g_,jA]
     rw [if_neg hw];exact ⟨fun _ _=>trivial,skip ⟨dX st.f d (.v (.bool !want)),st.H⟩ (CX hf hb qf) he (h.n qf)⟩
   ·rename_i vs hb;rw [hb] at gn;have hv:=gn.bN;have g_:=hy _ hv;simp only at g_
    have hw:¬dU o (yielded all a.tmps)=true:=by simp [dU,hg,g_]
    rw [if_neg hw];exact ⟨fun _ _=>trivial,skip st hf he h⟩
   ·cases h
  ·cases h
def akm {n:Nat} {all:Array Oper} {K:ae→Prop} {Q:Exit→Act→World→Prop} (hT:bO P T) (hn:C.n=n) (hQ:∀st a w,Rel C st a w→K st→Q .normal a w) :
  ∀(l:List Oper) (i:Nat) (st:ae) (a:Act) (w:World),(∀k,k<l.length→all[i+k]?=l[k]?)→Rel C st a w→iV P T n all l st K→wpOpsIn (fQ C.ro) 0 P all Q (List.range' i l.length) a w:=by
 intro l;induction l with
 |nil=>intro i st a w _ hr h;exact hQ _ _ _ hr h
 |cons o os ih =>
  intro i st a w d_ hr h
  have ho:all[i]?=some o:=by simpa using d_ 0 (by simp)
  rw [List.length_cons,List.range'_succ,wpOpsIn_cons];refine vv (K:=fun st=>iV P T n all os st K) hT hn ho hr (fun st a w hr hk=>?_) h;exact ih (i+1) st a w (fun k hk=>by have:=d_ (k+1) (by simp;omega);rw [show i+1+k=i+(k+1) by omega];simpa using this) hr hk
def QK {n:Nat} (hT:bO P T) (hn:C.n=n):∀(c:Code) (st:ae) (Q:Exit→ae→Prop),xj P T n c st Q→Hc P C c st Q:=by
 intro c;induction c with
 |skip=>intro st Q h a w hr;exact wpIn_skip ⟨st,hr,h⟩
 |label l=>intro st Q h a w hr;exact wpIn_label ⟨st,hr,h⟩
 |region id ops draw =>
  intro st Q h a w hr;cases draw with
  |true =>
   refine wpIn_mono ((show He P n id ops st (Q .normal) from h).h C hn a w hr) ?_;rintro e a' w' ⟨aq,cJ,hq⟩
   cases e<;>first|exact ⟨aq,cJ,hq⟩|exact hq.elim
  |false =>
   refine wpIn_region ?_;have:=akm (C:=C) (Q:=fun e a' w'=>∃aq,Rel C aq a' w'∧Q e aq) hT hn (fun st a w hr hk=>⟨st,hr,hk⟩) ops.toList 0 st a w (fun k hk=>by simp) hr h;simpa [List.range_eq_range'] using this
 |seq x y EY EZ =>
  intro st Q h a w hr;refine wpIn_seq (wpIn_mono (EY st _ h a w hr) ?_);rintro e a' w' ⟨aq,cJ,hq⟩
  cases e<;>first|exact EZ aq Q hq a' w' cJ|exact ⟨aq,cJ,hq⟩
 |cond c x y EY EZ =>
  intro st Q h a w hr;cases c with
  |tmp d =>
   obtain ⟨Φ,h⟩:=cond_prop h;split at h
   ·rename_i b hb;obtain ⟨F,β,hs,hd,hf,he⟩:=hr;have gn:=hf d;rw [hb] at gn;have hv:a.eval (.tmp d)=.bool b:=gn.bN;refine wpIn_cond_split hv (fun ht=>?_) fun ht=>?_
    ·exact EY _ _ (h.y ht) a w ⟨F,β,hs,hd,CX hf hb ht,he⟩
    ·exact EZ _ _ (h.n (by simpa using ht)) a w ⟨F,β,hs,hd,CX hf hb ht,he⟩
   ·cases h
  |const v =>
   cases v<;>first|exact h.elim|skip
   rename_i b;cases b with
   |true=>exact wpIn_cond_true rfl (EY _ _ h a w hr)
   |false=>exact wpIn_cond_false rfl (EZ _ _ h a w hr)
  |global g=>cases h
  |func g=>cases h
 |block id c ih =>
  intro st Q h a w hr;refine wpIn_block (wpIn_mono (ih st _ h a w hr) ?_);rintro e a' w' ⟨aq,cJ,hq⟩;cases e with
  |exit i =>
   by_cases hi:i=id
   ·subst hi;simp only [iW,cond_true] at hq;simp only [Exit.inBlock,if_true];exact ⟨aq,cJ,hq⟩
   ·have:aH i id=false:=by cases hb:aH i id;rfl;exact absurd (cT hb) hi
    simp only [this,cond_false] at hq;simp only [Exit.inBlock,if_neg hi];exact ⟨aq,cJ,hq⟩
  |_=>exact ⟨aq,cJ,hq⟩
 |loop c ih=>intro st Q h a w hr;exact (show RG P n c st Q from h).h C hn a w hr
 |exit id=>intro st Q h a w hr;exact wpIn_exit ⟨st,hr,h⟩
 |ret=>intro st Q h a w hr;exact wpIn_ret ⟨st,hr,h⟩
 |scope c ih=>intro st Q h;cases h
 |goto l=>intro st Q h;cases h
 |refuse s=>intro st Q h;cases h
 |rangeFunc f ps x y EY EZ=>intro st Q h;cases h
end
end
section
open Go.RowKit
variable [M:bM] [G:cK]
def Cg (T:TT):List ResultVar→ae→(List AV→Prop)→Prop
 |[],_,k=>k []
 |.tmp t::r,st,k=>Cg T r st fun vs=>k (st.f t::vs)
 |.cell t ty::r,st,k=>match st.f t with
  |.b id off=>Ch T ty (.b id off) st.H fun x=>Cg T r st fun vs=>k (x::vs)
  |_=>False
def qC (T:TT) (rs:List ResultVar) (st:ae) (k:AV→Prop):Prop :=
 Cg T rs st fun vs=>match vs with
  |[x]=>k x
  |vs=>k (.t vs)
def sQ (T:TT) (rs:List ResultVar) (R:AV→ae→Prop):Exit→ae→Prop
 |.normal,st=>qC T rs st fun x=>R x st
 |.ret,st=>qC T rs st fun x=>R x st
 |_,_=>False
def kW (args:List AV):Nat→AV:=fun t=>args.getD t (.v undef)
def Fz (H:Hp) (x r:AV):Prop:=∀(w:World) (F:Nat→Prop) (β:Nat→Value) (u:Value),Inv w F β H→Rd w F β x u→bg w (fun b=>F b∨bC β H b) r u
section
variable {P:Program} {T:TT} {w:World} {F:Nat→Prop} {β:Nat→Value}
def Ph (hT:bO P T) {tmps:Array Value}:∀(rs:List ResultVar) {st:ae} {k:List AV→Prop},Inv w F β st.H→(∀t,Rd w F β (st.f t) (tmps.getD t undef))→Cg T rs st k →
  ∃vs xs,(rs.mapM fun (r:ResultVar)=>(match r with
   |.tmp t=>pure (tmps.getD t undef)
   |.cell a t=>do loadVar t (←asAddr (tmps.getD a undef)):Sem Value)).run P w=.ok vs w∧k xs∧vs.length=xs.length∧∀i,i<xs.length→Rd w F β (xs.getD i .χ) (vs.getD i undef)
 |[],st,k,_,_,h=>⟨[],[],by simp,h,rfl,fun i hi=>by simp at hi⟩
 |.tmp t::r,st,k,hI,hf,h=>by
  obtain ⟨vs,xs,hr,hk,hl,hv⟩:=Ph hT r hI hf h;refine ⟨tmps.getD t undef::vs,st.f t::xs,by rw [alB];simp only [kC,Sem.run_pure,mg,hr],hk,by simp [hl],fun i hi=>?_⟩;cases i with
  |zero=>exact hf t
  |succ i=>exact hv i (by simpa using hi)
 |.cell t ty::r,st,k,hI,hf,h=>by
  simp only [Cg] at h;split at h
  ·rename_i id off hid;have gn:=hf t;rw [hid] at gn;obtain ⟨v,x,aY,h,hx⟩:=Xh (P:=P) hT hI gn h;obtain ⟨eX,ah,hv⟩:=gn.mz
   have acW:(loadVar ty ⟨eX,off,none⟩).run P w=.ok v w:=by
    rw [hv] at aY;simpa [Instr.loadAt,G1] using aY
   obtain ⟨vs,xs,hr,hk,hl,jV⟩:=Ph hT r hI hf h;refine ⟨v::vs,x::xs,?_,hk,by simp [hl],fun i hi=>?_⟩
   ·have e:(do loadVar ty (←asAddr (tmps.getD t undef)):Sem Value).run P w=.ok v w:=by
     rw [hv];simpa [asAddr] using acW
    rw [alB,kC]
    erw [e]
    simp only [mg,kC,hr,Sem.run_pure]
   ·cases i with
    |zero=>exact hx
    |succ i=>exact jV i (by simpa using hi)
  ·cases h
def J8 (hT:bO P T) {fn:Func} {tmps:Array Value} {st:ae} {k:AV→Prop} (hI:Inv w F β st.H) (hf:∀t,Rd w F β (st.f t) (tmps.getD t undef)) (h:qC T fn.results.toList st k) :
  ∃v x,(results fn tmps).run P w=.ok v w∧k x∧Rd w F β x v:=by
 obtain ⟨vs,xs,hr,hk,hl,hv⟩:=Ph hT fn.results.toList hI hf h
 have hm:(fn.results.mapM fun (r:ResultVar)=>(match r with
   |.tmp t=>pure (tmps.getD t undef)
   |.cell a t=>do loadVar t (←asAddr (tmps.getD a undef)):Sem Value)).run P w=.ok vs.toArray w:=by
  rw [Array.mapM_eq_mapM_toList];simp only [Sem.run_map,hr,mg]
 have wI:(results fn tmps).run P w=.ok (if h:vs.toArray.size=1 then vs.toArray[0] else .tuple vs.toArray) w:=by
  unfold results;rw [kC];exact congrArg (fun z:Result (Array Value)=>z.andThen fun (a:Array Value) w'=>G' P (pure (if h:a.size=1 then a[0] else .tuple a)) w') hm
 split at hk
 ·rename_i x;obtain ⟨v,rfl⟩:=List.length_eq_one_iff.1 (by simpa using hl:vs.length=1);exact ⟨v,x,by rw [wI];rfl,hk,by simpa using hv 0 (by simp)⟩
 ·rename_i aP
  have aX:¬vs.toArray.size=1:=fun h1=>by
   have:xs.length=1:=by simpa [hl] using h1
   match xs,this with
   |[x],_=>exact aP x rfl
  refine ⟨.tuple vs.toArray,.t xs,by rw [wI,dif_neg aX],hk,.t (by simpa using hl) fun i hi=>?_⟩;simpa [aV] using hv i hi
def Oh {args:List AV} {vs:Array Value} {n:Nat} (hs:vs.size=args.length) (hv:∀i,i<args.length→Rd w F β (args.getD i .χ) (vs.getD i undef)) :
  ∀t,Rd w F β (kW args t) ((vs++oc (n-vs.size) undef).getD t undef):=by
 intro t;unfold kW;by_cases ht:t<args.length
 ·have h1:=hv t ht
  have e1:args.getD t (.v undef)=args.getD t .χ:=by simp [aV,ht]
  have e2:(vs++oc (n-vs.size) undef).getD t undef=vs.getD t undef:=by
   simp [pV,hs,ht]
  rw [e1,e2];exact h1
 ·have e1:args.getD t (.v undef)=.v undef:=by simp [aV,ht]
  have e2:(vs++oc (n-vs.size) undef).getD t undef=undef:=by
   simp only [lh,pV,hs,ht,if_false,Array.getElem?_replicate];split<;>rfl
  rw [e1,e2];exact .i (.v (.inr rfl))
def Fz.dG {H:Hp} {x:AV} (h:kg x=true):Fz H x x:=fun _ _ _ _ _ hr=>(I' h hr).frame (fun _ _=>rfl) fun _ h=>.inl h
def Fz.v {H:Hp} {x:Value}:Fz H (.v x) (.v x):=Fz.dG rfl
def Fz.s {H:Hp} {x:List (List AV)}:Fz H (.s x) (.s x):=Fz.dG rfl
def Fz.nil {H:Hp}:Fz H (.v (.slice none 0 0)) (.s []):=fun _ _ _ _ _ hr=>by rw [hr.bN];exact .s0
def Fz.o {H:Hp} {id E K:Nat} {rows:List (List AV)} (h:dH id H=some (.own E K rows)):Fz H (.o id) (.s rows):=fun _ _ _ _ hI hr=>V6 hI (eZ h) hr
inductive oj (H:Hp):List AV→List AV→Prop where
 |nil:oj H [] []
 |cons {x y:AV} {xs ys:List AV} (h:Fz H x y) (t:oj H xs ys):oj H (x::xs) (y::ys)
def oj.spec {H:Hp} {xs ys:List AV} (h:oj H xs ys):xs.length=ys.length∧∀i,i<xs.length→Fz H (xs.getD i .χ) (ys.getD i .χ):=by
 induction h with
 |nil=>exact ⟨rfl,fun i hi=>by simp at hi⟩
 |cons h t ih =>
  refine ⟨by simp [ih.1],fun i hi=>?_⟩;cases i with
  |zero=>simpa using h
  |succ i=>simpa using ih.2 i (by simpa using hi)
def Fz.a {H:Hp} {xs ys:List AV} (h:oj H xs ys):Fz H (.a xs) (.a ys):=fun _ _ _ _ hI hr=>by
 obtain ⟨us,rfl,hs,h1,hu⟩:=hr.qY;obtain ⟨hl,hz⟩:=h.spec;exact .a (by omega) (fun i hi=>h1 i (by omega)) fun i hi=>hz i (by omega) _ _ _ _ hI (hu i (by omega))
def Fz.t {H:Hp} {xs ys:List AV} (h:oj H xs ys):Fz H (.t xs) (.t ys):=fun _ _ _ _ hI hr=>by
 obtain ⟨us,rfl,hs,hu⟩:=hr.CC;obtain ⟨hl,hz⟩:=h.spec;exact .t (by omega) fun i hi=>hz i (by omega) _ _ _ _ hI (hu i (by omega))
def Inv.nil {H:Hp} (h:Inv w F β H):Inv w F β [] :=
 ⟨h.cC,fun _ _ hm=>(eJ hm).elim,qS,fun _ ⟨_,_,hm,_⟩=>(eJ hm).elim,fun _ _ _ _ _ hm=>(eJ hm).elim,h.fk⟩
def Le (x y:AV):Prop:=∀(w:World) (F:Nat→Prop) (β:Nat→Value) (u:Value),Rd w F β x u→Rd w F β y u
def Le.refl (x:AV):Le x x:=fun _ _ _ _ h=>h
def Le.nil:Le (.v (.slice none 0 0)) (.s []):=fun _ _ _ _ h=>by rw [h.bN];exact .i .s0
inductive iM:List AV→List AV→Prop where
 |nil:iM [] []
 |cons {x y:AV} {xs ys:List AV} (h:Le x y) (t:iM xs ys):iM (x::xs) (y::ys)
def iM.refl:∀(xs:List AV),iM xs xs
 |[]=>.nil
 |x::xs=>.cons (Le.refl x) (iM.refl xs)
def iM.spec {xs ys:List AV} (h:iM xs ys):xs.length=ys.length∧∀i,i<xs.length→Le (xs.getD i .χ) (ys.getD i .χ):=by
 induction h with
 |nil=>exact ⟨rfl,fun i hi=>by simp at hi⟩
 |cons h t ih =>
  refine ⟨by simp [ih.1],fun i hi=>?_⟩;cases i with
  |zero=>simpa using h
  |succ i=>simpa using ih.2 i (by simpa using hi)
def Le.a {xs ys:List AV} (h:iM xs ys):Le (.a xs) (.a ys):=fun _ _ _ _ hr=>by
 obtain ⟨us,rfl,hs,h1,hu⟩:=hr.qY;obtain ⟨hl,hz⟩:=h.spec;exact .a (by omega) (fun i hi=>h1 i (by omega)) fun i hi=>hz i (by omega) _ _ _ _ (hu i (by omega))
def xJ.fE {g:FuncId} {xs ys:List AV} {H:Hp} {r:AV} (h:Pure P g ys r) (hle:iM xs ys):xJ P g xs H r:=by
 obtain ⟨hl,hz⟩:=hle.spec;exact ⟨h.1,fun w F β vs hI hs hv=>h.2 w F β vs hI.nil (by omega) fun i hi=>hz i (by omega) _ _ _ _ (hv i (by omega))⟩
def af.pure {g:FuncId} {xs:List AV} {st:ae} {r:AV} {k:AV→ae→Prop} (h:xJ P g xs st.H r) (hk:k r st):af P g xs st k:=by
 refine ⟨h.1,fun w F β vs hI hs hv=>(h.2 w F β vs hI hs hv).mono ?_⟩;rintro e w' ⟨v,rfl,hb,hr⟩;exact ⟨v,rfl,r,st,_,_,hk,.i hr,wa hI hb⟩
def af.call {g:FuncId} {xs ys:List AV} {st:ae} {r:AV} {k:AV→ae→Prop} (h:Pure P g ys r) (hle:iM xs ys) (hk:k r st):af P g xs st k:=.pure (.fE h hle) hk
def vh:AV→Bool
 |.v _=>true
 |_=>false
def O_:AV→Bool
 |.a cs|.t cs=>cs.all vh
 |x=>vh x
def JO {w':World} {F':Nat→Prop} {x:AV} {u:Value} (hx:vh x=true) (h:bg w F x u):bg w' F' x u:=by
 cases x<;>first|(cases hx;done)|(cases h;exact .v (by assumption))
def af' {w':World} {F':Nat→Prop} {x:AV} {u:Value} (hx:O_ x=true) (h:bg w F x u):bg w' F' x u:=by
 have get:∀(l:List AV) (i:Nat),l.all vh=true→i<l.length→vh (l.getD i .χ)=true:=fun l i hl hi =>
  ej.1 hl (l.getD i .χ) (by rw [fW,bU hi];exact eI _)
 cases x with
 |a cs=>cases h with|a hs h1 h=>exact .a hs h1 fun i hi=>JO (get cs i hx hi) (h i hi)
 |t cs=>cases h with|t hs h=>exact .t hs fun i hi=>JO (get cs i hx hi) (h i hi)
 |_=>exact JO hx h
def xJ.borrow {g:FuncId} {xs ys:List AV} {H:Hp} {r:AV} (h:Pure P g ys r) (hz:oj H xs ys) (hr:O_ r=true):xJ P g xs H r:=by
 obtain ⟨hl,hz⟩:=hz.spec;refine ⟨h.1,fun w F β vs hI hs hv=>?_⟩;have lV:Inv w (fun b=>F b∨bC β H b) β [] :=
  ⟨fun b hb=>hb.elim (hI.cC b) hI.fM,fun _ _ hm=>(eJ hm).elim,qS,fun _ ⟨_,_,hm,_⟩=>(eJ hm).elim,fun _ _ _ _ _ hm=>(eJ hm).elim,hI.fk.more fun _ h=>.inl h⟩
 refine (h.2 w _ β vs lV (by omega) fun i hi=>.i (hz i (by omega) _ _ _ _ hI (hv i (by omega)))).mono ?_;rintro e w' ⟨v,rfl,hb,hx⟩;exact ⟨v,rfl,hb,af' hr hx⟩
def af.borrow {g:FuncId} {xs ys:List AV} {st:ae} {r:AV} {k:AV→ae→Prop} (h:Pure P g ys r) (hz:oj st.H xs ys) (hr:O_ r=true) (hk:k r st):af P g xs st k:=.pure (.borrow h hz hr) hk
end
end
end Go.Cat
