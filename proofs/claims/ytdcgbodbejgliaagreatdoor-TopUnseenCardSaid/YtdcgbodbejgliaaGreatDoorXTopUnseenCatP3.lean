/- The logic that the walks are in, piece P3. No condition. -/
import Derived.Test.YtdcgbodbejgliaaGreatDoorXTopUnseenCatP2
import Derived.Deep.Upon
import Derived.OrdersIn
import Derived.RangeFuncIn
import Derived.RangeFuncLeaves
import Derived.RangeFuncRecord
open Array renaming getD_eq_getD_getElem? → lf, length_toList → lJ, getElem?_setIfInBounds_ne → xg, getElem?_push → ni, eq_empty_of_size_eq_zero → tM, replicate → oc, getElem?_append → pP, range → nj, size_append → tQ, toList_map → YW
open Bool renaming and_eq_true → bJ, or_eq_false_iff → QI, not_eq_false' → QH
open Go.Addr renaming add_lit → f_
open Go.Builtin renaming zeroCells → dC, append_ → h_, copy_ → qz, firstCells → xh, clear_ → u_, nextslicecap → QK
open Go.Call renaming operands → qA
open Go.Deferred renaming ofValue → l8
open Go.Fence renaming wide → ga
open Go.Instr renaming sliceAt → lL, makeSlice → vh, sureAddr → GC, mapUpdate → Gy, next → Gz, alloc → QQ, storeAt → QW, makeMap → QV, box → QR
open Go.IntWalk renaming i64_in → qB
open Go.MapKept renaming run_findKey → Gw, run_setObj_map → Y8
open Go.Question renaming forced → Rj
open Go.Region renaming wanted → dS
open Go.Result renaming andThen_ok → mh
open Go.Sem renaming run_bind → kz, run → GO
open Go.Utf8 renaming decode → K_
open Int renaming natCast_mul → QX
open List renaming length_map → ay, getElem?_eq_getElem → bT, mem_cons_of_mem → cr, mem_cons → bj, getD → aY, length_append → dq, getElem?_eq_some_iff → fb, getD_eq_getElem?_getD → fU, mem_singleton → dD, length_take → dQ, mem_map → dg, all_eq_true → ej, getElem_mem → eG, not_mem_nil → eH, getElem?_take → gb, getElem?_append → gC, replicate → ic, getElem?_drop → jl, nodup_cons → iv, range → gu, size_toArray → lh, eq_nil_of_length_eq_zero → qD, map_cons → jD, drop_eq_nil_of_le → qC, length_drop → l_, append_assoc → l9, nodup_nil → qG, append_nil → xk, getElem?_map → tW, length_replicate → Zo, take_of_length_le → Re, mapM_cons → alq
open List.cons renaming injEq → GF
open Nat renaming mul_le_mul_right → cI, eq_of_beq_eq_true → cR, beq → aH, le_refl → bF, add_mul → bO, le_trans → fc, eq_zero_or_pos → oT, blt → eL, blt_eq → gF, zero_add → jF, beq_refl → iX, le_succ → j0, div_lt_iff_lt_mul → qI, add_zero → lN, mul_comm → og, mod_eq_of_lt → C7, le_mul_of_pos_right → Rg, mod_lt → rW, mul_add_mod → C8, div_add_mod → Rf, le_of_not_lt → aln, pos_of_ne_zero → Ri, div_eq_of_lt → alo, mul_add_div → alp
open Option renaming map_eq_some_iff → C9
open Prod.mk renaming injEq → ig
open True renaming intro → K8
namespace Go.Cat
set_option linter.all false
section
open Go.RowKit
variable [M:bK] [G:cL]
def fJ (id:Nat) (c:Chunk):Hp→Hp
 | []=>[]
 | (i,c')::r=>bif aH i id then (i,c)::fJ id c r else (i,c')::fJ id c r
def gH (st:ae) (d:Nat) (c:Chunk):ae:=⟨fun t=>er 2 d (st.f t),(d,c)::gR d st.H⟩
def SU (id:Nat) (rows:List (List AV)):Chunk→Chunk
 | .box cells=>.box (cells.map (sb (.s rows) 1 id))
 | .own E K r=>.own E K r
 | .mp ag r=>.mp ag r
 | .lp l e R L=>.lp l e R (L.map fun p=>(p.1,sb (.s rows) 2 id p.2))
 | .si s pos=>.si s pos
def oA (id:Nat) (rows:List (List AV)):Hp→Hp
 | []=>[]
 | (i,c)::r=>bif aH i id then oA id rows r else (i,SU id rows c)::oA id rows r
def Md (id:Nat) (rows:List (List AV)) (st:ae):ae:=⟨fun t=>sb (.s rows) 2 id (st.f t),oA id rows st.H⟩
def L1 (T:TT) (s t id:Nat) (st:ae) (k:AV→ae→Prop):Prop :=
 match T s with
 | some i=>match i.kind with
  | .slice e=>match T e with
   | some j=>match j.kind with
    | .int .u8=>bif aH s t then
      match dI id st.H with
      | some (.own _ _ rows)=>rows≠[]∧k (.s rows) (Md id rows st)
      | _=>False
     else False
    | _=>False
   | none=>False
  | _=>False
 | none=>False
def LX (T:TT) (t d:Nat) (st:ae) (k:AV→ae→Prop):Prop :=
 match T t with
 | some i=>bif jk (cq i.zero) then k (.b d 0) (gH st d (.box (bt (cq i.zero)))) else False
 | none=>False
def LZ (x:AV) (d:Nat) (st:ae) (k:AV→ae→Prop):Prop :=
 bif jk x then k (.b d 0) (gH st d (.box ((bt x).map (er 1 d)))) else False
def Cp (n:Nat) (cells:List AV) (off:Nat) (y:AV) (k:List AV→Prop):Prop :=
 bif jk y&&(aH (bt y).length n&&Nat.ble (off+n) cells.length) then ∃C,cells.take off++(bt y++cells.drop (off+n))=C∧k C else False
def vP (T:TT) (t:Nat) (x y:AV) (st:ae) (k:AV→ae→Prop):Prop :=
 match T t with
 | some i=>match x with
  | .b id off=>match dI id st.H with
   | some (.box cells)=>Cp i.cells cells off y fun xW=>k (.v undef) ⟨st.f,fJ id (.box xW) st.H⟩
   | _=>False
  | .e id K m j=>match dI id st.H with
   | some (.own E K' rows)=>bif (bt y).all fj then ∃row,rows[m]?=some row∧K=K'∧Cp i.cells row j y fun agk=>∃R,rows.set m agk=R∧k (.v undef) ⟨st.f,fJ id (.own E K' R) st.H⟩ else False
   | _=>False
  | _=>False
 | none=>False
def oW (rows:List (List AV)) (n:Nat):Prop:=∀r,r∈rows→r.length=n
def P2 (x:AV) (not:Nat) (H:Hp) (k:List (List AV)→Prop):Prop :=
 match x with
 | .s rows=>k rows
 | .v (.slice none 0 0)=>k []
 | .o id=>bif aH id not then False else match dI id H with
  | some (.own _ _ rows)=>k rows
  | _=>False
 | _=>False
def Dh (T:TT) (t t' e:Nat) (x:AV) (not:Nat) (H:Hp) (k:List (List AV)→Prop):Prop :=
 bif aH t t' then P2 x not H k else
 match T t',T e,x with
 | some i',some je,.v (.string s)=>match i'.kind,je.kind with
  | .str,.int .u8=>bif aH je.cells 1 then k (s.data.toList.map lq) else False
  | _,_=>False
 | _,_,_=>False
def AL (T:TT) (t t':Nat) (s x:AV) (d:Nat) (st:ae) (k:AV→ae→Prop):Prop :=
 match T t with
 | some i=>match i.kind with
  | .slice e=>match T e with
   | some j =>
    bif aH j.bytes 0||(aH j.cells 0||!(aH j.zero.cells.size j.cells)) then False else
    match s with
    | .v (.slice none 0 0)=>Dh T t t' e x d st.H fun bR=>oW bR j.cells∧bR.length*j.bytes≤140737488355328∧∃R,bR=R∧k (.o d) (gH st d (.own e j.cells R))
    | .o id=>match dI id st.H with
     | some (.own E K rows)=>bif (aH E e&&aH K j.cells)&&eL id 1000 then
       Dh T t t' e x id st.H fun bR=>oW bR j.cells∧(rows.length+bR.length)*j.bytes≤140737488355328∧∃R,rows++bR=R∧k (.o id) (gH st id (.own e j.cells R))
      else False
     | _=>False
    | _=>False
   | none=>False
  | _=>False
 | none=>False
def LY (T:TT) (t t' id:Nat) (x:AV) (st:ae) (k:AV→ae→Prop):Prop :=
 match T t,T t',x with
 | some i,some i',.v (.int _ nx)=>match i.kind,i'.kind with
  | .slice e,.int _=>match T e,dI id st.H with
   | some j,some (.own E K rows)=>bif aH j.bytes 0||(aH j.cells 0||!(jk (cq j.zero)&&(aH (bt (cq j.zero)).length j.cells&&(bt (cq j.zero)).all fj))) then False else
     bif (aH E e&&aH K j.cells)&&eL id 1000 then
      ∃n:Nat,nx=(n:Int)∧(rows.length+n)*j.bytes≤140737488355328∧∃R,rows++ic n ((bt (cq j.zero)).map nz)=R∧k (.o id) (gH st id (.own e j.cells R))
     else False
   | _,_=>False
  | _,_=>False
 | _,_,_=>False
def Hz (T:TT) (t:Nat) (x y:AV) (st:ae) (k:AV→ae→Prop):Prop :=
 match T t with
 | some i=>match i.kind with
  | .slice e=>match T e with
   | some j=>match x,y with
    | .w id Kw d,.s news=>match dI id st.H with
     | some (.own E K rows)=>bif aH K j.cells&&aH Kw K then
       oW news j.cells∧∃R,rows.take d++news.take (rows.length-d)++rows.drop (d+news.length)=R∧k (.v (.int .i64 ((Nat.min news.length (rows.length-d):Nat):Int))) ⟨st.f,fJ id (.own E K R) st.H⟩
      else False
     | _=>False
    | _,_=>False
   | none=>False
  | _=>False
 | none=>False
def Hv (T:TT) (t t':Nat) (s x:AV) (d:Nat) (st:ae) (k:AV→ae→Prop):Prop :=
 match s with
 | .o id=>LY T t t' id x st k
 | s=>match T t,T t',s,x with
 | some i,some i',.v (.slice none 0 0),.v (.int _ nx)=>match i.kind,i'.kind with
  | .slice e,.int _=>match T e with
   | some j=>bif aH j.bytes 0||(aH j.cells 0||!(jk (cq j.zero)&&(aH (bt (cq j.zero)).length j.cells&&(bt (cq j.zero)).all fj))) then False else
     ∃n:Nat,nx=(n:Int)∧n*j.bytes≤140737488355328∧∃R,ic n ((bt (cq j.zero)).map nz)=R∧k (.o d) (gH st d (.own e j.cells R))
   | none=>False
  | _,_=>False
 | _,_,_,_=>False
def L6 (T:TT) (t:Nat) (x:AV) (hi:Option AV) (st:ae) (k:AV→ae→Prop):Prop :=
 match T t,x,hi with
 | some i,.o id,some (.v (.int _ nh))=>match i.kind with
  | .slice e=>match T e with
   | some j=>match dI id st.H with
    | some (.own E K rows)=>bif aH K j.cells&&eL id 1000 then ∃h:Nat,nh=(h:Int)∧h≤rows.length∧∃R,rows.take h=R∧k (.o id) (gH st id (.own E K R)) else False
    | _=>False
   | none=>False
  | _=>False
 | _,_,_=>False
def HC (T:TT) (t:Nat) (x:AV) (lo hi mx:Option AV) (d:Nat) (st:ae) (k:AV→ae→Prop):Prop :=
 match T t with
 | some i=>match i.kind,lo,hi,mx with
  | .slice e,none,some (.v (.int _ 0)),some (.v (.int _ 0))=>match T e with
   | some j=>match x with
    | .s _=>k (.o d) (gH st d (.own e j.cells []))
    | .o _=>k (.o d) (gH st d (.own e j.cells []))
    | .v (.slice none 0 0)=>k (.o d) (gH st d (.own e j.cells []))
    | _=>False
   | none=>False
  | _,_,_,_=>False
 | none=>False
def Su (T:TT) (t n:Nat) (parts:List (Nat×AV)) (d:Nat) (st:ae) (k:AV→ae→Prop):Prop :=
 zQ T t n parts fun rows e size=>bif rows.all (fun r=>r.all fj) then k (.o d) (gH st d (.own e size (rows.map fun r=>r.map nz))) else False
def L2 (T:TT) (t:Nat) (l c:AV) (d:Nat) (st:ae) (k:AV→ae→Prop):Prop :=
 match T t,l,c with
 | some i,.v (.int _ nl),.v (.int _ nc)=>match i.kind with
  | .slice e=>match T e with
   | some j=>bif jk (cq j.zero)&&(aH (bt (cq j.zero)).length j.cells&&(bt (cq j.zero)).all fj) then
     ∃n m:Nat,nl=(n:Int)∧nc=(m:Int)∧n≤m∧m≤140737488355328∧m*j.bytes≤140737488355328∧∃R,ic n ((bt (cq j.zero)).map nz)=R∧k (.o d) (gH st d (.own e j.cells R))
    else False
   | none=>False
  | _=>False
 | _,_,_=>False
inductive Tg where
 | f (g:FuncId)
 | y (l:Nat)
instance:Coe FuncId Tg:=⟨.f⟩
instance {n:Nat}:OfNat Tg n:=⟨.f n⟩
abbrev fM (ro:Option Nat):Fence:={ ga with round:=ro }
def Tg.uf (P:Program):Tg→Prop
 | .f g=>pW P g
 | .y _=>True
def Tg.goes (P:Program):Tg→Array Value→World→(Ending→World→Prop)→Prop
 | .f g,vs,w,R=>Calls P g vs w R
 | .y l,vs,w,R=>∃fn tmps assign body,(Instr.yield l vs).run P w=.ok (.round l fn tmps assign body) w∧RoundIn ga 0 P l fn tmps assign body w R
def Tg.goes.mono {P:Program} {g:Tg} {vs:Array Value} {w:World} {R R':Ending→World→Prop} (h:g.goes P vs w R) (hr:∀e w',R e w'→R' e w'):g.goes P vs w R':=by
 cases g with
 | f g=>exact Calls.mono h hr
 | y l =>
  obtain ⟨fn,tmps,assign,body,h1,h2⟩:=h;exact ⟨fn,tmps,assign,body,h1,h2.mono hr⟩
def af (P:Program) (g:Tg) (args:List AV) (st:ae) (k:AV→ae→Prop):Prop :=
 g.uf P∧∀(w:World) (F:Nat→Prop) (β:Nat→Value) (vs:Array Value),Inv w F β st.H→vs.size=args.length →
  (∀i,i<args.length→Rd w F β (args.getD i .χ) (vs.getD i undef)) →
  g.goes P vs w fun e w'=>∃v,e=.returned v∧∃r aq F' av,k r aq∧Rd w' F' av r v∧Ext w F β st w' F' av aq
def Hw (P:Program) (f:AV) (xs:List AV) (st:ae) (k:AV→ae→Prop):Prop :=
 match f with
 | .c (.func g) fs cs=>af P (.f g) (fs++(xs++cs)) st k
 | .c (.yield l) [] []=>af P (.y l) xs st k
 | _=>False
def L3 (T:TT) (t d:Nat) (st:ae) (k:AV→ae→Prop):Prop :=
 match T t with
 | some ti=>match ti.kind with
  | .map kt e=>match T kt,T e with
   | some ik,some ie=>match ik.kind with
    | .int .i64=>k (.m d) (gH st d (.mp (pX ie.kind) []))
    | _=>False
   | _,_=>False
  | _=>False
 | none=>False
def HB (T:TT) (t:Nat) (m i y:AV) (st:ae) (k:AV→ae→Prop):Prop :=
 match T t with
 | some ti=>match ti.kind with
  | .map kt e=>match T kt with
   | some ik=>match ik.kind,m,i with
    | .int .i64,.m id,.v (.int .i64 n)=>match dI id st.H with
     | some (.mp ag rows)=>match zu ag y with
      | some yc=>Θ n∧rows.length<140737488355328∧∃R,ak n yc rows=R∧k (.v undef) ⟨st.f,fJ id (.mp ag R) st.H⟩
      | none=>False
     | _=>False
    | _,_,_=>False
   | none=>False
  | _=>False
 | none=>False
def Hy (T:TT) (t:Nat) (x:AV) (st:ae) (k:AV→ae→Prop):Prop :=
 match T t with
 | some i=>match i.kind with
  | .slice e=>match T e with
   | some j=>match x with
    | .w id Kw d=>match dI id st.H with
     | some (.own E K rows)=>bif (aH K j.cells&&aH Kw K)&&(jk (cq j.zero)&&(aH (bt (cq j.zero)).length j.cells&&(bt (cq j.zero)).all fj)) then
       ∃R,rows.take d++ic (rows.length-d) ((bt (cq j.zero)).map nz)=R∧k (.t []) ⟨st.f,fJ id (.own E K R) st.H⟩
      else False
     | _=>False
    | _=>False
   | none=>False
  | _=>False
 | none=>False
def L5 (T:TT) (t:Nat) (x:AV) (d:Nat) (st:ae) (k:AV→ae→Prop):Prop :=
 match T t,x with
 | some i,.v (.string s)=>match i.kind with
  | .str=>k (.b d 0) (gH st d (.si s 0))
  | _=>False
 | _,_=>False
def L4 (x:AV) (IU:Bool) (st:ae) (k:AV→ae→Prop):Prop :=
 match x,IU with
 | .b id 0,true=>match dI id st.H with
  | some (.si s pos)=>(pos<s.size→k (.t [.v (.bool true),.v (.int .i64 (pos:Int)),.v (.int .i32 ((K_ s pos).1:Int))]) ⟨st.f,fJ id (.si s (pos+(K_ s pos).2)) st.H⟩) ∧
    (¬pos<s.size→k (.t [.v (.bool false)]) st)
  | _=>False
 | _,_=>False
def Cq (P:Program) (T:TT) (o:Oper) (st:ae) (k:AV→ae→Prop):Prop :=
 let ρ:=ev st.f;let d:=o.dst.getD 0
 match o.op with
 | .alloc t=>LX T t d st k
 | .box _ x=>LZ (ρ x) d st k
 | .store t x y=>vP T t (ρ x) (ρ y) st k
 | .makeMap t none=>L3 T t d st k
 | .range t x=>L5 T t (ρ x) d st k
 | .next x s=>L4 (ρ x) s st k
 | .mapUpdate t m i y=>HB T t (ρ m) (ρ i) (ρ y) st k
 | .insert t m i y=>HB T t (ρ m) (ρ i) (ρ y) st k
 | .buildSlice t n parts=>mZ P T o ρ st.H (fun r=>k r st)∨Su T t n (parts.toList.map fun q=>(q.1,ρ q.2)) d st k
 | .slice t x none hi none=>match ρ x with
  | .o _=>L6 T t (ρ x) (hi.map ρ) st k
  | _=>mZ P T o ρ st.H fun r=>k r st
 | .slice t x lo hi (some mx)=>HC T t (ρ x) (lo.map ρ) (hi.map ρ) (some (ρ mx)) d st k
 | .makeSlice t l c=>mZ P T o ρ st.H (fun r=>k r st)∨L2 T t (ρ l) (ρ c) d st k
 | .convert s t x=>match ρ x with
  | .o id=>L1 T s t id st k
  | _=>mZ P T o ρ st.H fun r=>k r st
 | .call c=>match c.callee with
  | .builtin .append=>match c.argTypes.toList,c.args.toList.map ρ with
   | [t,t'],[s,x]=>bif aH t t' then AL T t t' s x d st k else match x with
    | .v (.string _)=>AL T t t' s x d st k
    | _=>Hv T t t' s x d st k
   | _,_=>False
  | .builtin .copy=>match c.argTypes.toList,c.args.toList.map ρ with
   | [t,_],[x,y]=>Hz T t x y st k
   | _,_=>False
  | .builtin .clear=>match c.argTypes.toList,c.args.toList.map ρ with
   | [t],[x]=>Hy T t x st k
   | _,_=>False
  | .value f=>Hw P (ρ f) (c.args.toList.map ρ) st k
  | _=>mZ P T o ρ st.H fun r=>k r st
 | _=>mZ P T o ρ st.H fun r=>k r st
def step (P:Program) (T:TT) (o:Oper) (st:ae) (k:AV→ae→Prop):Prop:=bif eL (o.dst.getD 0) 1000 then Cq P T o st k else False
end
section
open Go.RowKit
variable [M:bK] [G:cL]
section
variable {P:Program} {T:TT} {w:World} {F:Nat→Prop} {β:Nat→Value} {st:ae} {k:AV→ae→Prop}
def EPost (w:World) (F:Nat→Prop) (β:Nat→Value) (st:ae) (k:AV→ae→Prop) (v:Value) (w':World):Prop :=
 ∃r aq F' av,k r aq∧Rd w' F' av r v∧Ext w F β st w' F' av aq
def cX (P:Program) (s:Sem Next) (w:World) (F:Nat→Prop) (β:Nat→Value) (st:ae) (k:AV→ae→Prop):Prop :=
 (∃v w',s.run P w=.ok (.value v) w'∧EPost w F β st k v w')∨(∃w',s.run P w=.ok .skip w'∧EPost w F β st k undef w') ∨
 (∃g vs,s.run P w=.ok (.enter g vs) w∧Calls P g vs w fun e w'=>∃v,e=.returned v∧EPost w F β st k v w') ∨
 (∃l fn tmps assign body,s.run P w=.ok (.round l fn tmps assign body) w∧RoundIn ga 0 P l fn tmps assign body w fun e w'=>∃v,e=.returned v∧EPost w F β st k v w')
def af4 {s:Sem Next} (hI:Inv w F β st.H) (h:ua P s w fun v w'=>∃r,k r st∧Rd w' (fD F w w') β r v):cX P s w F β st k:=by
 rcases h with ⟨v,w',hr,hb,r,hk,hv⟩ | ⟨g,vs,hr,hc⟩
 ·exact .inl ⟨v,w',hr,r,st,_,_,hk,hv,vQ hI hb⟩
 ·refine .inr (.inr (.inl ⟨g,vs,hr,hc.mono ?_⟩));rintro e w' ⟨v,rfl,hb,r,hk,hv⟩;exact ⟨v,rfl,r,st,_,_,hk,hv,vQ hI hb⟩
def cX.value {s:Sem Value} {v:Value} {w':World} (hr:s.run P w=.ok v w') (h:EPost w F β st k v w'):cX P (do pure (.value (←s))) w F β st k :=
 .inl ⟨v,w',by simp [hr],h⟩
def cX.skip {s:Sem Unit} {w':World} (hr:s.run P w=.ok () w') (h:EPost w F β st k undef w'):cX P (do s; pure .skip) w F β st k :=
 .inr (.inl ⟨w',by simp [hr],h⟩)
def RP {d:Nat} {cells:List AV} {us:Array Value} {e:TypeId} (hd:d<1000) (hI:Inv w F β st.H) (hs:us.size=cells.length) (h1:∀i,i<cells.length→(us.getD i undef).oneCell'=true)
  (hr:∀i,i<cells.length→Rd (w.alloc (.cells us e)) F (fun i=>if i=d then .pointer (some ⟨w.heap.size,0,none⟩) else β i) (cells.getD i .χ) (us.getD i undef)) (hk:k (.b d 0) (gH st d (.box cells))) :
  EPost w F β st k (.pointer (some ⟨w.heap.size,0,none⟩)) (w.alloc (.cells us e)):=by
 refine ⟨_,_,F,_,hk,.b (by simp),p6 (v:=.pointer (some ⟨w.heap.size,0,none⟩)) hd hI rfl ⟨rfl,fun _=>(by first | exact bF _ | exact j0 _)⟩ rfl (by simp) (fun b hb _=>heap_alloc_old w _ hb) (fun i c b _ hm hb=>heap_alloc_old w _ (hI.fI ⟨i,c,hm,hb⟩)) (fun b hb=>?_) ?_⟩
 ·simp [bQ] at hb; left; omega
 ·exact ⟨w.heap.size,us,e,by simp,heap_alloc_new w _,hs,h1,hr⟩
def aaA {t d:Nat} (hd:d<1000) (hT:bM P T) (hI:Inv w F β st.H) (h:LX T t d st k):cX P (do pure (.value (←QQ t true (.tuple #[])))) w F β st k:=by
 unfold LX at h;split at h
 ·rename_i i hi;obtain ⟨bW,hk⟩:=cond_prop h;have hz:=(hT _ _ hi).tp w
  have a_:(QQ t true (.tuple #[])).run P w=.ok (.pointer (some ⟨w.heap.size,0,none⟩)) (w.alloc (.cells i.zero.cells t)):=by
   unfold QQ;simp [hz,newVar,newRow]
  refine cX.value a_ ?_;have hr:=fun av:Nat→Value=>oY (nV (w.alloc (.cells i.zero.cells t)) F i.zero av) bW;exact RP hd hI (hr β).1 (fun j hj=>((hr β).2 j hj).1) (fun j hj=>((hr _).2 j hj).2) hk
 ·cases h
def aaE {x:AV} {vx:Value} {d t:Nat} (hd:d<1000) (hI:Inv w F β st.H) (hx:Rd w F β x vx) (h:LZ x d st k):cX P (do pure (.value (←QR t vx))) w F β st k:=by
 unfold LZ at h;obtain ⟨bW,hk⟩:=cond_prop h
 have a_:(QR t vx).run P w=.ok (.pointer (some ⟨w.heap.size,0,none⟩)) (w.alloc (.cells vx.cells t)):=by simp [QR,newVar,newRow]
 obtain ⟨hs,hr⟩:=oY hx bW;refine cX.value a_ (RP hd hI (by simpa using hs) (fun j hj=>(hr j (by simpa using hj)).1) (fun j hj=>?_) hk)
 have hj:j<(bt x).length:=by simpa using hj
 have e:((bt x).map (er 1 d)).getD j .χ=er 1 d ((bt x).getD j .χ):=by simp [aY,hj]
 rw [e];exact sx (fun i hi=>by simp [hi]) 1 ((hr j hj).2.frame (Below.agree (vE w _) hI.cC) fun _ h=>h)
def mY {id:Nat} {c:Chunk}:∀{H:Hp} {i:Nat} {c':Chunk},(i,c')∈fJ id c H→(i=id∧c'=c∧∃Z8,(i,Z8)∈H)∨(i≠id∧(i,c')∈H)
 | [],_,_,h=>by cases h
 | (j,c0)::r,i,c',h=>by
  simp only [fJ] at h;cases hb:aH j id with
  | true =>
   have hj:=cR hb;rw [hb] at h;simp only [cond_true,bj,ig] at h
   rcases h with ⟨rfl,rfl⟩ | h
   ·exact .inl ⟨hj,rfl,c0,by simp⟩
   ·rcases mY (H:=r) h with ⟨h1,h2,c2,h3⟩ | ⟨h1,h2⟩
    ·exact .inl ⟨h1,h2,c2,cr _ h3⟩
    ·exact .inr ⟨h1,cr _ h2⟩
  | false =>
   have hj:j≠id:=fun e=>by rw [e,iX] at hb; cases hb
   rw [hb] at h;simp only [cond_false,bj,ig] at h
   rcases h with ⟨rfl,rfl⟩ | h
   ·exact .inr ⟨hj,by simp⟩
   ·rcases mY (H:=r) h with ⟨h1,h2,c2,h3⟩ | ⟨h1,h2⟩
    ·exact .inl ⟨h1,h2,c2,cr _ h3⟩
    ·exact .inr ⟨h1,cr _ h2⟩
def zS {id:Nat} {c:Chunk}:∀(H:Hp),(fJ id c H).map (·.1)=H.map (·.1)
 | []=>rfl
 | (j,c0)::r=>by
  simp only [fJ];cases hb:aH j id <;> simp [zS r]
def vR {id:Nat} {c c0:Chunk} {w':World} (hI:Inv w F β st.H) (hm:(id,c0)∈st.H) (uF:w'.os=w.os) (NG:jm w w') (sQ:w'.output=w.output) (eJ:w'.heap.size=w.heap.size)
  (A1:∀b,bQ (β id)≠some b→w'.heap[b]?=w.heap[b]?) (hc:c.holds w' F β id):Ext w F β st w' F β ⟨st.f,fJ id c st.H⟩:=by
 have du:∀b,bD β (fJ id c st.H) b→bD β st.H b:=by
  rintro b ⟨i,c',h,hb⟩
  rcases mY h with ⟨rfl,_,c2,h2⟩ | ⟨_,h2⟩
  ·exact ⟨i,c2,h2,hb⟩
  ·exact ⟨i,c',h2,hb⟩
 have ha:fZ F w w':=fun b hb=>A1 b fun kJ=>hI.apart b ⟨id,c0,hm,kJ⟩ hb;refine ⟨uF,NG,sQ,by omega,fun b _ ho=>A1 b fun kJ=>ho ⟨id,c0,hm,kJ⟩,fun _ h=>h,fun _ h=>.inl h,fun b h=>.inr (du b h),fun t u h=>h.frame ha fun _ h=>h,?_,fun _ _=>rfl⟩;refine ⟨fun b hb=>by have:=hI.cC b hb; omega,fun i c' h=>?_,by rw [zS]; exact hI.keys,fun b ho=>hI.apart b (du b ho),fun i c1 i' pY b h h' hb aK=>?_,hI.fh.at ha⟩
 ·rcases mY h with ⟨rfl,rfl,_⟩ | ⟨hi,h2⟩
  ·exact hc
  ·exact pz ha (fun _ h=>h) (fun b hb=>A1 b fun kJ=>hi (hI.eA i c' id c0 b h2 hm hb kJ)) (hI.holds i c' h2)
 ·have hx:∃c,(i,c)∈st.H:=by rcases mY h with ⟨_,_,c2,h2⟩ | ⟨_,h2⟩ <;> exact ⟨_,h2⟩
  have hy:∃c,(i',c)∈st.H:=by rcases mY h' with ⟨_,_,c2,h2⟩ | ⟨_,h2⟩ <;> exact ⟨_,h2⟩
  obtain ⟨c2,h2⟩:=hx;obtain ⟨c3,h3⟩:=hy;exact hI.eA i c2 i' c3 b h2 h3 hb aK
def Xw {n off:Nat} {cells:List AV} {y:AV} {K:List AV→Prop} (h:Cp n cells off y K) :
  jk y=true∧(bt y).length=n∧off+n≤cells.length∧K (cells.take off++(bt y++cells.drop (off+n))):=by
 unfold Cp at h;obtain ⟨hb,hk⟩:=cond_prop h;simp only [bJ] at hb;obtain ⟨C,rfl,hk⟩:=hk;exact ⟨hb.1,cR hb.2.1,by simpa using hb.2.2,hk⟩
def P6 {α:Type} (l m:List α) (off n:Nat) (hm:m.length=n) (hl:off+n≤l.length) (d:α) (j:Nat) :
  (l.take off++(m++l.drop (off+n))).getD j d=if j<off then l.getD j d else if j<off+n then m.getD (j-off) d else l.getD j d:=by
 simp only [aY,gC,dQ,hm,gb,jl];by_cases h1:j<off
 ·simp [h1,show j<min off l.length by omega]
 ·by_cases h2:j<off+n
  ·simp [h1,h2,show min off l.length=off by omega,show j-off<n by omega]
  ·simp [h1,h2,show min off l.length=off by omega,show ¬j-off<n by omega,show off+n+(j-off-n)=j by omega]
def W5 {t b off:Nat} {i:TI} {v:Value} {cur:Array Value} {e:TypeId} (hi:gx P t i) (hh:w.heap[b]?=some (.cells cur e (0,0))) (hv:v.cells.size=i.cells) (ji:off+i.cells≤cur.size)
  (h1:∀j,j<v.cells.size→(v.cells.getD j undef).oneCell'=true) :
  (QW t (.pointer (some ⟨b,off,none⟩)) v).run P w=.ok () (w.setRow b (cur.toList.take off++v.cells.toList++cur.toList.drop (off+v.cells.toList.length)).toArray):=by
 have aZ:=hi.kX w
 have bU:=run_storeCells_at P b off e v.cells.toList 0 cur w hh (by simp; omega) (fun x hx=>by
  obtain ⟨j,hj,rfl⟩:=List.mem_iff_getElem.1 hx
  have hj:j<v.cells.size:=by simpa using hj
  have:=h1 j hj
  simpa [hj] using this)
 simp only [lN] at bU;simp [QW,GC,storeVar,aZ,hv,bU]
def OT {b:Nat} {cs:Array Value} (hI:Inv w F β st.H) (ho:bD β st.H b) {x:AV} {u:Value} (h:Rd w F β x u):Rd (w.setRow b cs) F β x u :=
 h.frame (fun b' aK=>setRow_other w b b' cs fun e=>hI.apart b ho (e▸aK)) fun _ h=>h
def RJ (l m:List Value) (off n:Nat) (hm:m.length=n) (hl:off+n≤l.length) (d:Value) (j:Nat) :
  (l.take off++m++l.drop (off+m.length)).toArray.getD j d=if j<off then l.getD j d else if j<off+n then m.getD (j-off) d else l.getD j d:=by
 have:=P6 l m off n hm hl d j;rw [hm,l9];simpa [lf,aY] using this
def aaU {t:Nat} {x y:AV} {vx vy:Value} (hT:bM P T) (hI:Inv w F β st.H) (hx:Rd w F β x vx) (hy:Rd w F β y vy) (h:vP T t x y st k) :
  cX P (do QW t vx vy; pure .skip) w F β st k:=by
 unfold vP at h;split at h
 ·rename_i i hi;split at h
  ·rename_i id off;split at h
   ·rename_i cells hc;obtain ⟨bW,hlen,hle,hk⟩:=Xw h;have hm:=eX hc;obtain ⟨b,cur,e,ah,hh,hs,h1,hr⟩:=hI.holds _ _ hm;obtain ⟨eV,hb,rfl⟩:=hx.mz;rw [ah] at hb;cases hb;obtain ⟨aP,gX⟩:=oY hy bW
    have uJ:vy.cells.size=i.cells:=by rw [aP,hlen]
    have fX:off+i.cells≤cur.size:=by rw [hs]; exact hle
    have a_:=W5 (off:=off) (hT _ _ hi) hh uJ fX (fun j hj=>(gX j (by omega)).1)
    have EI:vy.cells.toList.length=i.cells:=by simpa using uJ
    refine cX.skip a_ ⟨_,_,F,β,hk,.i (.v (.inr rfl)),?_⟩;have ho:bD β st.H b:=⟨id,_,hm,by rw [ah]; rfl⟩;refine vR hI hm rfl ⟨rfl,fun _=>(by first | exact bF _ | exact j0 _)⟩ rfl (by simp) (fun b' aK=>setRow_other w b b' _ (fun e=>aK (by rw [ah,e]; rfl))) ?_;have key:=fun j d=>RJ cur.toList vy.cells.toList off i.cells EI (by simpa using fX) d j;have zo:=fun j=>P6 cells (bt y) off i.cells hlen hle AV.χ j;refine ⟨b,_,e,ah,setRow_heap w b cur _ e _ hh,?_,fun j hj=>?_,fun j hj=>?_⟩
    ·simp only [lh,dq,dQ,l_,lJ,uJ,hs,hlen];omega
    all_goals
     have dr:j<cells.length:=by
      simp only [dq,dQ,l_,hlen] at hj;omega
    ·rw [key];by_cases q1:j<off
     ·rw [if_pos q1]; simpa [aY] using h1 j dr
     ·rw [if_neg q1];by_cases q2:j<off+i.cells
      ·rw [if_pos q2]; simpa [aY] using (gX (j-off) (by omega)).1
      ·rw [if_neg q2]; simpa [aY] using h1 j dr
    ·rw [key,zo];by_cases q1:j<off
     ·rw [if_pos q1,if_pos q1]; exact OT hI ho (by simpa [aY] using hr j dr)
     ·rw [if_neg q1,if_neg q1];by_cases q2:j<off+i.cells
      ·rw [if_pos q2,if_pos q2]; exact OT hI ho (by simpa [aY] using (gX (j-off) (by omega)).2)
      ·rw [if_neg q2,if_neg q2]; exact OT hI ho (by simpa [aY] using hr j dr)
   ·cases h
  ·rename_i id K m j;split at h
   ·rename_i E K' rows hc;obtain ⟨gU,row,jy,rfl,h⟩:=cond_prop h;obtain ⟨bW,hlen,hle,R,rfl,hk⟩:=Xw h;have hm:=eX hc;have Nf:=EY jy;obtain ⟨g,n,c,ah,rfl⟩:=hx.AM
    rcases hI.holds _ _ hm with ⟨rfl,_⟩ | ⟨g',cap,cur,hv,iO,hg,hn,gk,hs,hK,hr⟩
    ·simp at Nf
    ·rw [hv] at ah;cases ah
     have nL:row.length=K:=by have:=hK m Nf; rwa [vU jy] at this
     obtain ⟨aP,gX⟩:=oY hy bW
     have uJ:vy.cells.size=i.cells:=by rw [aP,hlen]
     have hmK:m*K+K≤rows.length*K:=by
      calc m*K+K=(m+1)*K:=by rw [bO]; omega
       _≤rows.length*K:=cI _ Nf
     have hrc:rows.length*K≤c*K:=cI _ hn
     have fX:m*K+j+i.cells≤cur.size:=by omega
     have a_:=W5 (off:=m*K+j) (hT _ _ hi) hg uJ fX (fun j hj=>(gX j (by omega)).1)
     have EI:vy.cells.toList.length=i.cells:=by simpa using uJ
     have h0:aH c 0=false:=by cases c <;> first | rfl | omega
     have ho:bD β st.H g:=⟨id,_,hm,by rw [hv]; simp [bQ,h0]⟩;refine cX.skip a_ ⟨_,_,F,β,hk,.i (.v (.inr rfl)),?_⟩;refine vR hI hm rfl ⟨rfl,fun _=>(by first | exact bF _ | exact j0 _)⟩ rfl (by simp) (fun b' aK=>setRow_other w g b' _ (fun e=>aK (by rw [hv,e]; simp [bQ,h0]))) (.inr ?_);have key:=fun j' d=>RJ cur.toList vy.cells.toList (m*K+j) i.cells EI (by simpa using fX) d j'
     have Bx:∀q,q<rows.length→(rows.set m (row.take j++(bt y++row.drop (j+i.cells)))).getD q []=if q=m then row.take j++(bt y++row.drop (j+i.cells)) else rows.getD q []:=by
      intro q hq;by_cases mR:q=m
      ·subst mR; simp [aY,hq]
      ·simp [aY,mR,Ne.symm mR]
     refine ⟨g,c,_,by rw [hv]; simp,iO,setRow_heap w g cur _ E _ hg,by simpa using hn,gk,?_,fun q hq=>?_,fun q z hq hz=>?_⟩
     ·simp only [lh,dq,dQ,l_,lJ,uJ];omega
     ·have hq:q<rows.length:=by simpa using hq
      rw [Bx q hq];split
      ·simp only [dq,dQ,l_,hlen,nL]; omega
      ·exact hK q hq
     ·have hq:q<rows.length:=by simpa using hq
      rw [key,Bx q hq];have hold:=hr q z hq hz;by_cases mR:q=m
      ·subst mR;rw [if_pos rfl];have zo:=P6 row (bt y) j i.cells hlen (by omega) AV.χ z;by_cases q1:z<j
       ·rw [if_pos (by omega),zo,if_pos q1];rw [vU jy] at hold;refine ⟨by simpa [aY] using hold.1,?_⟩;have h2:=hold.2.frame (w':=w.setRow g (cur.toList.take (q*K+j)++vy.cells.toList++cur.toList.drop (q*K+j+vy.cells.toList.length)).toArray) (fun b' aK=>setRow_other w g b' _ fun e=>hI.apart g ho (e▸aK)) fun _ h=>h;simpa [aY] using h2
       ·by_cases q2:z<j+i.cells
        ·rw [if_neg (by omega),if_pos (by omega),zo,if_neg q1,if_pos q2];have U5:=gX (z-j) (by omega)
         have M5:fj ((bt y).getD (z-j) .χ)=true:=ej.1 gU _ (by
          rw [fU,bT (show z-j<(bt y).length by omega)]; exact eG _)
         have h2:=(nQ M5 U5.2).frame (w':=w.setRow g (cur.toList.take (q*K+j)++vy.cells.toList++cur.toList.drop (q*K+j+vy.cells.toList.length)).toArray) (fun b' aK=>setRow_other w g b' _ fun e=>hI.apart g ho (e▸aK)) fun _ h=>h;rw [show q*K+z-(q*K+j)=z-j by omega];exact ⟨by simpa [aY] using U5.1,by simpa [aY] using h2⟩
        ·rw [if_neg (by omega),if_neg (by omega),zo,if_neg q1,if_neg q2];rw [vU jy] at hold;have h2:=hold.2.frame (w':=w.setRow g (cur.toList.take (q*K+j)++vy.cells.toList++cur.toList.drop (q*K+j+vy.cells.toList.length)).toArray) (fun b' aK=>setRow_other w g b' _ fun e=>hI.apart g ho (e▸aK)) fun _ h=>h;exact ⟨by simpa [aY] using hold.1,by simpa [aY] using h2⟩
      ·rw [if_neg mR]
       have sQ:q*K+z<m*K+j∨m*K+j+i.cells≤q*K+z:=by
        rcases Nat.lt_or_gt_of_ne mR with h | h
        ·left
         calc q*K+z<q*K+K:=by omega
          _=(q+1)*K:=by rw [bO]; omega
          _≤m*K:=cI _ h
          _≤m*K+j:=by omega
        ·right
         calc m*K+j+i.cells≤m*K+K:=by omega
          _=(m+1)*K:=by rw [bO]; omega
          _≤q*K:=cI _ h
          _≤q*K+z:=by omega
       have h2:=hold.2.frame (w':=w.setRow g (cur.toList.take (m*K+j)++vy.cells.toList++cur.toList.drop (m*K+j+vy.cells.toList.length)).toArray) (fun b' aK=>setRow_other w g b' _ fun e=>hI.apart g ho (e▸aK)) fun _ h=>h
       rcases sQ with h | h
       ·rw [if_pos h]; exact ⟨by simpa [aY] using hold.1,by simpa [aY] using h2⟩
       ·rw [if_neg (by omega),if_neg (by omega)]; exact ⟨by simpa [aY] using hold.1,by simpa [aY] using h2⟩
   ·cases h
  ·cases h
 ·cases h
end
end
section
open Go.RowKit
variable [M:bK] [G:cL]
section
variable {P:Program} {T:TT} {w:World} {F:Nat→Prop} {β:Nat→Value} {st:ae} {k:AV→ae→Prop}
def AH:Chunk→Bool
 | .box cells=>cells.all fj
 | .own ..=>true
 | .mp ..=>true
 | .lp ..=>false
 | .si ..=>true
def pA {F':Nat→Prop} {av:Nat→Value} {i j:Nat} {c:Chunk} (hc:AH c=true) (hF:∀b,F b→F' b) (ah:av j=β i) (h:c.holds w F β i):c.holds w F' av j:=by
 cases c with
 | box cells =>
  obtain ⟨b,cs,e,hb,hh,hs,h1,hr⟩:=h;refine ⟨b,cs,e,ah.trans hb,hh,hs,h1,fun k hk=>?_⟩;have:fj (cells.getD k .χ)=true:=ej.1 hc _ (by rw [fU,bT hk]; exact eG _);exact .i ((nQ this (hr k hk)).frame (fun _ _=>rfl) hF)
 | si s pos =>
  unfold Chunk.holds at *;rw [ah];exact h
 | mp ag rows =>
  unfold Chunk.holds at *;rw [ah];obtain ⟨b,es,ck,h0,hh,bU,hs,hm,hr⟩:=h;refine ⟨b,es,ck,h0,hh,bU,hs,hm,fun i r hi=>?_⟩;obtain ⟨e,h1,h2,h3,h4⟩:=hr i r hi;exact ⟨e,h1,h2,h3,h4.frame (fun _ _=>rfl) hF⟩
 | lp l e R L=>cases hc
 | own E K rows =>
  unfold Chunk.holds at *;rw [ah]
  rcases h with h | ⟨g,cap,cur,hv,hc,hg,hn,hm,hs,hk,hr⟩
  ·exact .inl h
  ·exact .inr ⟨g,cap,cur,hv,hc,hg,hn,hm,hs,hk,fun i j hi hj=>⟨(hr i j hi hj).1,(hr i j hi hj).2.frame (fun _ _=>rfl) hF⟩⟩
def lu {id:Nat} {rows:List (List AV)}:∀{H:Hp} {i:Nat} {c:Chunk},(i,c)∈oA id rows H→i≠id∧∃c',(i,c')∈H∧c=SU id rows c'
 | [],_,_,h=>by cases h
 | (j,c')::r,i,c,h=>by
  simp only [oA] at h;cases hb:aH j id with
  | true =>
   rw [hb] at h;obtain ⟨h1,c2,h2,h3⟩:=lu (H:=r) h;exact ⟨h1,c2,cr _ h2,h3⟩
  | false =>
   rw [hb] at h;simp only [cond_false,bj,ig] at h
   rcases h with ⟨rfl,rfl⟩ | h
   ·exact ⟨fun e=>(by rw [e,iX] at hb; cases hb),c',by simp,rfl⟩
   ·obtain ⟨h1,c2,h2,h3⟩:=lu (H:=r) h;exact ⟨h1,c2,cr _ h2,h3⟩
def DE {id:Nat} {rows:List (List AV)}:∀{H:Hp},(H.map (·.1)).Nodup→((oA id rows H).map (·.1)).Nodup
 | [],_=>by simp [oA]
 | (j,c)::r,h=>by
  simp only [jD,iv] at h;simp only [oA];cases hb:aH j id with
  | true=>exact DE h.2
  | false =>
   simp only [cond_false,jD,iv];refine ⟨fun hm=>?_,DE h.2⟩;obtain ⟨x,hx,lE⟩:=dg.1 hm;obtain ⟨i,c'⟩:=x;obtain ⟨_,c2,h2,_⟩:=lu hx;exact h.1 (dg.2 ⟨(i,c2),h2,lE⟩)
def VR {id E K:Nat} {rows:List (List AV)} {u:Value} {H:Hp} (hI:Inv w F β H) (hm:(id,Chunk.own E K rows)∈H) (hu:Rd w F β (.o id) u):bf w (fun b=>F b∨bD β H b) (.s rows) u:=by
 obtain ⟨a,n,c,ah,rfl⟩:=hu.jW
 rcases hI.holds _ _ hm with ⟨rfl,a',hv⟩ | ⟨g,cap,cur,hv,hc,hg,hn,gk,hs,hK,hr⟩
 ·rw [ah] at hv;cases hv;exact .s0
 ·rw [ah] at hv;cases hv
  have h0:aH c 0=false:=by cases c <;> first | rfl | omega
  have eM:=(Jk (hI.holds _ _ hm) ah).2.2.2;obtain ⟨u,hu⟩:=eM;exact .s (off:=0) (u:=u) (.inr ⟨id,_,hm,by rw [ah]; simp [bQ,h0]⟩) hn gk hK (fun i j hi hj=>by rw [jF]; exact (hu i j hi hj).1) (fun i j hi hj=>(hu i j hi hj).2.1) fun i j hi hj=>(hu i j hi hj).2.2.frame (fun _ _=>rfl) fun _ h=>.inl h
def ow (id:Nat) (H:Hp):Hp:=H.filter fun p=>!Nat.beq p.1 id
def vN {id:Nat} {H:Hp} {x:Nat×Chunk}:x∈ow id H↔x∈H∧x.1≠id:=by
 have hb:(!Nat.beq x.1 id)=true↔x.1≠id:=by
  cases h:aH x.1 id with
  | true=>simp [cR h]
  | false=>simp only [Bool.not_false,true_iff]; exact fun e=>by rw [e,iX] at h; cases h
 unfold ow;rw [List.mem_filter,hb]
def Inv.ow {H:Hp} (h:Inv w F β H) (id:Nat):Inv w F β (ow id H) :=
 ⟨h.cC,fun i c hm=>h.holds i c (vN.1 hm).1,(List.Sublist.map _ (List.filter_sublist)).nodup h.keys,fun b ⟨i,c,hm,hb⟩=>h.apart b ⟨i,c,(vN.1 hm).1,hb⟩,
  fun i c i' c' b h1 h2=>h.eA i c i' c' b (vN.1 h1).1 (vN.1 h2).1,h.fh⟩
def Me {id E K:Nat} {rows:List (List AV)} {H:Hp} (hI:Inv w F β H) (hm:(id,Chunk.own E K rows)∈H) {u:Value} (hu:Rd w F β (.o id) u):bf w (fun b=>F b∨bQ (β id)=some b) (.s rows) u:=by
 have h1:=hI.ow id
 have uo:Inv w F β [(id,.own E K rows)]:=⟨hI.cC,fun i c h=>by
   simp only [dD,ig] at h; obtain ⟨rfl,rfl⟩:=h; exact hI.holds _ _ hm,by simp,
  fun b ⟨i,c,h,hb⟩=>by simp only [dD,ig] at h; obtain ⟨rfl,rfl⟩:=h; exact hI.apart b ⟨_,_,hm,hb⟩,
  fun i c i' c' b h h' _ _=>by simp only [dD,ig] at h h'; rw [h.1,h'.1],hI.fh⟩
 refine (VR uo (dD.2 rfl) hu).frame (fun _ _=>rfl) fun b hb=>hb.elim .inl fun ⟨i,c,h,hb⟩=>.inr ?_;simp only [dD,ig] at h;rw [←h.1]; exact hb
structure Src (w:World) (F:Nat→Prop) (K:Nat) (rows:List (List AV)) (ad:Addr) (news:List Value):Prop where
 len:news.length=rows.length*K
 cell:∀j v,news[j]?=some v→w.cell? (ad.add j)=some v
 one:∀u,u∈news→u.oneCell'=true
 rd:∀i j,i<rows.length→j<K→bf w F ((rows.getD i []).getD j .χ) (news.getD (i*K+j) undef)
def P3 {K K' b off:Nat} {rows:List (List AV)} {u:Nat→Nat→Value} (hlen:oW rows K) (hK:∀i,i<rows.length→(rows.getD i []).length=K')
  (hv:∀i j,i<rows.length→j<K'→w.cell? ⟨b,off+(i*K'+j),none⟩=some (u i j)∧(u i j).oneCell'=true∧bf w F ((rows.getD i []).getD j .χ) (u i j)) :
  ∃news,Src w F K rows ⟨b,off,none⟩ news:=by
 have AY:rows=[]∨K'=K:=by
  cases rows with
  | nil=>exact .inl rfl
  | cons r rs=>exact .inr ((hK 0 (by simp)).symm.trans (hlen r (by simp)))
 refine ⟨(gu (rows.length*K)).map fun q=>u (q/K) (q % K),by simp,fun q v hq=>?_,fun v jR=>?_,fun i j hi hj=>?_⟩
 ·simp only [tW,C9] at hq;obtain ⟨q',wv,rfl⟩:=hq;obtain ⟨Φ,rfl⟩:=fb.1 wv
  have Φ:q<rows.length*K:=by simpa using Φ
  simp only [List.getElem_range]
  rcases AY with rfl | rfl
  ·simp at Φ
  ·have kI:0<K':=by
    rcases oT K' with h | h
    ·rw [h] at Φ; simp at Φ
    ·exact h
   have h1:q/K'<rows.length:=(qI kI).2 Φ;have:=(hv (q/K') (q % K') h1 (rW _ kI)).1;rw [f_]
   have e:q/K'*K'+q % K'=q:=by rw [og]; exact Rf q K'
   rwa [e] at this
 ·obtain ⟨q,hq,rfl⟩:=dg.1 jR
  have Φ:q<rows.length*K:=by simpa using hq
  rcases AY with rfl | rfl
  ·simp at Φ
  ·have kI:0<K':=by
    rcases oT K' with h | h
    ·rw [h] at Φ; simp at Φ
    ·exact h
   exact (hv (q/K') (q % K') ((qI kI).2 Φ) (rW _ kI)).2.1
 ·rcases AY with rfl | rfl
  ·simp at hi
  ·have Φ:i*K'+j<rows.length*K':=by
    calc i*K'+j<i*K'+K':=by omega
     _=(i+1)*K':=by rw [bO]; omega
     _≤rows.length*K':=cI _ hi
   have e1:(i*K'+j)/K'=i:=by rw [og,alp (by omega)]; simp [alo hj]
   have e2:(i*K'+j) % K'=j:=by rw [og,C8]; exact C7 hj
   have:=(hv i j hi hj).2.2;simpa [aY,Φ,e1,e2] using this
def ahG {x:AV} {vx:Value} {no K:Nat} {kk:List (List AV)→Prop} (hI:Inv w F β st.H) (hx:Rd w F β x vx) (h:P2 x no st.H kk) (hk:∀rows,kk rows→oW rows K) :
  ∃rows,kk rows∧((vx=.slice none 0 0∧rows=[])∨∃ad c news,vx=.slice (some ad) rows.length c∧Src w F K rows ad news):=by
 unfold P2 at h;split at h
 ·rename_i rows;refine ⟨rows,h,?_⟩
  rcases hx.oN.tq with ⟨rfl,a,rfl⟩ | ⟨b,off,c,K',v,hb,hc,hm,rfl,hK,hv⟩
  ·cases a with
   | none=>exact .inl ⟨rfl,rfl⟩
   | some ad=>exact .inr ⟨ad,0,[],rfl,by simp,fun j v hj=>by simp at hj,fun u hu=>by simp at hu,fun i j hi=>by simp at hi⟩
  ·obtain ⟨news,hn⟩:=P3 (hk _ h) hK hv;exact .inr ⟨_,_,news,rfl,hn⟩
 ·cases hx.bL;exact ⟨[],h,.inl ⟨rfl,rfl⟩⟩
 ·rename_i id;cases hb:aH id no with
  | true=>rw [hb] at h; cases h
  | false =>
   rw [hb] at h;simp only [cond_false] at h;split at h
   ·rename_i E K' rows hc;refine ⟨rows,h,?_⟩;obtain ⟨a,n,c,ah,rfl⟩:=hx.jW;have hh:=hI.holds _ _ (eX hc)
    rcases s7 hh with ⟨rfl,a',hv⟩ | ⟨g,cap,hv,hm,hn⟩
    ·rw [ah] at hv;cases hv;cases a with
     | none=>exact .inl ⟨rfl,rfl⟩
     | some ad =>
      refine .inr ⟨ad,0,[],rfl,by simp,fun j v hj=>by simp at hj,fun u hu=>by simp at hu,fun i j hi=>by simp at hi⟩
    ·rw [ah] at hv;cases hv;obtain ⟨_,_,_,u,hu⟩:=Jk hh ah;obtain ⟨news,hn⟩:=P3 (b:=g) (off:=0) (u:=u) (hk _ h) (VQ hh) (fun i j hi hj=>by have:=hu i j hi hj; rwa [jF]);exact .inr ⟨_,_,news,rfl,hn⟩
   ·cases h
 ·cases h
def E_ {d E K cap:Nat} {rows:List (List AV)} {us:Array Value} {w1:World} (hd:d<1000) (hI:Inv w F β st.H) (hh:w1.heap=w.heap) (ho:w1.os=w.os) (ht:jm w w1) (hp:w1.output=w.output)
  (hs:us.size=cap*K) (hn:rows.length≤cap) (hm:cap≤maxLen) (hK:∀i,i<rows.length→(rows.getD i []).length=K)
  (hr:∀i j,i<rows.length→j<K→(us.getD (i*K+j) undef).oneCell'=true∧bf w F ((rows.getD i []).getD j .χ) (us.getD (i*K+j) undef))
  (hk:k (.o d) (gH st d (.own E K rows))):EPost w F β st k (.slice (some ⟨w.heap.size,0,none⟩) rows.length cap) (w1.alloc (.cells us E)):=by
 have aR:∀b,b<w.heap.size→(w1.alloc (.cells us E)).heap[b]?=w.heap[b]?:=fun b hb=>by
  rw [_root_.Go.heap_alloc_old w1 _ (by rw [hh]; exact hb),hh]
 have eP:(w1.alloc (.cells us E)).heap[w.heap.size]?=some (.cells us E (0,0)):=by rw [←hh]; exact heap_alloc_new w1 _
 have ha:fZ F w (w1.alloc (.cells us E)):=fun b hb=>aR b (hI.cC b hb);refine ⟨_,_,F,_,hk,.o (by simp),p6 (v:=.slice (some ⟨w.heap.size,0,none⟩) rows.length cap) hd hI ho ht hp (by simp [hh]) (fun b hb _=>aR b hb) (fun i c b _ hm hb=>aR b (hI.fI ⟨i,c,hm,hb⟩)) (fun b hb=>?_) ?_⟩
 ·cases h0:aH cap 0 <;> simp [bQ,h0] at hb
  left; omega
 ·by_cases h0:cap=0
  ·subst h0;have:rows=[]:=qD (by omega);subst this;exact .inl ⟨rfl,_,by simp; rfl⟩
  ·exact .inr ⟨w.heap.size,cap,us,by simp,by omega,eP,hn,hm,hs,hK,fun i j hi hj=>⟨(hr i j hi hj).1,(hr i j hi hj).2.frame ha fun _ h=>h⟩⟩
def vB (A:Array Value) (l:List Value) (h:A.toList=l) (i:Nat):A.getD i undef=l.getD i undef:=by
 subst h; simp [lf,aY]
def KK (z:Array Value) (n:Nat):(dC z n).size=n*z.size:=by simp [dC]
def JM {rows bR:List (List AV)} {K:Nat} {xs news zs:List Value} (hx:xs.length=rows.length*K) (hn:news.length=bR.length*K)
  {Q:AV→Value→Prop} (h1:∀i j,i<rows.length→j<K→Q ((rows.getD i []).getD j .χ) (xs.getD (i*K+j) undef))
  (h2:∀i j,i<bR.length→j<K→Q ((bR.getD i []).getD j .χ) (news.getD (i*K+j) undef)) :
  ∀i j,i<(rows++bR).length→j<K→Q (((rows++bR).getD i []).getD j .χ) ((xs++news++zs).getD (i*K+j) undef):=by
 intro i j hi hj
 have below:∀m n,m<n→m*K+j<n*K:=fun m n h=>by
  calc m*K+j<m*K+K:=by omega
   _=(m+1)*K:=by rw [bO]; omega
   _≤n*K:=cI _ h
 simp only [dq] at hi;by_cases Φ:i<rows.length
 ·have:=below i rows.length Φ
  have e1:(rows++bR).getD i []=rows.getD i []:=by simp [aY,gC,Φ]
  have e2:(xs++news++zs).getD (i*K+j) undef=xs.getD (i*K+j) undef:=by
   simp [aY,gC,hx,this]
  rw [e1,e2]; exact h1 i j Φ hj
 ·have hb:=below (i-rows.length) bR.length (by omega);have gz:rows.length*K≤i*K+j:=fc (cI K (aln Φ)) (Nat.le_add_right _ _)
  have e1:(rows++bR).getD i []=bR.getD (i-rows.length) []:=by simp [aY,gC,Φ]
  have e0:i*K+j-rows.length*K=(i-rows.length)*K+j:=by rw [Nat.sub_mul]; have:=cI K (aln Φ); omega
  have e2:(xs++news++zs).getD (i*K+j) undef=news.getD ((i-rows.length)*K+j) undef:=by
   have h3:¬i*K+j<rows.length*K:=by omega
   simp [aY,gC,hx,hn,h3,e0,hb]
  rw [e1,e2]; exact h2 _ j (by omega) hj
def O1 {rows bR:List (List AV)} {K:Nat} (h1:∀i,i<rows.length→(rows.getD i []).length=K) (h2:oW bR K):∀i,i<(rows++bR).length→((rows++bR).getD i []).length=K:=by
 intro i hi;simp only [dq] at hi;by_cases Φ:i<rows.length
 ·have e1:(rows++bR).getD i []=rows.getD i []:=by simp [aY,gC,Φ]
  rw [e1]; exact h1 i Φ
 ·have sP:i-rows.length<bR.length:=by omega
  have e1:(rows++bR).getD i []=bR[i-rows.length]:=by simp [aY,gC,Φ,sP]
  rw [e1]; exact h2 _ (eG _)
def ago (w:World) (t tx ty e:TypeId) (i:TypeInfo) (ht:P.underlying t=some (.slice e)) (hi:P.info? e=some i) (g lF zR:Nat) (cur:Array Value) (hg:w.heap[g]?=some (.cells cur e (0,0)))
  (x:Value) (n:Nat) (news:List Value) (hs:Go.Src P i.size tx x n news w) (fz:lF+n≤zR) (ji:lF*i.size+news.length≤cur.size) :
  (h_ #[t,tx] ty #[.slice (some ⟨g,0,none⟩) lF zR,x]).run P w =
   .ok (.slice (some ⟨g,0,none⟩) (lF+n) zR) (w.setRow g (cur.toList.take (lF*i.size)++news++cur.toList.drop (lF*i.size+news.length)).toArray):=by
 have bU:=run_storeCells_at P g (lF*i.size) e news 0 cur w hg (by simpa using ji) hs.one;simp only [lN] at bU
 rcases hs.kind with ⟨e',hk⟩ | hk <;> simp [h_,run_underlying ht,run_underlying hk,sizeOf,typeInfo,hi,hs.len,fz,hs.cells,f_,bU]
structure G5 (w:World) (F:Nat→Prop) (K:Nat) (rows:List (List AV)) (news:List Value):Prop where
 len:news.length=rows.length*K
 one:∀u,u∈news→u.oneCell'=true
 rd:∀i j,i<rows.length→j<K→bf w F ((rows.getD i []).getD j .χ) (news.getD (i*K+j) undef)
structure xw (P:Program) (t tx ty e:TypeId) (i:TypeInfo) (z:Value) (vx:Value) (n:Nat) (news:List Value) (w:World):Prop where
 none:n=0→news=[]→∀(base:Option Addr) (len cap:Nat),len≤cap→(h_ #[t,tx] ty #[.slice base len cap,vx]).run P w=.ok (.slice base len cap) w
 grow:∀(base:Option Addr) (len cap:Nat) (olds:List Value),(xh i.size len (.slice base len cap)).run P w.drew=.ok olds.toArray w.drew→cap<len+n→((len+n:Nat):Int)≤9223372036854775807 →
  QK (len+n) cap*i.bytes≤281474976710656→(h_ #[t,tx] ty #[.slice base len cap,vx]).run P w =
   .ok (.slice (some ⟨w.heap.size,0,.none⟩) (len+n) (grownCap w (len+n) cap e)) (w.drew.alloc (.cells ((olds++news).toArray++dC z.cells (grownCap w (len+n) cap e-(len+n))) e))
 room:∀(g len cap:Nat) (cur:Array Value),w.heap[g]?=some (.cells cur e (0,0))→len+n≤cap→len*i.size+news.length≤cur.size →
  (h_ #[t,tx] ty #[.slice (some ⟨g,0,.none⟩) len cap,vx]).run P w =
   .ok (.slice (some ⟨g,0,.none⟩) (len+n) cap) (w.setRow g (cur.toList.take (len*i.size)++news++cur.toList.drop (len*i.size+news.length)).toArray)
def xw.aek {t tx ty e:TypeId} {i:TypeInfo} {z vx:Value} {n:Nat} {news:List Value} (hu:P.underlying t=some (.slice e)) (hi:P.info? e=some i) (hz:i.zero=some z) (h:Go.Src P i.size tx vx n news w):xw P t tx ty e i z vx n news w where
 none h0 h1 base len cap hle:=by subst h0; subst h1; exact run_append_nothing w t tx ty e i hu hi base len cap hle vx h
 grow base len cap olds hold hg Mq ji:=run_append_grow_src (P:=P) w t tx ty e i z hu hi hz base len cap olds hold vx n news h hg Mq ji
 room g len cap cur hg fz ji:=ago (P:=P) w t tx ty e i hu hi g len cap cur hg vx n news h fz ji
def xw.akm {t tx ty e:TypeId} {i:TypeInfo} {z:Value} {kx kn:IntKind} {n:Nat} (hu:P.underlying t=some (.slice e)) (iR:P.underlying tx=some (.int kn)) (hi:P.info? e=some i) (hz:i.zero=some z) (iE:z.cells.size=i.size) (h1:∀v,v∈(dC z.cells n).toList→v.oneCell'=true)
  (hn:n≤140737488355328) (kK:n*i.bytes≤140737488355328):xw P t tx ty e i z (.int kx (n:Int)) n (dC z.cells n).toList w:=by
 have qf:IntKind.i64.wrap (n:Int)=(n:Int):=qB _ (by omega)
 have abz:(n:Int)*(i.bytes:Int)≤140737488355328:=by
  have h5:((n*i.bytes:Nat):Int)=(n:Int)*(i.bytes:Int):=QX _ _;rw [←h5]; omega
 have g1:¬((n:Int)<0):=by omega
 have g2:¬(281474976710656<(n:Int)*(i.bytes:Int)):=by omega
 have EJ:n*i.size=0→dC z.cells n=#[]:=fun h=>by simp [dC,iE,h]
 refine ⟨fun h0 _ base len cap hle=>?_,fun base len cap olds hold hg Mq ji=>?_,fun g len cap cur hg fz ji=>?_⟩
 ·subst h0;have EF:IntKind.i64.wrap 0=0:=rfl;cases base <;> simp [h_,run_underlying hu,run_underlying iR,sizeOf,typeInfo,hi,asInt,asIntOf,EF,hle,storeCells]
 ·have wi:¬(len+n≤cap):=by omega
  have Td:¬(9223372036854775807<((len:Int)+(n:Int))):=by omega
  have Tc:¬(281474976710656<QK (len+n) cap*i.bytes):=by omega
  by_cases h5:n*i.size=0
  ·simp [h_,run_underlying hu,run_underlying iR,sizeOf,typeInfo,zeroValue,hi,hz,asInt,asIntOf,qf,g1,g2,wi,Td,Tc,h5,EJ h5,Rj,hold,newRow,grownCap]
  ·simp [h_,run_underlying hu,run_underlying iR,sizeOf,typeInfo,zeroValue,hi,hz,asInt,asIntOf,qf,g1,g2,wi,Td,Tc,h5,Rj,hold,newRow,grownCap];congr 2;apply Array.ext';simp [l9]
 ·have bU:=run_storeCells_at P g (len*i.size) e (dC z.cells n).toList 0 cur w hg (by simpa using ji) h1;simp only [lN] at bU;by_cases h5:n*i.size=0
  ·rw [EJ h5] at bU ⊢;simp [h_,run_underlying hu,run_underlying iR,sizeOf,typeInfo,hi,asInt,asIntOf,qf,g1,g2,fz,h5,f_,bU]
  ·simp [h_,run_underlying hu,run_underlying iR,sizeOf,typeInfo,zeroValue,hi,hz,asInt,asIntOf,qf,g1,g2,fz,h5,f_,bU]
def RG {t tx e L:Nat} {i j:TI} {ty:TypeId} {rows bR:List (List AV)} {v vx:Value} (hd:L<1000) (hT:bM P T) (hI:Inv w F β st.H) (hi:T t=some i) (he:i.kind=.slice e) (hj:T e=some j)
  (ek:j.bytes≠0) (hz:j.zero.cells.size=j.cells)
  (hv:(rows=[]∧v=.slice none 0 0)∨((L,Chunk.own e j.cells rows)∈st.H∧β L=v))
  (hx:∃news,(∀i z,P.info? e=some i→i.zero=some z→i.size=j.cells→i.bytes=j.bytes→xw P t tx ty e i z vx bR.length news w)∧G5 w F j.cells bR news)
  (hlen:oW bR j.cells) (nD:(rows.length+bR.length)*j.bytes≤140737488355328)
  (hk:k (.o L) (gH st L (.own e j.cells (rows++bR)))) :
  ∃v' w',(h_ #[t,tx] ty #[v,vx]).run P w=.ok v' w'∧EPost w F β st k v' w':=by
 have hu:=(hT _ _ hi).slice he;obtain ⟨inf,pf,hzero,eJ,kK⟩:=(hT _ _ hj).info;have dN:rows.length+bR.length≤140737488355328:=fc (Rg _ (Ri ek)) nD
 have jv:rows.length+bR.length≤maxLen:=by unfold maxLen; omega
 have same:∀a,(rows=[]∧v=.slice none 0 0)∨((L,Chunk.own e j.cells rows)∈st.H∧β L=v)→bR=[]→v=.slice a rows.length rows.length∨True→EPost w F β st k v w:=by
  intro a jR hr _;subst hr;refine ⟨_,_,F,fun q=>if q=L then v else β q,hk,?_,p6 (v:=v) hd hI rfl ⟨rfl,fun _=>(by first | exact bF _ | exact j0 _)⟩ rfl (bF _) (fun _ _ _=>rfl) (fun _ _ _ _ _ _=>rfl) (fun b hb=>?_) ?_⟩
  ·rcases jR with ⟨_,rfl⟩ | ⟨hm,ah⟩
   ·exact .o (by simp)
   ·rcases s7 (hI.holds _ _ hm) with ⟨_,a,ha⟩ | ⟨g,cap,ha,_⟩
    ·rw [ah] at ha; subst ha; exact .o (by simp)
    ·rw [ah] at ha; subst ha; exact .o (by simp)
  ·rcases jR with ⟨_,rfl⟩ | ⟨hm,ah⟩
   ·simp [bQ] at hb
   ·exact .inr ⟨_,hm,by rw [ah]; exact hb⟩
  ·rw [xk]
   rcases jR with ⟨rfl,rfl⟩ | ⟨hm,ah⟩
   ·exact .inl ⟨rfl,none,by simp⟩
   ·have:=hI.holds _ _ hm;unfold Chunk.holds at this ⊢;simpa [ah] using this
 have form:(rows=[]∧∃a,v=.slice a 0 0)∨∃g cap cur,(L,Chunk.own e j.cells rows)∈st.H∧β L=v∧v=.slice (some ⟨g,0,none⟩) rows.length cap∧0<cap∧w.heap[g]?=some (.cells cur e (0,0))∧rows.length≤cap∧cap≤maxLen ∧
   cur.size=cap*j.cells∧(∀i,i<rows.length→(rows.getD i []).length=j.cells) ∧
   ∀q z,q<rows.length→z<j.cells→(cur.getD (q*j.cells+z) undef).oneCell'=true∧bf w F ((rows.getD q []).getD z .χ) (cur.getD (q*j.cells+z) undef):=by
  rcases hv with ⟨hr,rfl⟩ | ⟨hm,ah⟩
  ·exact .inl ⟨hr,none,rfl⟩
  ·rcases hI.holds _ _ hm with ⟨hr,a,ha⟩ | ⟨g,cap,cur,ha,h1,h2,h3,h4,h5,h6,h7⟩
   ·exact .inl ⟨hr,a,by rw [←ah,ha]⟩
   ·exact .inr ⟨g,cap,cur,hm,ah,by rw [←ah,ha],h1,h2,h3,h4,h5,h6,h7⟩
 obtain ⟨news,we,iD⟩:=hx;have Ia:=we inf _ pf hzero eJ kK
 have Ep:news.length=bR.length*inf.size:=by rw [eJ]; exact iD.len
 ·
  rcases form with ⟨rfl,a,rfl⟩ | ⟨g,cap,cur,hm,ah,rfl,iO,hg,hn,gk,fX,hK,fy⟩
  ·by_cases h0:bR=[]
   ·subst h0;refine ⟨_,w,?_,same none hv rfl (.inr K8)⟩;have Bj:news=[]:=qD (by simpa using iD.len);subst Bj;exact Ia.none rfl rfl a 0 0 (bF _)
   ·have rp:0<bR.length:=List.length_pos_iff.2 h0;simp only [List.length_nil,jF] at nD dN jv;have El:=grownCap_ge w bR.length 0 e;have Em:=grownCap_le_maxLen w bR.length 0 e jv
    have post:EPost w F β st k (.slice (some ⟨w.heap.size,0,none⟩) bR.length (grownCap w bR.length 0 e)) (w.drew.alloc (.cells (news.toArray++dC j.zero.cells (grownCap w bR.length 0 e-bR.length)) e)):=by
     refine E_ (d:=L) (K:=j.cells) (rows:=bR) hd hI rfl rfl ⟨rfl,fun _=>j0 _⟩ rfl ?_ El Em (fun q hq=>?_) (fun q z hq hz=>?_) (by simpa using hk)
     ·simp only [tQ,lh,KK,iD.len,hz,←bO]; congr 1; omega
     ·have:=hlen (bR.getD q []) (by rw [fU,bT hq]; exact eG _);exact this
     ·have:=JM (rows:=[]) (xs:=[]) (zs:=(dC j.zero.cells (grownCap w bR.length 0 e-bR.length)).toList) (Q:=fun x u=>u.oneCell'=true∧bf w F x u) (by simp) iD.len (fun _ _ h=>by simp at h) (fun i j' hi dr=>⟨iD.one _ ?_,iD.rd i j' hi dr⟩) q z (by simpa using hq) hz
      ·rw [vB _ ([]++news++(dC j.zero.cells (grownCap w bR.length 0 e-bR.length)).toList) (by simp)];exact this
      ·have Φ:i*j.cells+j'<news.length:=by
        rw [iD.len]
        calc i*j.cells+j'<i*j.cells+j.cells:=by omega
         _=(i+1)*j.cells:=by rw [bO]; omega
         _≤bR.length*j.cells:=cI _ hi
       rw [fU,bT Φ]; exact eG _
    have hold:(xh inf.size 0 (.slice a 0 0)).run P w.drew=.ok ([]:List Value).toArray w.drew:=by cases a <;> simp [xh,loadCells,loadCellsFrom]
    have hr:=Ia.grow a 0 0 [] hold (by omega) (by omega) (by rw [kK]; exact growslice_fits (by omega) (by rw [jF]; exact nD));simp only [jF,List.nil_append] at hr;exact ⟨_,_,hr,post⟩
  ·-- a block of its own
   have hrc:rows.length*j.cells≤cap*j.cells:=cI _ hn
   have h0:aH cap 0=false:=by cases cap <;> first | rfl | omega
   have du:bD β st.H g:=⟨L,_,hm,by rw [ah]; simp [bQ,h0]⟩;let xs:List Value:=cur.toList.take (rows.length*j.cells)
   have nP:xs.length=rows.length*j.cells:=by simp only [xs,dQ,lJ]; omega
   have below:∀(m n z:Nat),m<n→z<j.cells→m*j.cells+z<n*j.cells:=fun m n z h hz=>by
    calc m*j.cells+z<m*j.cells+j.cells:=by omega
     _=(m+1)*j.cells:=by rw [bO]; omega
     _≤n*j.cells:=cI _ h
   have hxg:∀q z,q<rows.length→z<j.cells→xs.getD (q*j.cells+z) undef=cur.getD (q*j.cells+z) undef:=fun q z hq hz=>by
    have h1:=below q rows.length z hq hz
    have h2:q*j.cells+z<cur.size:=by omega
    simp [xs,aY,h1,h2]
   have h2:∀q z,q<bR.length→z<j.cells→(news.getD (q*j.cells+z) undef).oneCell'=true∧bf w F ((bR.getD q []).getD z .χ) (news.getD (q*j.cells+z) undef):=fun q z hq hz=>by
    refine ⟨iD.one _ ?_,iD.rd q z hq hz⟩
    have Φ:q*j.cells+z<news.length:=by rw [iD.len]; exact below q _ z hq hz
    rw [fU,bT Φ]; exact eG _
   have h1:∀q z,q<rows.length→z<j.cells→(xs.getD (q*j.cells+z) undef).oneCell'=true∧bf w F ((rows.getD q []).getD z .χ) (xs.getD (q*j.cells+z) undef):=fun q z hq hz=>by
    rw [hxg q z hq hz]; exact fy q z hq hz
   by_cases fz:rows.length+bR.length≤cap
   ·have ji:rows.length*inf.size+news.length≤cur.size:=by
     rw [Ep,eJ,fX,←bO]; exact cI _ fz
    have hr:=Ia.room g rows.length cap cur hg fz ji;rw [eJ] at hr;refine ⟨_,_,hr,_,_,F,fun q=>if q=L then .slice (some ⟨g,0,none⟩) (rows.length+bR.length) cap else β q,hk,.o (by simp),?_⟩;have gV:∀b cs,b≠g→(w.setRow g cs).heap[b]?=w.heap[b]?:=fun b cs hb=>setRow_other w g b cs hb;refine p6 (v:=.slice (some ⟨g,0,none⟩) (rows.length+bR.length) cap) hd hI rfl ⟨rfl,fun _=>(by first | exact bF _ | exact j0 _)⟩ rfl (by simp) (fun b _ ho=>gV b _ fun e=>ho (e▸du)) (fun i' c' b aO bV hb=>gV b _ fun e=>aO (hI.eA i' c' L _ b bV hm hb (by rw [ah,e]; simp [bQ,h0]))) (fun b hb=>?_) (.inr ?_)
    ·refine .inr ⟨_,hm,?_⟩;rw [ah];simpa [bQ,h0] using hb
    ·have ha:∀cs,fZ F w (w.setRow g cs):=fun cs b hb=>gV b cs fun e=>hI.apart g du (e▸hb);refine ⟨g,cap,(xs++news++cur.toList.drop (rows.length*j.cells+news.length)).toArray,by simp,iO,setRow_heap w g cur _ e _ hg,by simpa using fz,gk,?_,O1 hK hlen,fun q z hq hz=>?_⟩
     ·simp only [lh,dq,l_,lJ];rw [eJ] at ji;omega
     ·have:=JM (zs:=cur.toList.drop (rows.length*j.cells+news.length)) (Q:=fun x u=>u.oneCell'=true∧bf w F x u) nP iD.len h1 h2 q z hq hz;rw [vB _ (xs++news++cur.toList.drop (rows.length*j.cells+news.length)) rfl];exact ⟨this.1,this.2.frame (ha _) fun _ h=>h⟩
   ·have eM:∀q u,xs[q]?=some u→w.cell? ((⟨g,0,none⟩:Addr).add q)=some u:=fun q u hq=>by
     rw [f_,jF,cell_of_row w g q cur e (0,0) hg];simp only [xs,gb] at hq;split at hq
     ·simpa using hq
     ·cases hq
    have hold:=run_firstCells_some (P:=P) w.drew inf.size rows.length ⟨g,0,none⟩ rows.length cap xs (by rw [eJ]; exact nP) (by simpa using eM);have hr:=Ia.grow (some ⟨g,0,none⟩) rows.length cap xs hold (by omega) (by omega) (by rw [kK]; exact growslice_fits (by omega) nD);refine ⟨_,_,hr,?_⟩;have El:=grownCap_ge w (rows.length+bR.length) cap e;have Em:=grownCap_le_maxLen w (rows.length+bR.length) cap e jv;have:=E_ (d:=L) (E:=e) (K:=j.cells) (cap:=grownCap w (rows.length+bR.length) cap e) (rows:=rows++bR) (us:=(xs++news).toArray++dC j.zero.cells (grownCap w (rows.length+bR.length) cap e-(rows.length+bR.length)))
     (w1:=w.drew) (k:=k) hd hI rfl rfl ⟨rfl,fun _=>j0 _⟩ rfl ?_ (by simpa using El) Em (O1 hK hlen) (fun q z hq hz=>?_) hk
    ·simpa using this
    ·simp only [tQ,lh,dq,KK,iD.len,nP,hz,←bO]; congr 1; omega
    ·have:=JM (zs:=(dC j.zero.cells (grownCap w (rows.length+bR.length) cap e-(rows.length+bR.length))).toList) (Q:=fun x u=>u.oneCell'=true∧bf w F x u) nP iD.len h1 h2 q z hq hz;rw [vB _ (xs++news++(dC j.zero.cells (grownCap w (rows.length+bR.length) cap e-(rows.length+bR.length))).toList) (by simp)];exact this
def Lp {t tx e L:Nat} {i j:TI} {ty:TypeId} {rows bR:List (List AV)} {v vx:Value} (hd:L<1000) (hT:bM P T) (hI:Inv w F β st.H) (hi:T t=some i) (he:i.kind=.slice e) (hj:T e=some j)
  (ek:j.bytes≠0) (hz:j.zero.cells.size=j.cells)
  (hv:(rows=[]∧v=.slice none 0 0)∨((L,Chunk.own e j.cells rows)∈st.H∧β L=v))
  (hx:∃news,Go.Src P j.cells tx vx bR.length news w∧G5 w F j.cells bR news)
  (hlen:oW bR j.cells) (nD:(rows.length+bR.length)*j.bytes≤140737488355328)
  (hk:k (.o L) (gH st L (.own e j.cells (rows++bR)))) :
  ∃v' w',(h_ #[t,tx] ty #[v,vx]).run P w=.ok v' w'∧EPost w F β st k v' w':=by
 have hu:=(hT _ _ hi).slice he;obtain ⟨news,we,iD⟩:=hx;exact RG hd hT hI hi he hj ek hz hv ⟨news,fun i z h1 h2 h3 _=>xw.aek hu h1 h2 (by rw [h3]; exact we),iD⟩ hlen nD hk
end
end
section
open Go.RowKit
variable [M:bK] [G:cL]
section
variable {P:Program} {T:TT} {w:World} {F:Nat→Prop} {β:Nat→Value} {st:ae} {k:AV→ae→Prop}
def aaN {t d:Nat} (hd:d<1000) (hT:bM P T) (hI:Inv w F β st.H) (h:L3 T t d st k):cX P (do pure (.value (←QV t none))) w F β st k:=by
 unfold L3 at h;split at h
 ·rename_i ti jz;split at h
  ·rename_i kt e hk;split at h
   ·rename_i ik ie nH uz;split at h
    ·have a_:(QV t none).run P w=.ok (.map (some w.heap.size)) (w.alloc (.map #[] 0)):=by simp [QV,newObj,GO]
     have hb:=vE w (.map #[] 0);have eP:(w.alloc (.map #[] 0)).heap[w.heap.size]?=some (.map #[] 0):=(Go.MapKept.heap_alloc w _).1;refine cX.value a_ ⟨_,_,F,fun q=>if q=d then .map (some w.heap.size) else β q,h,.m (by simp),p6 (v:=.map (some w.heap.size)) hd hI hb.os hb.tape hb.output hb.size (fun b aK _=>hb.block b aK) (fun i c' b _ hm aK=>hb.block b (hI.fI ⟨i,c',hm,aK⟩)) (fun b aK=>.inl ?_) ?_⟩
     ·simp [bQ] at aK; omega
     ·exact ⟨w.heap.size,#[],0,by simp,eP,Go.MapKept.stamped_empty 0,rfl,by simp,fun i r hi=>by simp at hi⟩
    ·cases h
   ·cases h
  ·cases h
 ·cases h
def W_ {w:World} {b b':Nat} (o:Obj) (h:b'≠b):({ w with heap:=w.heap.setIfInBounds b o }:World).heap[b']?=w.heap[b']?:=by
 simp [Array.getElem?_setIfInBounds,Ne.symm h]
def Sv {t:Nat} {m i y:AV} {vm vi vy:Value} (hT:bM P T) (hI:Inv w F β st.H) (hm:Rd w F β m vm) (hi:Rd w F β i vi) (hy:Rd w F β y vy) (h:HB T t m i y st k) :
  cX P (do Gy t vm vi vy; pure .skip) w F β st k:=by
 unfold HB at h;split at h
 ·rename_i ti jz;split at h
  ·rename_i kt e hk;have hu:=(hT _ _ jz).map hk;split at h
   ·rename_i ik nH;split at h
    ·rename_i id n re;have hd:=(hT _ _ nH).int re;cases hi.bL;split at h
     ·rename_i ag rows hc;split at h
      ·rename_i yc hyc;obtain ⟨hn,hlen,R,rfl,cJ⟩:=h;have bH:=eX hc;obtain ⟨b,ah,rfl⟩:=hm.zr;obtain ⟨b',es,ck,iT,hh,bU,hs,gk,wA⟩:=hI.holds _ _ bH;rw [ah] at iT; cases iT;have q6:b<w.heap.size:=kE hh;have hg:=Go.MapKept.run_getObj_map (P:=P) hh;have eN:=Go.MapKept.run_checkKey (P:=P) (w:=w) (k:=.int .i64 n) hd rfl false 9999;obtain ⟨d_,hf⟩:=SL bU hs wA n;have U3:=VH hyc hy
       have hblk:bQ (β id)=some b:=by rw [ah]; rfl
       have fin:∀(nv:Array MapEntry) (Dn:Nat),(Gy t (.map (some b)) (.int .i64 n) vy).run P w=.ok () { w with heap:=w.heap.setIfInBounds b (.map nv Dn) } →
         Go.MapKept.Stamped nv Dn→nv.size=(ak n yc rows).length→nv.size≤140737488355328 →
         (∀(i:Nat) (r:Int×List AV),(ak n yc rows)[i]?=some r→∃e:MapEntry,nv[i]?=some e∧e.key=.int .i64 r.1∧Θ r.1∧bf w F (rM ag r.2) e.val) →
         cX P (do Gy t (.map (some b)) (.int .i64 n) vy; pure .skip) w F β st k:=fun nv Dn a_ h1 h2 h3 h4=>by
        have sE:fZ F w { w with heap:=w.heap.setIfInBounds b (.map nv Dn) }:=fun q hq=>W_ _ fun e=>hI.apart b ⟨id,_,bH,hblk⟩ (e▸hq);refine cX.skip a_ ⟨_,_,F,β,cJ,.i (.v (.inr rfl)),vR hI bH rfl ⟨rfl,fun _=>bF _⟩ rfl (by simp) (fun b' aK=>W_ _ fun e=>aK (by rw [hblk,e])) ?_⟩;refine ⟨b,nv,Dn,ah,(Go.MapKept.heap_set hh).1,h1,h2,h3,fun i r nI=>?_⟩;obtain ⟨e,g1,g2,g3,g4⟩:=h4 i r nI;exact ⟨e,g1,g2,g3,g4.frame sE fun _ h=>h⟩
       rcases hf with ⟨h1,h2,h3⟩ | ⟨j,e0,c',h1,h2,Ua,h3,h4,_,h6⟩
       ·have yC:=Gw (P:=P) (w:=w) hd h1
        have jP:ak n yc rows=rows++[(n,yc)]:=by
         rcases BG n yc rows with ⟨_,h,_⟩ | ⟨j,c,_,h,_⟩
         ·exact h
         ·rw [h2] at h; cases h
        refine fin (es.push { key:=.int .i64 n,val:=vy,born:=ck }) (ck+1) ?_ (Go.MapKept.stamped_push bU h3) (by rw [jP]; simp [hs]) (by simp; omega) (fun i r nI=>?_)
        ·have NF:=Y8 (P:=P) (.map (es.push { key:=.int .i64 n,val:=vy,born:=ck }) (ck+1)) hh;simp [Gy,run_underlying hu,hg,eN,yC,NF]
        ·rw [jP] at nI
         rcases Nat.lt_or_ge i rows.length with Φ | gz
         ·rw [List.getElem?_append_left Φ] at nI;obtain ⟨e,g1,g2⟩:=wA i r nI;exact ⟨e,by rw [ni,if_neg (by omega)]; exact g1,g2⟩
         ·rw [List.getElem?_append_right gz] at nI
          have q9:i-rows.length=0:=by
           have:=(fb.1 nI).1; simpa using this
          rw [q9] at nI;cases nI;exact ⟨_,by rw [ni,if_pos (by omega)],rfl,hn,U3⟩
       ·have yC:=Gw (P:=P) (w:=w) hd h1;have sM:j<es.size:=(Array.getElem?_eq_some_iff.1 h2).1;have iu:=Go.MapKept.run_keyThatStays (P:=P) (w:=w) (d:=.int .i64) (k:=.int .i64 n) rfl;let nv:=es.modify j fun e=>{ e with key:=.int .i64 n,val:=vy };have ly:∀i,nv[i]?=if j=i then (es[i]?).map (fun e=>{ e with key:=.int .i64 n,val:=vy }) else es[i]?:=fun i=>Array.getElem?_modify;refine fin nv ck ?_ (Go.MapKept.stamped_modify bU j _ (fun _ _=>rfl) fun e _ he=>by rw [h2] at he; cases he; exact Ua.symm) (by rw [h6]; simp [nv,hs]) (by simpa [nv] using gk) (fun i r nI=>?_)
        ·have NF:=Y8 (P:=P) (.map nv ck) hh;simp [Gy,run_underlying hu,hg,eN,yC,h2,Ua,iu,NF,nv]
        ·rw [h6,List.getElem?_set] at nI;rw [ly];by_cases uA:j=i
         ·subst uA;rw [if_pos rfl,if_pos (by omega)] at nI;cases nI;rw [if_pos rfl,h2];exact ⟨_,rfl,rfl,hn,U3⟩
         ·rw [if_neg uA] at nI;rw [if_neg uA];exact wA i r nI
      ·cases h
     ·cases h
    ·cases h
   ·cases h
  ·cases h
 ·cases h
end
end
section
open Go.RowKit
variable [M:bK] [G:cL]
section
variable {P:Program} {T:TT} {w:World} {F:Nat→Prop} {β:Nat→Value} {st:ae} {k:AV→ae→Prop}
def Lo {t t' e no:Nat} {i j:TI} {x:AV} {vx:Value} {kk:List (List AV)→Prop} (hT:bM P T) (hI:Inv w F β st.H) (hi:T t=some i) (he:i.kind=.slice e) (_hj:T e=some j) (hx:Rd w F β x vx) (h:Dh T t t' e x no st.H kk) (hk:∀rows,kk rows→oW rows j.cells) :
  ∃rows,kk rows∧∃news,Go.Src P j.cells t' vx rows.length news w∧G5 w F j.cells rows news:=by
 unfold Dh at h;cases hb:aH t t' with
 | true =>
  rw [hb] at h;obtain rfl:=cR hb;have hu:=(hT _ _ hi).slice he;obtain ⟨rows,re,gl⟩:=ahG hI hx h hk;refine ⟨rows,re,?_⟩
  rcases gl with ⟨rfl,rfl⟩ | ⟨ad,c,news,rfl,hs⟩
  ·exact ⟨[],Go.Src.ofNil w hu 0,⟨by simp,fun u hu=>by simp at hu,fun i j hi=>by simp at hi⟩⟩
  ·exact ⟨news,Go.Src.ofSlice w hu ad rows.length c news hs.len hs.cell hs.one,⟨hs.len,hs.one,hs.rd⟩⟩
 | false =>
  rw [hb] at h;simp only [cond_false] at h;split at h
  ·rename_i i' je s bm Bb;split at h
   ·rename_i acQ UR;obtain ⟨aw,h⟩:=cond_prop h
    have hj:j=je:=by rw [_hj] at Bb; exact Option.some.inj Bb
    have aw:j.cells=1:=by rw [hj]; exact cR aw
    have hu:=(hT _ _ bm).str acQ;cases hx.bL;refine ⟨_,h,byteCells s,?_,?_⟩
    ·rw [aw];have:=Go.Src.ofString w hu s
     have e:(s.data.toList.map lq).length=s.size:=by rw [ay,lJ]; rfl
     rw [e]; exact this
    ·rw [aw];refine ⟨by simp [byteCells],fun u hu=>by obtain ⟨_,_,rfl⟩:=dg.1 hu; rfl,fun a b ha hb=>?_⟩
     have ek:b=0:=by omega
     subst ek
     have sD:a<s.data.toList.length:=by simpa using ha
     have e1:((s.data.toList.map lq).getD a []).getD 0 .χ=.v (.int .u8 ((s.data.toList[a]).toNat:Int)):=by
      have e0:(s.data.toList.map lq).getD a []=lq (s.data.toList[a]):=by rw [fU,tW,bT sD]; rfl
      rw [e0]; rfl
     have e2:(byteCells s).getD (a*1+0) undef=.int .u8 ((s.data.toList[a]).toNat:Int):=by
      rw [Nat.mul_one,lN,fU];unfold byteCells;rw [tW,bT sD]; rfl
     rw [e1,e2];exact .v (.inl rfl)
   ·cases h
  ·cases h
def St {t t' d:Nat} {s x:AV} {vs vx:Value} (hd:d<1000) (hT:bM P T) (hI:Inv w F β st.H) (hs:Rd w F β s vs) (hx:Rd w F β x vx) (h:AL T t t' s x d st k) (ty:TypeId) :
  cX P (do pure (.value (←h_ #[t,t'] ty #[vs,vx]))) w F β st k:=by
 unfold AL at h;split at h
 ·rename_i i hi;split at h
  ·rename_i e he;split at h
   ·rename_i j hj;cases hb:(aH j.bytes 0||(aH j.cells 0||!(aH j.zero.cells.size j.cells))) with
    | true=>rw [hb] at h; cases h
    | false =>
     rw [hb] at h;simp only [cond_false] at h;simp only [QI,QH] at hb;obtain ⟨ek,_,hz⟩:=hb;have hz:j.zero.cells.size=j.cells:=cR hz
     have ek:j.bytes≠0:=fun e=>by rw [e] at ek; cases ek
     split at h
     ·cases hs.bL;obtain ⟨bR,⟨hlen,kK,R,rfl,hk⟩,gl⟩:=Lo hT hI hi he hj hx h fun rows h=>h.1;obtain ⟨v',w',hr,hp⟩:=Lp (P:=P) (L:=d) (ty:=ty) (rows:=[]) hd hT hI hi he hj ek hz (.inl ⟨rfl,rfl⟩) gl hlen (by simpa using kK) (by simpa using hk);exact cX.value hr hp
     ·rename_i id;split at h
      ·rename_i E K rows hc;obtain ⟨H_,h'⟩:=cond_prop h;clear h;simp only [bJ] at H_
       have hid:id<1000:=by simpa using H_.2
       obtain rfl:=cR H_.1.1;obtain rfl:=cR H_.1.2;obtain ⟨bR,⟨hlen,kK,R,rfl,hk⟩,gl⟩:=Lo hT hI hi he hj hx h' fun rows h=>h.1;obtain ⟨a,n,c,ah,rfl⟩:=hs.jW;obtain ⟨v',w',hr,hp⟩:=Lp (P:=P) (L:=id) (ty:=ty) hid hT hI hi he hj ek hz (.inr ⟨eX hc,ah⟩) gl hlen kK hk;exact cX.value hr hp
      ·cases h
     ·cases h
   ·cases h
  ·cases h
 ·cases h
def HE {d e K:Nat} {a:Option Addr} (hd:d<1000) (hI:Inv w F β st.H) (hk:k (.o d) (gH st d (.own e K []))):EPost w F β st k (.slice a 0 0) w:=by
 refine ⟨_,_,F,fun q=>if q=d then .slice a 0 0 else β q,hk,.o (by simp),p6 (v:=.slice a 0 0) hd hI rfl ⟨rfl,fun _=>(by first | exact bF _ | exact j0 _)⟩ rfl (bF _) (fun _ _ _=>rfl) (fun _ _ _ _ _ _=>rfl) (fun b hb=>?_) (.inl ⟨rfl,a,by simp⟩)⟩;cases a <;> simp [bQ] at hb
def aaR {t d:Nat} {x:AV} {vx:Value} {lo hi mx:Option AV} {vlo vhi vmx:Option Value} (hd:d<1000) (hT:bM P T) (hI:Inv w F β st.H) (hx:Rd w F β x vx) (kR:xx lo vlo w F β) (kN:xx hi vhi w F β) (gk:xx mx vmx w F β)
  (h:HC T t x lo hi mx d st k):cX P (do pure (.value (←lL t vx vlo vhi vmx))) w F β st k:=by
 unfold HC at h;split at h
 ·rename_i i bm;split at h
  ·rename_i e k1 k2 he;have hu:=(hT _ _ bm).slice he;cases vlo with
   | some v=>exact kR.elim
   | none =>
    cases vhi with
    | none=>exact kN.elim
    | some v1 =>
     cases vmx with
     | none=>exact gk.elim
     | some v2 =>
      cases (show Rd w F β _ v1 from kN).bL;cases (show Rd w F β _ v2 from gk).bL;split at h
      ·rename_i j hj;have aZ:=(hT _ _ hj).kX w
       have a_:∀a n c,(lL t (.slice a n c) none (some (.int k1 0)) (some (.int k2 0))).run P w=.ok (.slice a 0 0) w:=fun a n c=>by
        simp [lL,Instr.slice,Instr.sliceBounds,Instr.sliceBound,asIntOf,run_underlying hu,aZ]
       split at h
       ·rcases hx.oN.tq with ⟨_,a,rfl⟩ | ⟨b,off,c,K',v,_,_,_,rfl,_⟩
        iterate 2 exact cX.value (a_ _ _ _) (HE hd hI h)
       ·obtain ⟨a,n,c,_,rfl⟩:=hx.jW;exact cX.value (a_ _ _ _) (HE hd hI h)
       ·cases hx.bL;exact cX.value (a_ _ _ _) (HE hd hI h)
       ·cases h
      ·cases h
  ·cases h
 ·cases h
def aaF {t n d:Nat} {parts:List (Nat×AV)} {vs:Array (Nat×Value)} (hd:d<1000) (hT:bM P T) (hI:Inv w F β st.H) (hl:parts.length=vs.size)
  (hv:∀i,i<parts.length→(parts.getD i (0,.χ)).1=(vs.toList.getD i (0,undef)).1∧Rd w F β (parts.getD i (0,.χ)).2 (vs.toList.getD i (0,undef)).2)
  (h:Su T t n parts d st k):cX P (do pure (.value (←Instr.buildSlice t n vs))) w F β st k:=by
 obtain ⟨rows,e,size,us,hk,_,hs,nL,lC,fB,aZ,a_,hlen⟩:=O3 hT hl hv h;obtain ⟨hi,hk⟩:=cond_prop hk;have gU:=U8 hi fB;refine cX.value a_ ?_
 have hg:∀i,i<rows.length→(rows.map (fun r=>r.map nz)).getD i []=(rows.getD i []).map nz:=fun i hi=>by simp [aY,hi]
 have aI:∀i j,i<rows.length→j<size→((rows.map (fun r=>r.map nz)).getD i []).getD j .χ=nz ((rows.getD i []).getD j .χ):=fun i j hi hj=>by
  rw [hg i hi]
  have dr:j<(rows.getD i []).length:=by rw [lC i hi]; exact hj
  simp only [fU,tW] at dr ⊢;rw [bT dr]; rfl
 have:=E_ (d:=d) (E:=e) (K:=size) (cap:=n) (rows:=rows.map fun r=>r.map nz) (us:=us) (w1:=w) (k:=k) hd hI rfl rfl ⟨rfl,fun _=>(by first | exact bF _ | exact j0 _)⟩ rfl aZ (by rw [ay]; omega) (by unfold maxLen; omega)
  (fun i hi=>by rw [ay] at hi; rw [hg i hi,ay]; exact lC i hi) (fun i j hi hj=>?_) hk
 ·rwa [ay,nL] at this
 ·rw [ay] at hi;rw [aI i j hi hj]
  have Φ:i*size+j<rows.flatten.length:=by
   rw [HJ rows lC]
   calc i*size+j<i*size+size:=by omega
    _=(i+1)*size:=by rw [bO]; omega
    _≤rows.length*size:=cI _ hi
  have:=gU _ Φ;rw [Mb rows i j lC hi hj] at this;exact ⟨this.1,BM this.2⟩
def aaO {t d:Nat} {l c:AV} {vl vc:Value} (hd:d<1000) (hT:bM P T) (hI:Inv w F β st.H) (hl:Rd w F β l vl) (hc:Rd w F β c vc) (h:L2 T t l c d st k) :
  cX P (do pure (.value (←vh t vl vc))) w F β st k:=by
 unfold L2 at h;split at h
 ·rename_i i kl nl kc nc hi;cases hl.bL; cases hc.bL;split at h
  ·rename_i e he;have hu:=(hT _ _ hi).slice he;split at h
   ·rename_i j hj;obtain ⟨hb,n,m,rfl,rfl,dN,hm,kK,R,rfl,hk⟩:=cond_prop h;simp only [bJ] at hb;obtain ⟨bW,hlen,gU⟩:=hb;have hlen:(bt (cq j.zero)).length=j.cells:=cR hlen;have hz:=oY (nV w F j.zero β) bW
    have iE:j.zero.cells.size=j.cells:=by rw [hz.1,hlen]
    obtain ⟨inf,pf,hzero,eJ,nD⟩:=(hT _ _ hj).info;have qf:IntKind.i64.wrap (n:Int)=(n:Int):=qB _ (by omega);have EG:IntKind.i64.wrap (m:Int)=(m:Int):=qB _ (by omega)
    have hbm:(inf.bytes:Int)*(m:Int)≤140737488355328:=by
     have h5:((m*j.bytes:Nat):Int)=(j.bytes:Int)*(m:Int):=by rw [QX,Int.mul_comm]
     rw [nD,←h5]; omega
    have a_:(vh t (.int kl (n:Int)) (.int kc (m:Int))).run P w=.ok (.slice (some ⟨w.heap.size,0,none⟩) n m) (w.alloc (.cells ((nj (m*j.cells)).map (j.zero.cells[· % j.zero.cells.size]!)) e)):=by
     have h1:¬((m:Int)<0):=by omega
     have h2:¬(281474976710656<(inf.bytes:Int)*(m:Int)):=by omega
     have h3:¬((n:Int)<0):=by omega
     have h4:¬((m:Int)<(n:Int)):=by omega
     by_cases h0:m*j.cells=0
     ·have c_:nj (m*j.cells)=#[]:=by rw [h0]; exact tM (by simp)
      simp [vh,run_underlying hu,asInt,asIntOf,typeInfo,pf,qf,EG,h1,h2,h3,h4,sizeOf,eJ,h0,newRow];rw [h0] at c_;simp [c_]
     ·simp [vh,run_underlying hu,asInt,asIntOf,typeInfo,pf,qf,EG,h1,h2,h3,h4,sizeOf,eJ,h0,newRow,zeroValue,hzero]
    refine cX.value a_ ?_;have:=E_ (d:=d) (E:=e) (K:=j.cells) (cap:=m) (rows:=ic n ((bt (cq j.zero)).map nz)) (us:=(nj (m*j.cells)).map (j.zero.cells[· % j.zero.cells.size]!)) (w1:=w) (k:=k)
     hd hI rfl rfl ⟨rfl,fun _=>(by first | exact bF _ | exact j0 _)⟩ rfl (by simp) (by simpa using dN) (by unfold maxLen; omega) (fun q hq=>?_) (fun q z hq iS=>?_) hk
    ·simpa using this
    ·simp at hq; simp [aY,hq,hlen]
    ·simp at hq
     have Φ:q*j.cells+z<m*j.cells:=by
      calc q*j.cells+z<q*j.cells+j.cells:=by omega
       _=(q+1)*j.cells:=by rw [bO]; omega
       _≤m*j.cells:=cI _ (by omega)
     rw [Vy Φ,iE]
     have e1:(q*j.cells+z) % j.cells=z:=by rw [og,C8]; exact C7 iS
     rw [e1];have h2:=hz.2 z (by omega)
     have e2:j.zero.cells[z]! = j.zero.cells.getD z undef:=by
      have:z<j.zero.cells.size:=by omega
      simp [this]
     have e3:((ic n ((bt (cq j.zero)).map nz)).getD q []).getD z .χ=nz ((bt (cq j.zero)).getD z .χ):=by
      have zh:z<(bt (cq j.zero)).length:=by omega
      simp [aY,hq,zh]
     rw [e2,e3];refine ⟨h2.1,BM (nQ (ej.1 gU _ ?_) h2.2)⟩;rw [fU,bT (show z<(bt (cq j.zero)).length by omega)]; exact eG _
   ·cases h
  ·cases h
 ·cases h
def akl {z:Value} {n k:Nat} {w:World} {F:Nat→Prop} {β:Nat→Value} (hz:z.cells.size=k) (bW:jk (cq z)=true) (hlen:(bt (cq z)).length=k) (gU:(bt (cq z)).all fj=true) :
  G5 w F k (ic n ((bt (cq z)).map nz)) (dC z.cells n).toList:=by
 have hc:=oY (nV w F z β) bW;refine ⟨by simp [dC,hz],fun u hu=>?_,fun i j hi hj=>?_⟩
 ·simp only [dC,YW,dg] at hu;obtain ⟨q,hq,rfl⟩:=hu
  have rp:0<z.cells.size:=by
   have:q∈nj (n*z.cells.size):=by simpa using hq
   rcases oT z.cells.size with h | h
   ·rw [h] at this; simp at this
   ·exact h
  have Φ:=rW q rp;have h2:=(hc.2 (q % z.cells.size) (by omega)).1;simpa [Φ] using h2
 ·have hi:i<n:=by simpa using hi
  have Φ:i*k+j<n*k:=by
   calc i*k+j<i*k+k:=by omega
    _=(i+1)*k:=by rw [bO]; omega
    _≤n*k:=cI _ (by omega)
  have e0:(dC z.cells n).toList.getD (i*k+j) undef=z.cells[(i*k+j) % z.cells.size]! := by
   simp [dC,hz,aY,Φ]
  have e1:(i*k+j) % k=j:=by rw [og,C8]; exact C7 hj
  rw [e0,hz,e1];have h2:=(hc.2 j (by omega)).2
  have e2:((ic n ((bt (cq z)).map nz)).getD i []).getD j .χ=nz ((bt (cq z)).getD j .χ):=by
   simp [aY,hi,hlen,hj]
  rw [e2]
  have e3:z.cells[j]! = z.cells.getD j undef:=by
   have:j<z.cells.size:=by omega
   simp [this]
  rw [e3];refine BM (nQ ?_ h2);have:=ej.1 gU ((bt (cq z)).getD j .χ) (by simp [aY,hlen,hj]);exact this
def aaC {t t' id:Nat} {x:AV} {vs vx:Value} (hT:bM P T) (hI:Inv w F β st.H) (hs:Rd w F β (.o id) vs) (hx:Rd w F β x vx) (h:LY T t t' id x st k) (ty:TypeId) :
  cX P (do pure (.value (←h_ #[t,t'] ty #[vs,vx]))) w F β st k:=by
 unfold LY at h;split at h
 ·rename_i i i' kx nx hi bm;cases hx.bL;split at h
  ·rename_i e kn he fp;have hu:=(hT _ _ hi).slice he;have iR:=(hT _ _ bm).int fp;split at h
   ·rename_i j E K rows hj hc;cases hb:(aH j.bytes 0||(aH j.cells 0||!(jk (cq j.zero)&&(aH (bt (cq j.zero)).length j.cells&&(bt (cq j.zero)).all fj)))) with
    | true=>rw [hb] at h; cases h
    | false =>
     rw [hb] at h;simp only [QI,QH,bJ] at hb;obtain ⟨ek,oB,bW,hlen,gU⟩:=hb;have hlen:(bt (cq j.zero)).length=j.cells:=cR hlen
     have ek:j.bytes≠0:=fun e=>by rw [e] at ek; cases ek
     obtain ⟨hg,n,rfl,kK,R,rfl,hk⟩:=cond_prop h;simp only [bJ] at hg;obtain ⟨⟨hE,hK⟩,Φ⟩:=hg;obtain rfl:=cR hE;obtain rfl:=cR hK
     have hid:id<1000:=by simpa [gF] using Φ
     have hz:=oY (nV w F j.zero β) bW
     have iE:j.zero.cells.size=j.cells:=by rw [hz.1,hlen]
     have UK:=akl (n:=n) (w:=w) (F:=F) (β:=β) iE bW hlen gU;obtain ⟨a,m,c,ah,rfl⟩:=hs.jW;have pk:n*j.bytes≤140737488355328:=fc (cI _ (Nat.le_add_left _ _)) kK;have hn:n≤140737488355328:=fc (Rg _ (Ri ek)) pk;obtain ⟨v',w',hr,hp⟩:=RG (P:=P) (L:=id) (tx:=t') (vx:=.int kx (n:Int)) (ty:=ty) (rows:=rows) (bR:=ic n ((bt (cq j.zero)).map nz)) hid hT hI hi he hj ek iE (.inr ⟨eX hc,ah⟩)
      ⟨_,fun inf z h1 h2 h3 h4=>by
       obtain ⟨akR,pf,hzero,eJ,nD⟩:=(hT _ _ hj).info;rw [pf] at h1; cases h1;rw [hzero] at h2; cases h2;have:=xw.akm (P:=P) (w:=w) (t:=t) (tx:=t') (ty:=ty) (kx:=kx) (n:=n) hu iR pf hzero (by rw [iE,eJ]) UK.one hn (by rw [nD]; exact pk)
       simpa using this,UK⟩ (fun r hr=>by
       rw [(List.mem_replicate.1 hr).2,ay,hlen]) (by simpa using kK) hk
     exact cX.value hr hp
   ·cases h
  ·cases h
 ·cases h
def aaM {t t':Nat} {x y:AV} {vx vy:Value} (hT:bM P T) (hI:Inv w F β st.H) (hx:Rd w F β x vx) (hy:Rd w F β y vy) (h:Hz T t x y st k) (ty:TypeId) :
  cX P (do pure (.value (←qz #[t,t'] ty #[vx,vy]))) w F β st k:=by
 unfold Hz at h;split at h
 ·rename_i i hi;split at h
  ·rename_i e he;have hu:=(hT _ _ hi).slice he;split at h
   ·rename_i j hj;split at h
    ·rename_i id Kw d news;split at h
     ·rename_i E K rows hc;obtain ⟨hb,Er,R,rfl,hk⟩:=cond_prop h;simp only [bJ] at hb;have hK:K=j.cells:=cR hb.1;have D_:Kw=K:=cR hb.2;subst D_;have hm:=eX hc;have aZ:=(hT _ _ hj).kX w;obtain ⟨a,a',n,c,ah,hd,ha,rfl⟩:=hx.xc
      have hn:n=rows.length:=by
       rcases s7 (hI.holds _ _ hm) with ⟨rfl,a2,hv⟩ | ⟨g,cap,hv,_,iO⟩
       iterate 2 (rw [ah] at hv; cases hv; rfl)
      subst hn;obtain ⟨m,Bh⟩:∃m,m=Nat.min news.length (rows.length-d):=⟨_,rfl⟩;rw [←Bh] at hk
      have iP:m≤news.length:=by rw [Bh]; exact Nat.min_le_left _ _
      have yQ:m≤rows.length-d:=by rw [Bh]; exact Nat.min_le_right _ _
      have hRe:rows.take d++news.take (rows.length-d)++rows.drop (d+news.length)=rows.take d++news.take m++rows.drop (d+m):=by
       rcases Nat.le_total news.length (rows.length-d) with h1 | h1
       ·have:m=news.length:=by rw [Bh]; exact Nat.min_eq_left h1
        rw [this,Re h1,Re (bF _)]
       ·have:m=rows.length-d:=by rw [Bh]; exact Nat.min_eq_right h1
        rw [this,qC (by omega),qC (by omega)]
      rw [hRe] at hk;obtain ⟨b0,ak3,c0,hvy,us,fB,NK,UW⟩:∃(aa:Option Addr) (ln cp:Nat),vy=.slice aa ln cp∧∃us:List Value,(us.length=m*j.cells∧ln=news.length)∧((xh j.cells m vy).run P w=.ok us.toArray w) ∧
        (∀q z,q<m→z<j.cells→(us.getD (q*j.cells+z) undef).oneCell'=true∧bf w F ((news.getD q []).getD z .χ) (us.getD (q*j.cells+z) undef)):=by
       rcases hy.oN.tq with ⟨rfl,a,rfl⟩ | ⟨b,off,cc,K',v,aK,fO,jv,rfl,yp,hv⟩
       ·have oD:m=0:=by simpa using iP
        subst oD;exact ⟨a,0,0,rfl,[],⟨by simp,rfl⟩,by cases a <;> simp [xh,loadCells,loadCellsFrom],fun q z hq=>by omega⟩
       ·have AY:∀q,q<news.length→K'=j.cells:=fun q hq=>by
         rw [←yp q hq];exact Er _ (by rw [fU,bT hq]; exact eG _)
        have Φ:∀q,q<m*j.cells→q/j.cells<m∧q % j.cells<j.cells∧q/j.cells*j.cells+q % j.cells=q:=fun q hq=>by
         have yH:0<j.cells:=(oT j.cells).elim (fun h=>by rw [h] at hq; simp at hq) fun h=>h;exact ⟨(qI yH).2 hq,rW _ yH,by rw [og]; exact Rf q j.cells⟩
        refine ⟨_,_,_,rfl,(gu (m*j.cells)).map fun q=>v (q/j.cells) (q % j.cells),⟨by simp,rfl⟩,?_,fun q z hq hz=>?_⟩
        ·refine run_firstCells_some (P:=P) w j.cells m ⟨b,off,none⟩ news.length cc _ (by simp) fun q u hq=>?_;simp only [tW,C9] at hq;obtain ⟨q',wv,rfl⟩:=hq
         have mR:q<m*j.cells∧q'=q:=by
          obtain ⟨h1,h2⟩:=fb.1 wv;exact ⟨by simpa using h1,by simpa using h2.symm⟩
         obtain ⟨mR,rfl⟩:=mR;obtain ⟨h1,h2,h3⟩:=Φ _ mR;have h4:=AY _ (show q'/j.cells<news.length by omega);have:=(hv (q'/j.cells) (q' % j.cells) (by omega) (by rw [h4]; exact h2)).1;rw [h4,h3] at this;rw [f_]; exact this
        ·have oF:q*j.cells+z<m*j.cells:=by
          calc q*j.cells+z<q*j.cells+j.cells:=by omega
           _=(q+1)*j.cells:=by rw [bO]; omega
           _≤m*j.cells:=cI _ hq
         have yH:0<j.cells:=by omega
         have e1:(q*j.cells+z)/j.cells=q:=by rw [og,alp yH,alo hz]; rfl
         have e2:(q*j.cells+z) % j.cells=z:=by rw [og,C8]; exact C7 hz
         have e3:((gu (m*j.cells)).map fun q=>v (q/j.cells) (q % j.cells)).getD (q*j.cells+z) undef=v q z:=by
          simp [aY,oF,e1,e2]
         rw [e3];exact (hv q z (by omega) (by rw [AY q (by omega)]; exact hz)).2
      obtain ⟨fa,Ep⟩:=fB
      have kR:(Builtin.lenOf vy).run P w=.ok news.length w:=by rw [hvy,←Ep]; rfl
      have dN:Nat.min news.length (rows.length-d)=m:=Bh.symm;by_cases h0:m=0
      ·have a_:(qz #[t,t'] ty #[.slice a' (rows.length-d) (c-d),vy]).run P w=.ok (.int .i64 (m:Int)) w:=by
        have NJ:us=[]:=qD (by rw [fa,h0]; simp);rw [NJ] at NK
        have hw:IntKind.i64.wrap (m:Int)=(m:Int):=by rw [h0]; rfl
        cases a' <;> simp [qz,run_underlying hu,kR,dN,aZ,NK,storeCells,goInt]
       refine cX.value a_ ⟨_,_,F,β,hk,.i (.v (.inl rfl)),?_⟩
       have e:rows.take d++news.take m++rows.drop (d+m)=rows:=by rw [h0]; simp
       rw [e];exact vR hI hm rfl ⟨rfl,fun _=>bF _⟩ rfl rfl (fun _ _=>rfl) (hI.holds _ _ hm)
      ·rcases hI.holds _ _ hm with ⟨rfl,_⟩ | ⟨g,cap,cur,hv,iO,hg,hn,gk,hs,AZ,hr⟩
       ·simp at yQ; omega
       ·rw [ah] at hv;cases hv
        have sD:a'=some ⟨g,d*Kw,none⟩:=by rw [ha (by omega)]; simp [f_]
        subst sD
        have qW:aH c 0=false:=by cases c <;> first | rfl | omega
        have ho:bD β st.H g:=⟨id,_,hm,by rw [ah]; simp [bQ,qW]⟩;have hcK:rows.length*Kw≤c*Kw:=cI _ hn
        have TP:d*Kw+m*Kw≤rows.length*Kw:=by rw [←bO]; exact cI _ (by omega)
        have fa:us.length=m*Kw:=by rw [fa,hK]
        have eZ:∀x,x∈us→x.oneCell'=true:=fun x hx=>by
         obtain ⟨q,hq,rfl⟩:=List.getElem_of_mem hx;have yH:0<Kw:=(oT Kw).elim (fun h=>by rw [h] at fa; simp at fa; rw [fa] at hq; simp at hq) fun h=>h;rw [fa] at hq;have h1:q/Kw<m:=(qI yH).2 hq;have h2:q % Kw<Kw:=rW _ yH
         have h3:q/Kw*Kw+q % Kw=q:=by rw [og]; exact Rf q Kw
         have:=(UW (q/Kw) (q % Kw) h1 (by rw [←hK]; exact h2)).1;rw [←hK,h3] at this
         have e:us.getD q undef=us[q]:=by simp [aY,fa,hq]
         rwa [e] at this
        have bU:=run_storeCells_at P g (d*Kw) E us 0 cur w hg (by rw [fa]; omega) eZ;simp only [lN] at bU
        have a_:(qz #[t,t'] ty #[.slice (some ⟨g,d*Kw,none⟩) (rows.length-d) (c-d),vy]).run P w=.ok (.int .i64 (m:Int)) (w.setRow g (cur.toList.take (d*Kw)++us++cur.toList.drop (d*Kw+us.length)).toArray):=by
         simp [qz,run_underlying hu,kR,dN,aZ,NK,bU,goInt]
        refine cX.value a_ ⟨_,_,F,β,hk,.i (.v (.inl rfl)),?_⟩;have gV:∀b cs,b≠g→(w.setRow g cs).heap[b]?=w.heap[b]?:=fun b cs hb=>setRow_other w g b cs hb;have ha:∀cs,fZ F w (w.setRow g cs):=fun cs b hb=>gV b cs fun e=>hI.apart g ho (e▸hb);refine vR hI hm rfl ⟨rfl,fun _=>bF _⟩ rfl (by simp) (fun b' aK=>gV b' _ (fun e=>aK (by rw [ah,e]; simp [bQ,qW]))) (.inr ?_)
        have yN:(rows.take d++news.take m++rows.drop (d+m)).length=rows.length:=by simp; omega
        have hR:∀q,q<rows.length→(rows.take d++news.take m++rows.drop (d+m)).getD q []=if q<d then rows.getD q [] else if q<d+m then news.getD (q-d) [] else rows.getD q []:=fun q hq=>by
         simp only [aY,gC,dq,dQ,gb,jl];by_cases h1:q<d
         ·have h2:q<min d rows.length:=by omega
          have h3:q<min d rows.length+min m news.length:=by omega
          simp [h1,h2,h3]
         ·have h2:¬q<min d rows.length:=by omega
          by_cases h4:q<d+m
          ·have h3:q<min d rows.length+min m news.length:=by omega
           have h5:q-min d rows.length<m:=by omega
           have h6:q-min d rows.length=q-d:=by omega
           simp [h1,h2,h3,h4,h5,h6];simp [show q-d<m by omega]
          ·have h3:¬q<min d rows.length+min m news.length:=by omega
           have h6:d+m+(q-(min d rows.length+min m news.length))=q:=by omega
           simp [h1,h3,h4,h6]
        refine ⟨g,c,_,by rw [ah,yN],iO,setRow_heap w g cur _ E _ hg,by rw [yN]; exact hn,gk,?_,fun q hq=>?_,fun q z hq iS=>?_⟩
        ·simp only [lh,dq,dQ,l_,lJ,fa]; omega
        ·rw [yN] at hq;rw [hR q hq];split
         ·exact AZ q hq
         ·split
          ·rw [hK]; exact Er _ (by rw [fU,bT (show q-d<news.length by omega)]; exact eG _)
          ·exact AZ q hq
        ·rw [yN] at hq
         have hqz:q*Kw+z<rows.length*Kw:=by
          calc q*Kw+z<q*Kw+Kw:=by omega
           _=(q+1)*Kw:=by rw [bO]; omega
           _≤rows.length*Kw:=cI _ hq
         have fX:q*Kw+z<cur.size:=by omega
         have eM:(cur.toList.take (d*Kw)++us++cur.toList.drop (d*Kw+us.length)).toArray.getD (q*Kw+z) undef=if q<d then cur.getD (q*Kw+z) undef else if q<d+m then us.getD ((q-d)*Kw+z) undef else cur.getD (q*Kw+z) undef:=by
          rw [lf,List.getElem?_toArray];simp only [gC,dq,dQ,lJ,gb,jl,fa];by_cases h1:q<d
          ·have Φ:q*Kw+z<d*Kw:=by
            calc q*Kw+z<q*Kw+Kw:=by omega
             _=(q+1)*Kw:=by rw [bO]; omega
             _≤d*Kw:=cI _ h1
           have h2:q*Kw+z<min (d*Kw) cur.size:=by omega
           have h3:q*Kw+z<min (d*Kw) cur.size+m*Kw:=by omega
           simp [h1,h2,h3,Φ]
          ·have gz:d*Kw≤q*Kw:=cI _ (by omega)
           have h2:¬q*Kw+z<min (d*Kw) cur.size:=by omega
           have akM:(q-d)*Kw=q*Kw-d*Kw:=Nat.sub_mul _ _ _;by_cases h4:q<d+m
           ·have Φ:q*Kw+z<(d+m)*Kw:=by
             calc q*Kw+z<q*Kw+Kw:=by omega
              _=(q+1)*Kw:=by rw [bO]; omega
              _≤(d+m)*Kw:=cI _ h4
            rw [bO] at Φ
            have h3:q*Kw+z<min (d*Kw) cur.size+m*Kw:=by omega
            have h5:q*Kw+z-min (d*Kw) cur.size=(q-d)*Kw+z:=by omega
            simp [h1,h2,h3,h4,h5,aY]
           ·have ab5:(d+m)*Kw≤q*Kw:=cI _ (by omega);rw [bO] at ab5
            have h3:¬q*Kw+z<min (d*Kw) cur.size+m*Kw:=by omega
            have h5:d*Kw+m*Kw+(q*Kw+z-(min (d*Kw) cur.size+m*Kw))=q*Kw+z:=by omega
            simp [h1,h3,h4,h5,fX]
         rw [eM,hR q hq];have old:=hr q z hq iS;by_cases h1:q<d
         ·rw [if_pos h1,if_pos h1]; exact ⟨old.1,old.2.frame (ha _) fun _ h=>h⟩
         ·rw [if_neg h1,if_neg h1];by_cases h2:q<d+m
          ·rw [if_pos h2,if_pos h2];have:=UW (q-d) z (by omega) (by rw [←hK]; exact iS);rw [←hK] at this;exact ⟨this.1,this.2.frame (ha _) fun _ h=>h⟩
          ·rw [if_neg h2,if_neg h2]; exact ⟨old.1,old.2.frame (ha _) fun _ h=>h⟩
     ·cases h
    ·cases h
   ·cases h
  ·cases h
 ·cases h
def aaL {args:Array Operand} {argTypes:Array TypeId} {a:Act} {type:TypeId} {f:Nat→AV} (hT:bM P T) (hI:Inv w F β st.H) (bI:∀x,x∈args→Rd w F β (ev f x) (a.eval x))
  (h:match argTypes.toList,args.toList.map (ev f) with
   | [t,_],[x,y]=>Hz T t x y st k
   | _,_=>False) :
  cX P (do let d ←resolve a.eval { callee:=.builtin .copy,args:=args,argTypes:=argTypes } type; invoke d.target d.args) w F β st k:=by
 split at h
 ·rename_i t t' x y ht hx;obtain ⟨l,rfl⟩:∃l:List Operand,args=l.toArray:=⟨args.toList,by simp⟩;obtain ⟨lt,rfl⟩:∃l:List TypeId,argTypes=l.toArray:=⟨argTypes.toList,by simp⟩;simp only at ht hx;subst ht
  match l,hx with
  | [o1,o2],hx =>
   simp only [jD,List.map_nil,GF,and_true] at hx;obtain ⟨rfl,rfl⟩:=hx;have:=aaM (t':=t') hT hI (bI o1 (by simp)) (bI o2 (by simp)) h type;unfold cX at this ⊢;simpa [resolve,invoke,builtin] using this
 ·cases h
def aaB {t t' d:Nat} {s x:AV} {vs vx:Value} (hd:d<1000) (hT:bM P T) (hI:Inv w F β st.H) (hs:Rd w F β s vs) (hx:Rd w F β x vx) (h:Hv T t t' s x d st k) (ty:TypeId) :
  cX P (do pure (.value (←h_ #[t,t'] ty #[vs,vx]))) w F β st k:=by
 unfold Hv at h;split at h
 ·exact aaC hT hI hs hx h ty
 split at h
 ·rename_i i i' kx nx hi bm _;cases hs.bL; cases hx.bL;split at h
  ·rename_i e ki he fp;have hu:=(hT _ _ hi).slice he;have iR:=(hT _ _ bm).int fp;split at h
   ·rename_i j hj;cases hb:(aH j.bytes 0||(aH j.cells 0||!(jk (cq j.zero)&&(aH (bt (cq j.zero)).length j.cells&&(bt (cq j.zero)).all fj)))) with
    | true=>rw [hb] at h; cases h
    | false =>
     rw [hb] at h;simp only [QI,QH,bJ] at hb;obtain ⟨ek,oB,bW,hlen,gU⟩:=hb;have hlen:(bt (cq j.zero)).length=j.cells:=cR hlen
     have ek:j.bytes≠0:=fun e=>by rw [e] at ek; cases ek
     have oB:j.cells≠0:=fun e=>by rw [e] at oB; cases oB
     obtain ⟨n,rfl,kK,R,rfl,hk⟩:=h;have hz:=oY (nV w F j.zero β) bW
     have iE:j.zero.cells.size=j.cells:=by rw [hz.1,hlen]
     obtain ⟨inf,pf,hzero,eJ,nD⟩:=(hT _ _ hj).info;have hn:n≤140737488355328:=fc (Rg _ (Ri ek)) kK;have qf:IntKind.i64.wrap (n:Int)=(n:Int):=qB _ (by omega)
     have abz:(n:Int)*(j.bytes:Int)≤140737488355328:=by
      have h5:((n*j.bytes:Nat):Int)=(n:Int)*(j.bytes:Int):=QX _ _;rw [←h5]; omega
     by_cases h0:n=0
     ·subst h0
      have a_:(h_ #[t,t'] ty #[.slice none 0 0,.int kx ((0:Nat):Int)]).run P w=.ok (.slice none 0 0) w:=by
       have EF:IntKind.i64.wrap 0=0:=rfl;simp [h_,run_underlying hu,run_underlying iR,sizeOf,typeInfo,pf,asInt,asIntOf,EF]
      exact cX.value a_ (HE hd hI (by simpa using hk))
     ·have jv:n≤maxLen:=by unfold maxLen; omega
      have El:=grownCap_ge w n 0 e;have Em:=grownCap_le_maxLen w n 0 e jv
      have h1:¬((n:Int)<0):=by omega
      have h2:¬(281474976710656<(n:Int)*(inf.bytes:Int)):=by rw [nD]; omega
      have h3:¬(9223372036854775807<(n:Int)):=by omega
      have h4:¬(281474976710656<QK n 0*inf.bytes):=by rw [nextslicecap_zero (by omega),nD]; omega
      have h5:n*inf.size≠0:=by rw [eJ]; exact Nat.mul_ne_zero h0 oB
      have a_:(h_ #[t,t'] ty #[.slice none 0 0,.int kx (n:Int)]).run P w=.ok (.slice (some ⟨w.heap.size,0,none⟩) n (grownCap w n 0 e)) (w.drew.alloc (.cells (dC j.zero.cells n++dC j.zero.cells (grownCap w n 0 e-n)) e)):=by
       simp [h_,run_underlying hu,run_underlying iR,sizeOf,typeInfo,pf,asInt,asIntOf,qf,h1,h2,h3,h4,h0,zeroValue,hzero,Rj,run_firstCells_none,newRow,grownCap];intro h7;exact absurd h7 h5
      refine cX.value a_ ?_;have:=E_ (d:=d) (E:=e) (K:=j.cells) (cap:=grownCap w n 0 e) (rows:=ic n ((bt (cq j.zero)).map nz)) (us:=dC j.zero.cells n++dC j.zero.cells (grownCap w n 0 e-n)) (w1:=w.drew) (k:=k)
       hd hI rfl rfl ⟨rfl,fun _=>(by first | exact bF _ | exact j0 _)⟩ rfl (by simp only [tQ,KK,iE,←bO]; congr 1; omega) (by simpa using El) Em (fun q hq=>?_) (fun q z hq iS=>?_) hk
      ·simpa using this
      ·simp at hq; simp [aY,hq,hlen]
      ·simp at hq
       have Φ:q*j.cells+z<n*j.cells:=by
        calc q*j.cells+z<q*j.cells+j.cells:=by omega
         _=(q+1)*j.cells:=by rw [bO]; omega
         _≤n*j.cells:=cI _ (by omega)
       have e0:(dC j.zero.cells n++dC j.zero.cells (grownCap w n 0 e-n)).getD (q*j.cells+z) undef=j.zero.cells[(q*j.cells+z) % j.zero.cells.size]! := by
        simp [pP,dC,iE,Φ]
       rw [e0,iE]
       have e1:(q*j.cells+z) % j.cells=z:=by rw [og,C8]; exact C7 iS
       rw [e1];have h2:=hz.2 z (by omega)
       have e2:j.zero.cells[z]! = j.zero.cells.getD z undef:=by
        have:z<j.zero.cells.size:=by omega
        simp [this]
       have e3:((ic n ((bt (cq j.zero)).map nz)).getD q []).getD z .χ=nz ((bt (cq j.zero)).getD z .χ):=by
        have zh:z<(bt (cq j.zero)).length:=by omega
        simp [aY,hq,zh]
       rw [e2,e3];refine ⟨h2.1,BM (nQ (ej.1 gU _ ?_) h2.2)⟩;rw [fU,bT (show z<(bt (cq j.zero)).length by omega)]; exact eG _
   ·cases h
  ·cases h
 ·cases h
def aaS {t:Nat} {x:AV} {vx:Value} {hi:Option AV} {vhi:Option Value} (hT:bM P T) (hI:Inv w F β st.H) (hx:Rd w F β x vx) (kN:xx hi vhi w F β) (h:L6 T t x hi st k) :
  cX P (do pure (.value (←lL t vx none vhi none))) w F β st k:=by
 unfold L6 at h;split at h
 ·rename_i i id kh nh bm;split at h
  ·rename_i e he;have hu:=(hT _ _ bm).slice he;cases vhi with
   | none=>exact kN.elim
   | some v1 =>
    cases (show Rd w F β _ v1 from kN).bL;split at h
    ·rename_i j hj;have aZ:=(hT _ _ hj).kX w;split at h
     ·rename_i E K rows hc;obtain ⟨Th,m,rfl,hm,R,rfl,hk⟩:=cond_prop h
      have hid:id<1000:=by
       simp only [bJ] at Th;simpa using Th.2
      have bH:=eX hc;obtain ⟨a,n,c,ah,rfl⟩:=hx.jW
      have a_:n=rows.length→rows.length≤c→(lL t (.slice a n c) none (some (.int kh (m:Int))) none).run P w=.ok (.slice a m c) w:=fun hn fO=>by
       have hb:=zO (P:=P) (w:=w) (is:=true) (lo:=none) (hi:=some (.int kh (m:Int))) (len:=rows.length) (cap:=c) (l:=0) (h:=m) (.inl ⟨rfl,rfl⟩) (.inr ⟨_,rfl⟩) (Nat.zero_le _) hm fO;subst hn
       have hs:(lL t (.slice a rows.length c) none (some (.int kh (m:Int))) none).run P w=.ok (.slice (if c=0 then a else a.map (·.add (0*j.cells))) (m-0) (c-0)) w:=by
        simp [lL,Instr.slice,run_underlying hu,hb,aZ]
       rw [hs]
       have:(if c=0 then a else a.map (·.add (0*j.cells)))=a:=by
        split
        ·rfl
        ·cases a <;> simp [Addr.add]
       rw [this]; simp
      rcases hI.holds _ _ bH with ⟨rfl,a',hv⟩ | ⟨g,cap,cur,hv,iO,hg,hn,gk,fX,hK,hr⟩
      ·rw [ah] at hv;cases hv
       have oD:m=0:=by simpa using hm
       subst oD;refine cX.value (a_ rfl (bF _)) ⟨_,_,F,fun q=>if q=id then .slice a 0 0 else β q,hk,.o (by simp),p6 (v:=.slice a 0 0) hid hI rfl ⟨rfl,fun _=>(by first | exact bF _ | exact j0 _)⟩ rfl (bF _) (fun _ _ _=>rfl) (fun _ _ _ _ _ _=>rfl) (fun b hb=>?_) (.inl ⟨by simp,a,by simp⟩)⟩;cases a <;> simp [bQ] at hb
      ·rw [ah] at hv;cases hv;refine cX.value (a_ rfl hn) ⟨_,_,F,fun q=>if q=id then .slice (some ⟨g,0,none⟩) m c else β q,hk,.o (by simp),p6 (v:=.slice (some ⟨g,0,none⟩) m c) hid hI rfl ⟨rfl,fun _=>(by first | exact bF _ | exact j0 _)⟩ rfl (bF _) (fun _ _ _=>rfl) (fun _ _ _ _ _ _=>rfl) (fun b hb=>.inr ⟨_,bH,?_⟩) (.inr ?_)⟩
       ·rw [ah]; simpa [bQ] using hb
       ·have hlen:(rows.take m).length=m:=by simp; omega
        have gB:∀q,q<m→(rows.take m).getD q []=rows.getD q []:=fun q hq=>by simp [aY,hq]
        refine ⟨g,c,cur,by simp [hlen],iO,hg,by omega,gk,fX,fun q hq=>?_,fun q z hq hz=>?_⟩
        ·rw [hlen] at hq; rw [gB q hq]; exact hK q (by omega)
        ·rw [hlen] at hq; rw [gB q hq]; exact hr q z (by omega) hz
     ·cases h
    ·cases h
  ·cases h
 ·cases h
def G_ {fs xs cs:List AV} {us vs ws:Array Value} (hs:us.size=fs.length) (hl:vs.size=xs.length) (aks:ws.size=cs.length) (hu:∀i,i<fs.length→Rd w F β (fs.getD i .χ) (us.getD i undef))
  (hv:∀i,i<xs.length→Rd w F β (xs.getD i .χ) (vs.getD i undef)) (hw:∀i,i<cs.length→Rd w F β (cs.getD i .χ) (ws.getD i undef)) :
  ∀i,i<(fs++(xs++cs)).length→Rd w F β ((fs++(xs++cs)).getD i .χ) ((us++vs++ws).getD i undef):=by
 intro i hi;simp only [dq] at hi
 have e1:(fs++(xs++cs)).getD i .χ=if i<fs.length then fs.getD i .χ else if i<fs.length+xs.length then xs.getD (i-fs.length) .χ else cs.getD (i-fs.length-xs.length) .χ:=by
  simp only [aY,gC];by_cases h1:i<fs.length
  ·simp [h1]
  ·by_cases h2:i<fs.length+xs.length
   ·simp [h1,h2,show i-fs.length<xs.length by omega]
   ·simp [h1,h2,show ¬i-fs.length<xs.length by omega]
 have e2:(us++vs++ws).getD i undef=if i<fs.length then us.getD i undef else if i<fs.length+xs.length then vs.getD (i-fs.length) undef else ws.getD (i-fs.length-xs.length) undef:=by
  simp only [lf,pP,tQ,hs,hl];by_cases h1:i<fs.length
  ·simp [h1,show i<fs.length+xs.length by omega]
  ·by_cases h2:i<fs.length+xs.length
   ·simp [h1,h2]
   ·simp [h1,h2,Nat.sub_sub]
 rw [e1,e2];by_cases h1:i<fs.length
 ·rw [if_pos h1,if_pos h1]; exact hu i h1
 ·rw [if_neg h1,if_neg h1];by_cases h2:i<fs.length+xs.length
  ·rw [if_pos h2,if_pos h2]; exact hv _ (by omega)
  ·rw [if_neg h2,if_neg h2]; exact hw _ (by omega)
def aaH {f:AV} {vf:Value} {xs:List AV} {vs:Array Value} (hI:Inv w F β st.H) (hf:Rd w F β f vf) (hl:vs.size=xs.length)
  (hv:∀i,i<xs.length→Rd w F β (xs.getD i .χ) (vs.getD i undef)) (h:Hw P f xs st k) :
  cX P (do let d ←l8 vf vs; invoke d.target d.args) w F β st k:=by
 unfold Hw at h;split at h
 ·rename_i g fs cs;obtain ⟨⟨fn,c,dF,dN,yt⟩,hp⟩:=h;obtain ⟨us,ws,rfl,hs,eu,hu,hw⟩:=hf.nt
  have rk : ¬ fn.name = "runtime.NumGoroutine" := by simpa using dN
  refine .inr (.inr (.inl ⟨g,us++vs++ws,by simp [l8,invoke,callFunc,dF,rk,yt],?_⟩));refine Calls.mono (hp w F β (us++vs++ws) hI ?_ (G_ hs hl eu hu hv hw)) ?_
  ·simp [hs,hl,eu]
  ·rintro e w' ⟨v,rfl,r,aq,F',av,hk,hr,he⟩;exact ⟨v,rfl,r,aq,F',av,hk,hr,he⟩
 ·rename_i l;obtain ⟨us,ws,rfl,hs,eu,_,_⟩:=hf.nt;have e1:us=#[]:=tM (by simpa using hs);have e2:ws=#[]:=tM (by simpa using eu);subst e1; subst e2;obtain ⟨fn,tmps,assign,body,hy,hR⟩:=h.2 w F β vs hI hl hv;exact .inr (.inr (.inr ⟨l,fn,tmps,assign,body,by simpa [l8,invoke] using hy,hR⟩))
 ·cases h
def aaG {f:Operand} {args:Array Operand} {argTypes:Array TypeId} {ρ:Operand→AV} {a:Act} {type:TypeId} (hI:Inv w F β st.H) (hf:Rd w F β (ρ f) (a.eval f))
  (mO:∀i,i<(args.toList.map ρ).length→Rd w F β ((args.toList.map ρ).getD i .χ) ((args.map a.eval).getD i undef)) (h:Hw P (ρ f) (args.toList.map ρ) st k) :
  cX P (do let d ←resolve a.eval { callee:=.value f,args:=args,argTypes:=argTypes } type; invoke d.target d.args) w F β st k:=by
 have e:(do let d ←resolve a.eval { callee:=.value f,args:=args,argTypes:=argTypes } type; invoke d.target d.args:Sem Next)=(do let d ←l8 (a.eval f) (args.map a.eval); invoke d.target d.args):=rfl;rw [e];exact aaH hI hf (by simp) mO h
def aaD {args:Array Operand} {argTypes:Array TypeId} {a:Act} {type:TypeId} {d:Nat} {f:Nat→AV} (hd:d<1000) (hT:bM P T) (hI:Inv w F β st.H) (bI:∀x,x∈args→Rd w F β (ev f x) (a.eval x))
  (h:match argTypes.toList,args.toList.map (ev f) with
   | [t,t'],[s,x]=>bif aH t t' then AL T t t' s x d st k else match x with
    | .v (.string _)=>AL T t t' s x d st k
    | _=>Hv T t t' s x d st k
   | _,_=>False) :
  cX P (do let d ←resolve a.eval { callee:=.builtin .append,args:=args,argTypes:=argTypes } type; invoke d.target d.args) w F β st k:=by
 split at h
 ·rename_i t t' s x ht hx;obtain ⟨l,rfl⟩:∃l:List Operand,args=l.toArray:=⟨args.toList,by simp⟩;obtain ⟨lt,rfl⟩:∃l:List TypeId,argTypes=l.toArray:=⟨argTypes.toList,by simp⟩;simp only at ht hx;subst ht
  match l,hx with
  | [o1,o2],hx =>
   simp only [jD,List.map_nil,GF,and_true] at hx;obtain ⟨rfl,rfl⟩:=hx;cases hb:aH t t' with
   | true =>
    rw [hb] at h;have:=St hd hT hI (bI o1 (by simp)) (bI o2 (by simp)) h type;unfold cX at this ⊢;simpa [resolve,invoke,builtin] using this
   | false =>
    rw [hb] at h;simp only [cond_false] at h;split at h
    ·have:=St hd hT hI (bI o1 (by simp)) (bI o2 (by simp)) h type;unfold cX at this ⊢;simpa [resolve,invoke,builtin] using this
    ·have:=aaB hd hT hI (bI o1 (by simp)) (bI o2 (by simp)) h type;unfold cX at this ⊢;simpa [resolve,invoke,builtin] using this
 ·cases h
def aaK {s t id:Nat} {vx:Value} (hT:bM P T) (hI:Inv w F β st.H) (hx:Rd w F β (.o id) vx) (h:L1 T s t id st k) :
  cX P (do pure (.value (←convert s t vx))) w F β st k:=by
 unfold L1 at h;split at h
 ·rename_i i hi;split at h
  ·rename_i e he;split at h
   ·rename_i j hj;split at h
    ·rename_i h8;have bU:=(cond_prop h).1;replace h:=(cond_prop h).2;obtain rfl:=cR bU;split at h
     ·rename_i E K rows hc;obtain ⟨aO,hk⟩:=h;have hu:=(hT _ _ hi).slice he;have UR:=(hT _ _ hj).int h8;have hm:=eX hc;obtain ⟨a,n,c,ah,rfl⟩:=hx.jW
      rcases hI.holds _ _ hm with ⟨h0,_⟩ | ⟨g,cap,cur,hv,iO,hg,hn,gk,hs,hK,hr⟩
      ·exact absurd h0 aO
      rw [ah] at hv;cases hv
      have h0:aH c 0=false:=by cases c <;> first | rfl | omega
      have hblk:bQ (β id)=some g:=by rw [ah]; simp [bQ,h0]
      have du:bD β st.H g:=⟨id,_,hm,hblk⟩;let w':=w.freeze ⟨g,cur.size,none⟩ 1
      have ri:(markStringish ⟨g,0,none⟩).run P w=.ok () w':=by
       have:w.shape? g=some (E,cur.size):=by simp [World.shape?,hg]
       simp [markStringish,this,w']
      have a_:(convert s s (.slice (some ⟨g,0,none⟩) rows.length c)).run P w=.ok (.slice (some ⟨g,0,none⟩) rows.length c) w':=by
       simp [convert,run_underlying hu,run_underlying UR,ri]
      have A9:w'.heap[g]?=some (.cells cur E (cur.size,cur.size+1)):=TU hg;have gV:∀b,b≠g→w'.heap[b]?=w.heap[b]?:=fun b hb=>TR (fun e=>hb e.symm);have hF:∀b,F b→w'.heap[b]?=w.heap[b]?:=fun b hb=>gV b fun e=>hI.apart g du (e▸hb)
      have aZ:w'.heap.size=w.heap.size:=by simp [w',World.freeze]
      have akK:∀o,w'.cell? ⟨g,o,none⟩=w.cell? ⟨g,o,none⟩:=fun o=>by
       rw [cell_of_row w' g o cur E _ A9,cell_of_row w g o cur E _ hg]
      let F2:Nat→Prop:=fun b=>F b∨bQ (β id)=some b
      have UD:bf w' F2 (.s rows) (.slice (some ⟨g,0,none⟩) rows.length c):=by
       refine .s (off:=0) (k:=K) (u:=fun i j=>cur.getD (i*K+j) undef) (.inr hblk) hn gk hK (fun i j hi hj=>?_) (fun i j hi hj=>(hr i j hi hj).1) fun i j hi hj=>(hr i j hi hj).2.frame hF fun _ h=>.inl h
       have:i*K+j<cur.size:=by
        rw [hs]
        calc i*K+j<i*K+K:=by omega
         _=(i+1)*K:=by rw [bO]; omega
         _≤c*K:=cI _ (by omega)
       rw [jF,cell_of_row w' g _ cur E _ A9];simp [this]
      have hz:∀u,Rd w' F2 β (.o id) u→Rd w' F2 β (.s rows) u:=fun u hu=>by
       obtain ⟨a',n',c',h1,rfl⟩:=hu.jW;rw [ah] at h1;cases h1;exact .i UD
      have up:∀{x u},Rd w F β x u→Rd w' F2 β x u:=fun h=>h.frame hF fun _ h=>.inl h
      have lV:Inv w' F2 β (oA id rows st.H):=by
       refine ⟨fun b hb=>by rw [aZ]; exact hb.elim (hI.cC b) fun hb=>hI.fI ⟨id,_,hm,hb⟩,fun i c2 h=>?_,DE hI.keys,fun b ⟨i,c2,h,hb⟩ D6=>?_,fun i c2 i' AA b h h' hb aK=>?_,hI.fh.frame hF fun _ h=>.inl h⟩
       ·obtain ⟨ra,c3,h3,rfl⟩:=lu h;have hh:=hI.holds i c3 h3;have aco:∀b,bQ (β i)=some b→w'.heap[b]?=w.heap[b]?:=fun b hb=>gV b fun e=>ra (hI.eA i c3 id _ b h3 hm hb (by rw [hblk,e]));have qb:=pz (F':=F2) hF (fun _ h=>.inl h) aco hh;cases c3 with
        | own E' K' r=>exact qb
        | mp ag r=>exact qb
        | si s pos=>exact qb
        | lp l e R L =>
         obtain ⟨fn,tmps,D,hb,yE,pk,y0⟩:=qb;refine ⟨fn,tmps,D,hb,yE,pk,fun p hp=>?_⟩;obtain ⟨q,hq,rfl⟩:=dg.1 hp;exact rH hz (fun _ _=>rfl) 2 (y0 q hq)
        | box cells =>
         obtain ⟨b,cs,e,hb,yE,ND,h1b,y0⟩:=qb;refine ⟨b,cs,e,hb,yE,by simpa using ND,fun j hj=>h1b j (by simpa using hj),fun j hj=>?_⟩
         have hj:j<cells.length:=by simpa using hj
         have:(cells.map (sb (.s rows) 1 id)).getD j .χ=sb (.s rows) 1 id (cells.getD j .χ):=by simp [aY,hj]
         rw [this];exact rH hz (fun _ _=>rfl) 1 (y0 j hj)
       ·obtain ⟨ra,c3,h3,_⟩:=lu h
        rcases D6 with D6 | D6
        ·exact hI.apart b ⟨i,c3,h3,hb⟩ D6
        ·exact ra (hI.eA i c3 id _ b h3 hm hb D6)
       ·obtain ⟨_,c3,h3,_⟩:=lu h;obtain ⟨_,c4,h4,_⟩:=lu h';exact hI.eA i c3 i' c4 b h3 h4 hb aK
      have yV:∀b,bD β (oA id rows st.H) b→bD β st.H b:=fun b ⟨i,c2,h,hb⟩=>by
       obtain ⟨_,c3,h3,_⟩:=lu h;exact ⟨i,c3,h3,hb⟩
      refine cX.value a_ ⟨_,_,F2,β,hk,.i UD,⟨rfl,⟨rfl,fun _=>(by first | exact bF _ | exact j0 _)⟩,rfl,Nat.le_of_eq aZ.symm,fun b _ bw=>gV b fun e=>bw (e▸du),fun _ h=>.inl h,fun b hb=>?_,fun b hb=>.inr (yV b hb),fun t u hu=>rH hz (fun _ _=>rfl) 2 (up hu),lV,fun _ _=>rfl⟩⟩;exact hb.imp (fun h=>h) fun h=>.inr ⟨id,_,hm,h⟩
     ·cases h
    ·cases h
   ·cases h
  ·cases h
 ·cases h
def aaJ {t:Nat} {x:AV} {vx:Value} (hT:bM P T) (hI:Inv w F β st.H) (hx:Rd w F β x vx) (h:Hy T t x st k) (ty:TypeId) :
  cX P (do pure (.value (←u_ #[t] ty #[vx]))) w F β st k:=by
 unfold Hy at h;split at h
 ·rename_i i hi;split at h
  ·rename_i e he;have hu:=(hT _ _ hi).slice he;split at h
   ·rename_i j hj;split at h
    ·rename_i id Kw d;split at h
     ·rename_i E K rows hc;obtain ⟨hb,R,rfl,hk⟩:=cond_prop h;simp only [bJ] at hb;obtain ⟨⟨hK,D_⟩,bW,hlen,gU⟩:=hb;have hK:K=j.cells:=cR hK;have D_:Kw=K:=cR D_;have hlen:(bt (cq j.zero)).length=j.cells:=cR hlen;subst D_;have hm:=eX hc;obtain ⟨a,a',n,c,ah,hd,ha,rfl⟩:=hx.xc;have hz:=fun w' F'=>oY (nV w' F' j.zero β) bW
      have iE:j.zero.cells.size=j.cells:=by rw [(hz w F).1,hlen]
      have hn:n=rows.length:=by
       rcases s7 (hI.holds _ _ hm) with ⟨rfl,a2,hv⟩ | ⟨g,cap,hv,_,iO⟩
       iterate 2 (rw [ah] at hv; cases hv; rfl)
      subst hn;by_cases h0:rows.length-d=0
      ·have a_:(u_ #[t] ty #[.slice a' (rows.length-d) (c-d)]).run P w=.ok (.tuple #[]) w:=by
        rw [h0]; cases a' <;> simp [u_,run_underlying hu]
       refine cX.value a_ ⟨_,_,F,β,hk,.i (.t rfl fun i hi=>by simp at hi),?_⟩;rw [h0,List.replicate_zero,xk,Re (by omega)];exact vR hI hm rfl ⟨rfl,fun _=>bF _⟩ rfl rfl (fun _ _=>rfl) (hI.holds _ _ hm)
      ·rcases hI.holds _ _ hm with ⟨rfl,_⟩ | ⟨g,cap,cur,hv,iO,hg,hn,gk,hs,AZ,hr⟩
       ·simp at h0
       ·rw [ah] at hv;cases hv
        have sD:a'=some ⟨g,d*Kw,none⟩:=by rw [ha (by omega)]; simp [f_]
        subst sD
        have qW:aH c 0=false:=by cases c <;> first | rfl | omega
        have ho:bD β st.H g:=⟨id,_,hm,by rw [ah]; simp [bQ,qW]⟩
        have hdK:d*Kw+(rows.length-d)*Kw=rows.length*Kw:=by rw [←bO]; congr 1; omega
        have hcK:rows.length*Kw≤c*Kw:=cI _ hn;let zs:=dC j.zero.cells (rows.length-d)
        have mT:zs.toList.length=(rows.length-d)*Kw:=by simp only [zs,lJ,KK,iE,hK]
        have eZ:∀x,x∈zs.toList→x.oneCell'=true:=fun x hx=>by
         simp only [zs,dC,YW,dg] at hx;obtain ⟨q,hq,rfl⟩:=hx
         have rp:0<j.zero.cells.size:=by
          have:q∈nj ((rows.length-d)*j.zero.cells.size):=by simpa using hq
          rcases oT j.zero.cells.size with h | h
          ·rw [h] at this; simp at this
          ·exact h
         have Φ:=rW q rp;have h2:=((hz w F).2 (q % j.zero.cells.size) (by omega)).1;simpa [Φ] using h2
        have bU:=run_storeCells_at P g (d*Kw) E zs.toList 0 cur w hg (by rw [mT]; omega) eZ;simp only [lN] at bU;have NY:=(hT _ _ hj).tp w
        have a_:(u_ #[t] ty #[.slice (some ⟨g,d*Kw,none⟩) (rows.length-d) (c-d)]).run P w=.ok (.tuple #[]) (w.setRow g (cur.toList.take (d*Kw)++zs.toList++cur.toList.drop (d*Kw+zs.toList.length)).toArray):=by
         obtain ⟨q,hq⟩:∃q,rows.length-d=q+1:=⟨rows.length-d-1,by omega⟩;have UL:=bU;simp only [zs,hq] at UL ⊢;simp [u_,run_underlying hu,NY,UL]
        refine cX.value a_ ⟨_,_,F,β,hk,.i (.t rfl fun i hi=>by simp at hi),?_⟩;have gV:∀b cs,b≠g→(w.setRow g cs).heap[b]?=w.heap[b]?:=fun b cs hb=>setRow_other w g b cs hb;refine vR hI hm rfl ⟨rfl,fun _=>bF _⟩ rfl (by simp) (fun b' aK=>gV b' _ (fun e=>aK (by rw [ah,e]; simp [bQ,qW]))) (.inr ?_);have ha:∀cs,fZ F w (w.setRow g cs):=fun cs b hb=>gV b cs fun e=>hI.apart g ho (e▸hb)
        have yN:(rows.take d++ic (rows.length-d) ((bt (cq j.zero)).map nz)).length=rows.length:=by simp; omega
        have wC:(rows.take d).length=d:=by simp; omega
        have nP:(cur.toList.take (d*Kw)).length=(rows.take d).length*Kw:=by simp only [dQ,lJ,wC]; omega
        refine ⟨g,c,_,by rw [ah,yN],iO,setRow_heap w g cur _ E _ hg,by rw [yN]; exact hn,gk,?_,O1 (fun q hq=>?_) (fun r cK=>?_),fun q z hq iS=>?_⟩
        ·simp only [lh,dq,dQ,l_,lJ,mT]; omega
        ·have wv:q<d:=by omega
         have:(rows.take d).getD q []=rows.getD q []:=by simp [aY,wv]
         rw [this]; exact AZ q (by omega)
        ·rw [List.eq_of_mem_replicate cK,ay,hlen,hK]
        ·have below:∀(m n z:Nat),m<n→z<Kw→m*Kw+z<n*Kw:=fun m n z h hz=>by
          calc m*Kw+z<m*Kw+Kw:=by omega
           _=(m+1)*Kw:=by rw [bO]; omega
           _≤n*Kw:=cI _ h
         have h1:∀q z,q<(rows.take d).length→z<Kw→((cur.toList.take (d*Kw)).getD (q*Kw+z) undef).oneCell'=true∧bf w F (((rows.take d).getD q []).getD z .χ) ((cur.toList.take (d*Kw)).getD (q*Kw+z) undef):=fun q z hq hz=>by
          rw [wC] at hq;have h3:=below q d z hq hz
          have h4:q*Kw+z<cur.size:=by omega
          have e1:(rows.take d).getD q []=rows.getD q []:=by simp [aY,hq]
          have e2:(cur.toList.take (d*Kw)).getD (q*Kw+z) undef=cur.getD (q*Kw+z) undef:=by simp [aY,h3,h4]
          rw [e1,e2]; exact hr q z (by omega) hz
         have h2:∀q z,q<(ic (rows.length-d) ((bt (cq j.zero)).map nz)).length→z<Kw→(zs.toList.getD (q*Kw+z) undef).oneCell'=true∧bf w F (((ic (rows.length-d) ((bt (cq j.zero)).map nz)).getD q []).getD z .χ) (zs.toList.getD (q*Kw+z) undef):=fun q z hq U6=>by
          simp only [Zo] at hq;have h3:=below q (rows.length-d) z hq U6
          have e3:zs.toList.getD (q*Kw+z) undef=j.zero.cells.getD z undef:=by
           have h5:(q*Kw+z) % j.zero.cells.size=z:=by rw [iE,←hK,og,C8]; exact C7 U6
           have h6:q*Kw+z<(rows.length-d)*j.zero.cells.size:=by rw [iE,←hK]; exact h3
           have h7:z<j.zero.cells.size:=by omega
           simp [zs,dC,aY,h6,h5,h7]
          have e4:((ic (rows.length-d) ((bt (cq j.zero)).map nz)).getD q []).getD z .χ=nz ((bt (cq j.zero)).getD z .χ):=by
           have h5:z<(bt (cq j.zero)).length:=by omega
           simp [aY,hq,h5]
          rw [e3,e4];have h4:=(hz w F).2 z (by omega);refine ⟨h4.1,BM (nQ (ej.1 gU _ ?_) h4.2)⟩;rw [fU,bT (show z<(bt (cq j.zero)).length by omega)]; exact eG _
         have:=JM (zs:=cur.toList.drop (d*Kw+zs.toList.length)) (Q:=fun x u=>u.oneCell'=true∧bf w F x u) nP (by simp only [Zo]; exact mT) h1 h2 q z hq iS;rw [vB _ (cur.toList.take (d*Kw)++zs.toList++cur.toList.drop (d*Kw+zs.toList.length)) rfl];exact ⟨this.1,this.2.frame (ha _) fun _ h=>h⟩
     ·cases h
    ·cases h
   ·cases h
  ·cases h
 ·cases h
def aaI {args:Array Operand} {argTypes:Array TypeId} {a:Act} {type:TypeId} {f:Nat→AV} (hT:bM P T) (hI:Inv w F β st.H) (bI:∀x,x∈args→Rd w F β (ev f x) (a.eval x))
  (h:match argTypes.toList,args.toList.map (ev f) with
   | [t],[x]=>Hy T t x st k
   | _,_=>False) :
  cX P (do let d ←resolve a.eval { callee:=.builtin .clear,args:=args,argTypes:=argTypes } type; invoke d.target d.args) w F β st k:=by
 split at h
 ·rename_i t x e1 e2
  have LU:argTypes=#[t]:=by rw [←Array.toArray_toList (xs:=argTypes),e1]
  have hl:args.size=1:=by have:=congrArg List.length e2; simpa using this
  have ex:x=ev f args[0]:=by
   have:=congrArg (fun l=>l[0]?) e2;simp [hl] at this;exact this.symm
  have ea:args.map a.eval=#[a.eval args[0]]:=by
   apply Array.ext
   ·simp [hl]
   ·intro i h1 h2
    have:i=0:=by simp at h2; omega
    subst this; simp
  have e:(do let d ←resolve a.eval { callee:=.builtin .clear,args:=args,argTypes:=argTypes } type; invoke d.target d.args:Sem Next)=builtin .clear argTypes type (args.map fun | .const _=>true | _=>false) (args.map a.eval):=rfl;rw [e,ea,LU];exact aaJ hT hI (by rw [ex]; exact bI _ (by simp)) h type
 ·cases h
def aaQ {t d:Nat} {x:AV} {vx:Value} (hd:d<1000) (hT:bM P T) (hI:Inv w F β st.H) (hx:Rd w F β x vx) (h:L5 T t x d st k):cX P (do pure (.value (←Instr.range t vx))) w F β st k:=by
 unfold L5 at h;split at h
 ·rename_i i s hi;cases hx.bL;split at h
  ·rename_i hk;have hu:=(hT _ _ hi).str hk;have a_:=run_range_string w t s hu;have eP:(w.iter s 0).heap[w.heap.size]?=some (.stringIter s 0):=World.iter_heap w s 0;have hb:=vE w (.stringIter s 0);refine cX.value a_ ⟨_,_,F,_,h,.b (by simp),p6 (v:=.pointer (some ⟨w.heap.size,0,none⟩)) hd hI hb.os hb.tape hb.output hb.size (fun b Φ _=>hb.block b Φ) (fun i c b _ hm kJ=>hb.block b (hI.fI ⟨i,c,hm,kJ⟩)) (fun b kJ=>?_) ?_⟩
   ·simp [bQ] at kJ; left; omega
   ·exact ⟨w.heap.size,by simp,eP⟩
  ·cases h
 ·cases h
def aaP {x:AV} {vx:Value} {IU:Bool} {ty:TypeId} (hI:Inv w F β st.H) (hx:Rd w F β x vx) (h:L4 x IU st k):cX P (do pure (.value (←Gz vx IU ty))) w F β st k:=by
 unfold L4 at h;split at h
 ·rename_i id;split at h
  ·rename_i s pos hc;have hm:=eX hc;obtain ⟨b,ah,hh⟩:=hI.holds _ _ hm;obtain ⟨eV,hb,rfl⟩:=hx.mz;rw [ah] at hb;cases hb
   have kJ:bQ (β id)=some b:=by rw [ah]; rfl
   have Φ:=kE hh;by_cases hp:pos<s.size
   ·have a_:(Gz (.pointer (some ⟨b,0,none⟩)) true ty).run P w=.ok (.tuple #[.bool true,.int .i64 (pos:Int),.int .i32 ((K_ s pos).1:Int)]) { w with heap:=w.heap.setIfInBounds b (.stringIter s (pos+(K_ s pos).2)) }:=by
     simp only [Gz,getObj,setObj,kz,GO,hh,Result.andThen,hp,if_true];simp [goInt,GO,hh]
    refine cX.value a_ ⟨_,_,F,β,h.1 hp,.i (.t rfl fun i hi=>?_),vR hI hm rfl ⟨rfl,fun _=>bF _⟩ rfl (by simp) (fun b' aK=>?_) ?_⟩
    ·match i,hi with
     | 0,_=>exact .v (.inl rfl)
     | 1,_=>exact .v (.inl rfl)
     | 2,_=>exact .v (.inl rfl)
    ·exact xg fun e=>aK (by rw [kJ,e])
    ·exact ⟨b,ah,by simp [Φ]⟩
   ·have a_:(Gz (.pointer (some ⟨b,0,none⟩)) true ty).run P w=.ok (.tuple #[.bool false]) w:=by
     simp [Gz,getObj,GO,hh,hp]
    refine cX.value a_ ⟨_,_,F,β,h.2 hp,.i (.t rfl fun i hi=>?_),Ext.refl hI⟩
    match i,hi with
    | 0,_=>exact .v (.inl rfl)
  ·cases h
 ·cases h
def XF {o:Oper} {a:Act} (hT:bM P T) (hI:Inv w F β st.H) (bI:∀x,x∈o.op.operands→Rd w F β (ev st.f x) (a.eval x)) (h:step P T o st k):cX P (execOp a.eval o) w F β st k:=by
 have A3:=(cond_prop h).1;replace h:=(cond_prop h).2
 have hd:o.dst.getD 0<1000:=by simpa using A3
 clear A3;have quiet:mZ P T o (ev st.f) st.H (fun r=>k r st)→cX P (execOp a.eval o) w F β st k:=fun h=>af4 hI (Kj hT hI bI h);obtain ⟨dst,op,type,pos,after,guard⟩:=o;cases op <;> simp only [Op.operands] at bI
 case alloc t=>simp only [execOp]; exact aaA hd hT hI h
 case box t x=>simp only [execOp]; exact aaE hd hI (bI x (by simp)) h
 case makeMap t r =>
  cases r with
  | none=>simp only [execOp]; exact aaN hd hT hI h
  | some r=>exact quiet h
 case range t x=>simp only [execOp]; exact aaQ hd hT hI (bI x (by simp)) h
 case next x s=>simp only [execOp]; exact aaP hI (bI x (by simp)) h
 case mapUpdate t m i y=>simp only [execOp]; exact Sv hT hI (bI m (by simp)) (bI i (by simp)) (bI y (by simp)) h
 case insert t m i y=>simp only [execOp]; exact Sv hT hI (bI m (by simp)) (bI i (by simp)) (bI y (by simp)) h
 case store t x y=>simp only [execOp]; exact aaU hT hI (bI x (by simp)) (bI y (by simp)) h
 case buildSlice t n parts =>
  rcases h with h | h
  ·exact quiet h
  ·simp only [execOp];exact aaF hd hT hI (Jt (ev st.f) a.eval parts) (Ju fun x hx=>bI x (by simpa using hx)) h
 case slice t x lo hi mx =>
  cases mx with
  | none =>
   cases lo with
   | some l=>exact quiet h
   | none =>
    simp only [Cq] at h;split at h
    ·simp only [execOp];refine aaS (vhi:=hi.map a.eval) hT hI (bI x (by simp)) ?_ h;cases hi with
     | none=>exact K8
     | some l=>exact bI l (by simp)
    ·exact quiet h
  | some m =>
   have h:HC T t (ev st.f x) (lo.map (ev st.f)) (hi.map (ev st.f)) (some (ev st.f m)) (dst.getD 0) st k:=by cases lo <;> exact h
   simp only [execOp];refine aaR (vlo:=lo.map a.eval) (vhi:=hi.map a.eval) (vmx:=some (a.eval m)) hd hT hI (bI x (by simp)) ?_ ?_ ?_ h
   ·cases lo with
    | none=>exact K8
    | some l=>exact bI l (by simp)
   ·cases hi with
    | none=>exact K8
    | some l=>exact bI l (by simp)
   ·exact bI m (by simp)
 case makeSlice t l c =>
  rcases h with h | h
  ·exact quiet h
  ·simp only [execOp]; exact aaO hd hT hI (bI l (by simp)) (bI c (by simp)) h
 case convert s t x =>
  simp only [Cq] at h;split at h
  ·rename_i id hid;simp only [execOp];have hx:=bI x (by simp);rw [hid] at hx;exact aaK hT hI hx h
  ·exact quiet h
 case call c =>
  obtain ⟨callee,args,argTypes⟩:=c
  have mO:∀i,i<(args.toList.map (ev st.f)).length→Rd w F β ((args.toList.map (ev st.f)).getD i .χ) ((args.map a.eval).getD i undef):=fun i hi=>by
   simp at hi;simpa [aY,hi] using bI args[i] (by simp [qA])
  cases callee with
  | builtin b =>
   cases b
   case append=>simp only [execOp]; exact aaD hd hT hI (fun x hx=>bI x (by simp [qA,hx])) h
   case copy=>simp only [execOp]; exact aaL hT hI (fun x hx=>bI x (by simp [qA,hx])) h
   case clear=>simp only [execOp]; exact aaI hT hI (fun x hx=>bI x (by simp [qA,hx])) h
   all_goals exact quiet h
  | value f=>simp only [execOp]; exact aaG hI (bI f (by simp [qA])) mO h
  | invoke r m=>exact quiet h
 all_goals exact quiet h
def ahM {o:Oper} {a:Act} (hT:bM P T) (hI:Inv w F β st.H) (hf:∀t,Rd w F β (st.f t) (a.tmps.getD t undef)) (h:step P T o st k):cX P (execOp a.eval o) w F β st k :=
 XF hT hI (fun x _=>AQ hf x) h
end
end
section
open Go.RowKit
variable [M:bK] [G:cL]
def Br (b want:Bool) (yes no:Prop):Prop :=
 match b,want with
 | true,true=>yes
 | false,false=>yes
 | true,false=>no
 | false,true=>no
def Br.y {b want:Bool} {yes no:Prop} (h:Br b want yes no) (hb:b=want):yes:=by subst hb; cases b <;> exact h
def Br.n {b want:Bool} {yes no:Prop} (h:Br b want yes no) (hb:b=!want):no:=by subst hb; cases want <;> exact h
def Br.tt {yes no:Prop} (h:yes):Br true true yes no:=h
def Br.ff {yes no:Prop} (h:yes):Br false false yes no:=h
def Br.tf {yes no:Prop} (h:no):Br true false yes no:=h
def Br.ft {yes no:Prop} (h:no):Br false true yes no:=h
def Br.yes {b want:Bool} {yes no:Prop} (hb:b=want) (h:yes):Br b want yes no:=by
 subst hb; cases b
 ·exact Br.ff h
 ·exact Br.tt h
def Br.no {b want:Bool} {yes no:Prop} (hb:b=!want) (h:no):Br b want yes no:=by
 subst hb; cases want
 ·exact Br.tf h
 ·exact Br.ft h
def Br.ite {b:Bool} {ρ:Type} {X Y:Option ρ} {r:ρ} {yes no:Prop} (h:(if b=true then X else Y)=some r) (y:b=true→X=some r→yes) (n:b=false→Y=some r→no):Br b true yes no:=by
 cases b with
 | true=>exact y rfl (by simpa using h)
 | false=>exact n rfl (by simpa using h)
def Br.dV {b:Bool} {ρ:Type} {X Y:Option ρ} {r:ρ} {yes no:Prop} (h:(if b=true then X else Y)=some r) (y:b=true→X=some r→no) (n:b=false→Y=some r→yes):Br b false yes no:=by
 cases b with
 | true=>exact y rfl (by simpa using h)
 | false=>exact n rfl (by simpa using h)
def SV (x:AV) (k:AV→Prop):Prop :=
 match x with
 | .v a=>k (.v a)
 | .s a=>k (.s a)
 | .p a=>k (.p a)
 | .a a=>k (.a a)
 | .t a=>k (.t a)
 | .c a b c=>k (.c a b c)
 | .b a b=>k (.b a b)
 | .o a=>k (.o a)
 | .e a b c d=>k (.e a b c d)
 | .w a b c=>k (.w a b c)
 | .m a=>k (.m a)
 | .z=>k .z
 | .χ=>k .χ
def abi (x:AV) (k:AV→Prop):SV x k=k x:=by cases x <;> rfl
def put (n:Nat) (dst:Option Nat) (st:ae) (r:AV) (K:ae→Prop):Prop :=
 match st with
 | ⟨f,H⟩=>match dst with
  | none=>K ⟨f,H⟩
  | some d=>bif eL d n then SV r fun r=>K ⟨dW f d r,H⟩ else False
def put_eq (n:Nat) (dst:Option Nat) (st:ae) (r:AV) (K:ae→Prop):put n dst st r K=match dst with
  | none=>K st
  | some d=>bif eL d n then K ⟨dW st.f d r,st.H⟩ else False:=by
 cases st;cases dst with
 | none=>rfl
 | some d=>simp only [put,abi]
def gd (n:Nat) (all:Array Oper) (o:Oper) (st:ae) (yes no:ae→Prop):Prop :=
 match st with
 | ⟨f,H⟩=>match o.guard with
  | none=>yes ⟨f,H⟩
  | some (j,want)=>match (all[j]?).bind (·.dst) with
   | some d=>bif eL d n then
     match f d with
     | .v (.bool b)=>Br b want (yes ⟨dW f d (.v (.bool want)),H⟩) (no ⟨dW f d (.v (.bool (!want))),H⟩)
     | .v (.tuple _)=>no ⟨f,H⟩
     | _=>False
    else False
   | none=>False
def sB (n:Nat) (all:Array Oper) (o:Oper) (st:ae) (yes no:ae→Prop):gd n all o st yes no=match o.guard with
 | none=>yes st
 | some (j,want)=>match (all[j]?).bind (·.dst) with
  | some d=>bif eL d n then
    match st.f d with
    | .v (.bool b)=>Br b want (yes ⟨dW st.f d (.v (.bool want)),st.H⟩) (no ⟨dW st.f d (.v (.bool (!want))),st.H⟩)
    | .v (.tuple _)=>no st
    | _=>False
   else False
  | none=>False:=by cases st; rfl
def iV (P:Program) (T:TT) (n:Nat) (all:Array Oper):List Oper→ae→(ae→Prop)→Prop
 | [],st,K=>K st
 | o::os,st,K=>gd n all o st (fun st=>step P T o st fun r aq=>put n o.dst aq r fun fK=>iV P T n all os fK K) fun st=>put n o.dst st (.v undef) fun aq=>iV P T n all os aq K
class dK where
 any:Prop
abbrev dK.yes:dK:=⟨True⟩
abbrev dK.no:dK:=⟨False⟩
variable [R:dK]
structure Ctx where
 w:World
 F:Nat→Prop
 β:Nat→Value
 H:Hp
 n:Nat
 ro:Option Nat:=none
 EC:ro=none∨R.any:=by exact .inl rfl
 dl:List Deferred:=[]
def Ctx.ms (C:Ctx) (ds:List Deferred):List Deferred:=ds.take (ds.length-C.dl.length)
structure XM (C:Ctx) (ds:List Deferred) (w:World) (F:Nat→Prop) (β:Nat→Value) (H:Hp):Prop where
 x:Ext C.w C.F C.β ⟨aF,C.H⟩ w F β ⟨aF,H⟩
 m:∀d,d∈C.ms ds→∃D,d={ target:=.collected D,args:=#[] }∧C.w.heap.size≤D∧w.heap[D]?=some (.deferred (some []))∧¬F D∧¬bD β H D
 nd:(C.ms ds).Nodup
 sp:∃l,ds=l++C.dl
section
variable {C:Ctx} {ds:List Deferred} {w w':World} {F F':Nat→Prop} {β av:Nat→Value} {H H':Hp}
def Ctx.ad5 {d:Deferred} (h:∃l,ds=l++C.dl):C.ms (d::ds)=d::C.ms ds:=by
 obtain ⟨l,rfl⟩:=h;unfold Ctx.ms
 have e1:(d::(l++C.dl)).length-C.dl.length=l.length+1:=by simp; omega
 have e2:(l++C.dl).length-C.dl.length=l.length:=by simp
 rw [e1,e2]; rfl
def Ctx.VE (h:C.dl=[]):C.ms ds=ds:=by unfold Ctx.ms; rw [h]; simp
def Ctx.EZ {l:List Deferred}:C.ms (l++C.dl)=l:=by unfold Ctx.ms; simp
def XM.inv (h:XM C ds w F β H):Inv w F β H:=h.x.inv
def Ext.no {st aq:ae} (h:Ext w F β st w' F' av aq):Ext w F β ⟨aF,st.H⟩ w' F' av ⟨aF,aq.H⟩ :=
 ⟨h.os,h.tape,h.output,h.size,h.block,h.mono,h.new,h.owned,fun _ _ _=>.χ,h.inv,h.gp⟩
def XM.trans {f f':Nat→AV} (h:XM C ds w F β H) (hx:Ext w F β ⟨f,H⟩ w' F' av ⟨f',H'⟩):XM C ds w' F' av H' where
 x:=h.x.trans hx.no
 m d hd:=by
  obtain ⟨D,h1,h2,h3,h4,h5⟩:=h.m d hd;have Φ:=kE h3;refine ⟨D,h1,h2,(hx.block D Φ h5).trans h3,fun hF=>?_,fun ho=>?_⟩
  ·rcases hx.new D hF with h | h | h
   ·exact h4 h
   ·exact absurd Φ (Nat.not_lt.2 h)
   ·exact h5 h
  ·rcases hx.owned D ho with h | h
   ·exact absurd Φ (Nat.not_lt.2 h)
   ·exact h5 h
 nd:=h.nd
 sp:=h.sp
def XM.Ov (h:XM C ds w F β H):XM C ds w F β H:=h
end
def Rel (C:Ctx) (st:ae) (a:Act) (w:World):Prop :=
 ∃F β,a.tmps.size=C.n∧True∧(∀t,Rd w F β (st.f t) (a.tmps.getD t undef))∧XM C a.defers w F β st.H
def GU (P:Program) (C:Ctx) (c:Code) (st:ae) (Q:Exit→ae→Prop):Prop :=
 ∀a w,Rel C st a w→c.wpIn (fM C.ro) 0 P (fun e a' w'=>∃aq,Rel C aq a' w'∧Q e aq) a w
structure Ru (P:Program) (n:Nat) (c:Code) (st:ae) (Q:Exit→ae→Prop):Prop where
 h:∀C:Ctx,C.n=n→GU P C (.loop c) st Q
structure GX (P:Program) (n:Nat) (id:Nat) (ops:Array Oper) (st:ae) (K:ae→Prop):Prop where
 h:∀C:Ctx,C.n=n→GU P C (.region id ops true) st fun e aq=>match e with
  | .normal=>K aq
  | _=>False
def xd (P:Program) (T:TT) (n:Nat):Code→ae→(Exit→ae→Prop)→Prop
 | .skip,st,Q=>Q .normal st
 | .label _,st,Q=>Q .normal st
 | .region id ops draw,st,Q=>bif draw then GX P n id ops st (Q .normal) else iV P T n ops ops.toList st (Q .normal)
 | .seq x y,st,Q=>xd P T n x st fun e s=>match e with
  | .normal=>xd P T n y s Q
  | e=>Q e s
 | .cond c x y,st,Q=>match c with
  | .tmp d=>bif eL d n then
    match st.f d with
    | .v (.bool b)=>Br b true (xd P T n x ⟨dW st.f d (.v (.bool true)),st.H⟩ Q) (xd P T n y ⟨dW st.f d (.v (.bool false)),st.H⟩ Q)
    | _=>False
   else False
  | .const (.bool true)=>xd P T n x st Q
  | .const (.bool false)=>xd P T n y st Q
  | _=>False
 | .block id c,st,Q=>xd P T n c st fun e s=>match e with
  | .exit i=>bif aH i id then Q .normal s else Q (.exit i) s
  | e=>Q e s
 | .loop c,st,Q=>Ru P n c st Q
 | .exit id,st,Q=>Q (.exit id) st
 | .ret,st,Q=>Q .ret st
 | _,_,_=>False
section
variable {P:Program} {T:TT} {C:Ctx}
def Ext.uS {w:World} {F:Nat→Prop} {β:Nat→Value} {st:ae} {w':World} {F':Nat→Prop} {av:Nat→Value} {aq:ae} (h:Ext w F β st w' F' av aq) (f:Nat→AV) :
  Ext w F β ⟨f,st.H⟩ w' F' av ⟨aF,aq.H⟩ :=
 ⟨h.os,h.tape,h.output,h.size,h.block,h.mono,h.new,h.owned,fun _ _ _=>.χ,h.inv,h.gp⟩
def Rd.put {w:World} {F:Nat→Prop} {β:Nat→Value} {f:Nat→AV} {a:Act} {d:Nat} {r:AV} {v:Value} (hf:∀t,Rd w F β (f t) (a.tmps.getD t undef)) (hv:Rd w F β r v) (hd:d<a.tmps.size) :
  ∀t,Rd w F β (dW f d r t) ((a.put (some d) v).tmps.getD t undef):=by
 intro t;unfold dW;cases hb:aH t d with
 | true =>
  obtain rfl:=cR hb;simpa [Act.put,hd] using hv
 | false =>
  have aO:d≠t:=fun e=>by rw [e,iX] at hb; cases hb
  have:=hf t;simpa [Act.put,xg aO] using this
def CP {w:World} {F:Nat→Prop} {β:Nat→Value} {f:Nat→AV} {a:Act} {d:Nat} {b c:Bool} (hf:∀t,Rd w F β (f t) (a.tmps.getD t undef)) (hd:f d=.v (.bool b)) (hb:b=c) :
  ∀t,Rd w F β (dW f d (.v (.bool c)) t) (a.tmps.getD t undef):=by
 intro t;unfold dW;cases ht:aH t d with
 | true =>
  obtain rfl:=cR ht;subst hb;simpa [hd] using hf t
 | false=>exact hf t
def zF {n:Nat} {dst:Option Nat} {st:ae} {r:AV} {K:ae→Prop} {a:Act} {w:World} {F:Nat→Prop} {β:Nat→Value} {v:Value} (hn:C.n=n) (hs:a.tmps.size=C.n) (hd:True)
  (hf:∀t,Rd w F β (st.f t) (a.tmps.getD t undef)) (he:XM C a.defers w F β st.H) (hv:Rd w F β r v) (h:put n dst st r K):∃aq,Rel C aq (a.put dst v) w∧K aq:=by
 rw [put_eq] at h;cases dst with
 | none=>exact ⟨st,⟨F,β,hs,hd,hf,he⟩,h⟩
 | some d =>
  obtain ⟨Φ,hk⟩:=cond_prop h
  have Φ:d<n:=by simpa [gF] using Φ
  exact ⟨⟨dW st.f d r,st.H⟩,⟨F,β,by simpa [Act.put] using hs,hd,Rd.put hf hv (by omega),he⟩,hk⟩
def put_defers (a:Act) (dst:Option Nat) (v:Value):(a.put dst v).defers=a.defers:=by cases dst <;> rfl
def vI {ro:Option Nat} {m:Nat} {f:FuncId} {args:Array Value} {w:World} {R:Ending→World→Prop} (h:Calls P f args w R):CallsIn (fM ro) m P f args w R :=
 ⟨trivial,fun cs _=>let ⟨e,w',fr,r,s,x⟩:=h cs; ⟨e,w',fr,r,comesIn_wide.2 s,x⟩⟩
def WY {ro:Option Nat} {m m':Nat} {l:Nat} {f:FuncId} {tmps:Array Value} {assign body:Code} {w:World} {R:Ending→World→Prop} (h:RoundIn ga m P l f tmps assign body w R):RoundIn (fM ro) m' P l f tmps assign body w R :=
 ⟨trivial,fun c cs _=>h.2 c cs (room_wide _)⟩
def Oper.ke {o:Oper} {ro:Option Nat} {a:Act} {w:World} {N:Act→World→Prop} {Q:Exit→Act→World→Prop} {r:Result Next} (hd:∀c,o.op≠.defer c) (a_:(execOp a.eval o).run P w=r) (h:o.uponIn (fM ro) 0 P a N Q r):o.wpIn (fM ro) 0 P a w N Q :=
 ⟨fun _ _=>trivial,by rw [Oper.semAt_eq _ _ _ hd,a_]; exact h⟩
def XC {o:Oper} {ρ:Operand→AV} {H:Hp} {k:AV→Prop} (h:mZ P T o ρ H k):∀c,o.op≠.defer c:=fun c e=>by
 unfold mZ at h; rw [e] at h; exact h
def XE {o:Oper} {st:ae} {k:AV→ae→Prop} (h:step P T o st k):∀c,o.op≠.defer c:=fun c e=>by
 have h:=(cond_prop h).2;unfold Cq at h;rw [e] at h;exact XC h c e
def uX {n:Nat} {all:Array Oper} {o:Oper} {i:Nat} {st:ae} {K:ae→Prop} {a:Act} {w:World} {Q:Exit→Act→World→Prop} {N:Act→World→Prop} (hT:bM P T) (hn:C.n=n) (ho:all[i]?=some o) (hr:Rel C st a w)
  (hN:∀st a w,Rel C st a w→K st→N a w)
  (h:gd n all o st (fun st=>step P T o st fun r aq=>put n o.dst aq r K) fun st=>put n o.dst st (.v undef) K):wpOpIn (fM C.ro) 0 P all Q i N a w:=by
 obtain ⟨F,β,hs,hd,hf,he⟩:=hr;have hI:Inv w F β st.H:=he.inv
 have run:∀st,st.H=st.H→(∀t,Rd w F β (st.f t) (a.tmps.getD t undef))→Inv w F β st.H→XM C a.defers w F β st.H→(step P T o st fun r aq=>put n o.dst aq r K)→o.wpIn (fM C.ro) 0 P a w N Q:=by
  intro st _ hf hI he h;have dJ:=XE h
  rcases ahM hT hI hf h with ⟨v,w',a_,r,aq,F',av,hk,hv,hx⟩ | ⟨w',a_,r,aq,F',av,hk,hv,hx⟩ | ⟨g,vs,a_,hc⟩ | ⟨l,fn,tmps,assign,body,a_,hc⟩
  ·refine Oper.ke dJ a_ ?_;rw [Oper.uponIn_value];obtain ⟨fK,h1,h2⟩:=zF hn hs hd (fun t=>hx.keep t _ (hf t)) (he.trans (hx.uS aF)) hv hk;exact hN _ _ _ h1 h2
  ·refine Oper.ke dJ a_ ?_;rw [Oper.uponIn_skip];obtain ⟨fK,h1,h2⟩:=zF hn hs hd (fun t=>hx.keep t _ (hf t)) (he.trans (hx.uS aF)) hv hk;exact hN _ _ _ h1 h2
  ·refine Oper.ke dJ a_ ?_;rw [Oper.uponIn_enter];refine ⟨fun h=>(by cases h),vI (hc.mono ?_)⟩;rintro e w' ⟨v,rfl,r,aq,F',av,hk,hv,hx⟩;obtain ⟨fK,h1,h2⟩:=zF hn hs hd (fun t=>hx.keep t _ (hf t)) (he.trans (hx.uS aF)) hv hk;exact hN _ _ _ h1 h2
  ·refine Oper.ke dJ a_ ?_;rw [Oper.uponIn_round];refine ⟨fun h=>(by cases h),WY (hc.mono ?_)⟩;rintro e w' ⟨v,rfl,r,aq,F',av,hk,hv,hx⟩;obtain ⟨fK,h1,h2⟩:=zF hn hs hd (fun t=>hx.keep t _ (hf t)) (he.trans (hx.uS aF)) hv hk;exact hN _ _ _ h1 h2
 have skip:∀st:ae,(∀t,Rd w F β (st.f t) (a.tmps.getD t undef))→XM C a.defers w F β st.H→put n o.dst st (.v undef) K→N (a.put o.dst undef) w:=by
  intro st hf he h;obtain ⟨fK,h1,h2⟩:=zF hn hs hd hf he (.i (.v (.inr rfl)):Rd w F β (.v undef) undef) h;exact hN _ _ _ h1 h2
 unfold wpOpIn;simp only [ho];rw [sB] at h;cases hg:o.guard with
 | none =>
  rw [hg] at h
  have hw:dS o (yielded all a.tmps)=true:=by simp [dS,hg]
  rw [if_pos hw];exact run st rfl hf hI he h
 | some jw =>
  obtain ⟨j,want⟩:=jw;rw [hg] at h;simp only at h;split at h
  ·rename_i d oC;obtain ⟨Φ,h⟩:=cond_prop h
   have Φ:d<a.tmps.size:=by rw [hs,hn]; simpa [gF] using Φ
   have gh:=hf d
   have hy:∀v,a.tmps.getD d undef=v→yielded all a.tmps j=match v with | .bool b=>some b | _=>none:=by
    intro v hv
    have h2:a.tmps[d]?=some v:=by
     rw [←hv]; simp [Φ]
    unfold yielded;rw [oC,Option.bind_some,h2];cases v <;> rfl
   split at h
   ·rename_i b hb;rw [hb] at gh;have hv:=gh.bL;have gY:=hy _ hv;simp only at gY;by_cases jt:b=want
    ·have hw:dS o (yielded all a.tmps)=true:=by simp [dS,hg,gY,jt]
     rw [if_pos hw];exact run ⟨dW st.f d (.v (.bool want)),st.H⟩ rfl (CP hf hb jt) hI he (h.y jt)
    ·have p9:b=!want:=by cases b <;> cases want <;> first | rfl | exact absurd rfl jt
     have hw:¬dS o (yielded all a.tmps)=true:=by simp [dS,hg,gY,jt]
     rw [if_neg hw];exact ⟨fun _ _=>trivial,skip ⟨dW st.f d (.v (.bool !want)),st.H⟩ (CP hf hb p9) he (h.n p9)⟩
   ·rename_i vs hb;rw [hb] at gh;have hv:=gh.bL;have gY:=hy _ hv;simp only at gY
    have hw:¬dS o (yielded all a.tmps)=true:=by simp [dS,hg,gY]
    rw [if_neg hw];exact ⟨fun _ _=>trivial,skip st hf he h⟩
   ·cases h
  ·cases h
def akd {n:Nat} {all:Array Oper} {K:ae→Prop} {Q:Exit→Act→World→Prop} (hT:bM P T) (hn:C.n=n) (hQ:∀st a w,Rel C st a w→K st→Q .normal a w) :
  ∀(l:List Oper) (i:Nat) (st:ae) (a:Act) (w:World),(∀k,k<l.length→all[i+k]?=l[k]?)→Rel C st a w→iV P T n all l st K→wpOpsIn (fM C.ro) 0 P all Q (List.range' i l.length) a w:=by
 intro l;induction l with
 | nil=>intro i st a w _ hr h; exact hQ _ _ _ hr h
 | cons o os ih =>
  intro i st a w d_ hr h
  have ho:all[i]?=some o:=by simpa using d_ 0 (by simp)
  rw [List.length_cons,List.range'_succ,wpOpsIn_cons];refine uX (K:=fun st=>iV P T n all os st K) hT hn ho hr (fun st a w hr hk=>?_) h;exact ih (i+1) st a w (fun k hk=>by have:=d_ (k+1) (by simp; omega); rw [show i+1+k=i+(k+1) by omega]; simpa using this) hr hk
def Qz {n:Nat} (hT:bM P T) (hn:C.n=n):∀(c:Code) (st:ae) (Q:Exit→ae→Prop),xd P T n c st Q→GU P C c st Q:=by
 intro c;induction c with
 | skip=>intro st Q h a w hr; exact wpIn_skip ⟨st,hr,h⟩
 | label l=>intro st Q h a w hr; exact wpIn_label ⟨st,hr,h⟩
 | region id ops draw =>
  intro st Q h a w hr;cases draw with
  | true =>
   refine wpIn_mono ((show GX P n id ops st (Q .normal) from h).h C hn a w hr) ?_;rintro e a' w' ⟨aq,cK,hq⟩
   cases e <;> first | exact ⟨aq,cK,hq⟩ | exact hq.elim
  | false =>
   refine wpIn_region ?_;have:=akd (C:=C) (Q:=fun e a' w'=>∃aq,Rel C aq a' w'∧Q e aq) hT hn (fun st a w hr hk=>⟨st,hr,hk⟩) ops.toList 0 st a w (fun k hk=>by simp) hr h;simpa [List.range_eq_range'] using this
 | seq x y EN EO =>
  intro st Q h a w hr;refine wpIn_seq (wpIn_mono (EN st _ h a w hr) ?_);rintro e a' w' ⟨aq,cK,hq⟩
  cases e <;> first | exact EO aq Q hq a' w' cK | exact ⟨aq,cK,hq⟩
 | cond c x y EN EO =>
  intro st Q h a w hr;cases c with
  | tmp d =>
   obtain ⟨Φ,h⟩:=cond_prop h;split at h
   ·rename_i b hb;obtain ⟨F,β,hs,hd,hf,he⟩:=hr;have gh:=hf d;rw [hb] at gh;have hv:a.eval (.tmp d)=.bool b:=gh.bL;refine wpIn_cond_split hv (fun ht=>?_) fun ht=>?_
    ·exact EN _ _ (h.y ht) a w ⟨F,β,hs,hd,CP hf hb ht,he⟩
    ·exact EO _ _ (h.n (by simpa using ht)) a w ⟨F,β,hs,hd,CP hf hb ht,he⟩
   ·cases h
  | const v =>
   cases v <;> first | exact h.elim | skip
   rename_i b;cases b with
   | true=>exact wpIn_cond_true rfl (EN _ _ h a w hr)
   | false=>exact wpIn_cond_false rfl (EO _ _ h a w hr)
  | global g=>cases h
  | func g=>cases h
 | block id c ih =>
  intro st Q h a w hr;refine wpIn_block (wpIn_mono (ih st _ h a w hr) ?_);rintro e a' w' ⟨aq,cK,hq⟩;cases e with
  | exit i =>
   by_cases hi:i=id
   ·subst hi;simp only [iX,cond_true] at hq;simp only [Exit.inBlock,if_true];exact ⟨aq,cK,hq⟩
   ·have:aH i id=false:=by cases hb:aH i id; rfl; exact absurd (cR hb) hi
    simp only [this,cond_false] at hq;simp only [Exit.inBlock,if_neg hi];exact ⟨aq,cK,hq⟩
  | _=>exact ⟨aq,cK,hq⟩
 | loop c ih=>intro st Q h a w hr; exact (show Ru P n c st Q from h).h C hn a w hr
 | exit id=>intro st Q h a w hr; exact wpIn_exit ⟨st,hr,h⟩
 | ret=>intro st Q h a w hr; exact wpIn_ret ⟨st,hr,h⟩
 | scope c ih=>intro st Q h; cases h
 | goto l=>intro st Q h; cases h
 | refuse s=>intro st Q h; cases h
 | rangeFunc f ps x y EN EO=>intro st Q h; cases h
end
end
section
open Go.RowKit
variable [M:bK] [G:cL]
def B9 (T:TT):List ResultVar→ae→(List AV→Prop)→Prop
 | [],_,k=>k []
 | .tmp t::r,st,k=>B9 T r st fun vs=>k (st.f t::vs)
 | .cell t ty::r,st,k=>match st.f t with
  | .b id off=>B_ T ty (.b id off) st.H fun x=>B9 T r st fun vs=>k (x::vs)
  | _=>False
def qo (T:TT) (rs:List ResultVar) (st:ae) (k:AV→Prop):Prop :=
 B9 T rs st fun vs=>match vs with
  | [x]=>k x
  | vs=>k (.t vs)
def sA (T:TT) (rs:List ResultVar) (R:AV→ae→Prop):Exit→ae→Prop
 | .normal,st=>qo T rs st fun x=>R x st
 | .ret,st=>qo T rs st fun x=>R x st
 | _,_=>False
def kU (args:List AV):Nat→AV:=fun t=>args.getD t (.v undef)
def Fz (H:Hp) (x r:AV):Prop:=∀(w:World) (F:Nat→Prop) (β:Nat→Value) (u:Value),Inv w F β H→Rd w F β x u→bf w (fun b=>F b∨bD β H b) r u
section
variable {P:Program} {T:TT} {w:World} {F:Nat→Prop} {β:Nat→Value}
def OY (hT:bM P T) {tmps:Array Value}:∀(rs:List ResultVar) {st:ae} {k:List AV→Prop},Inv w F β st.H→(∀t,Rd w F β (st.f t) (tmps.getD t undef))→B9 T rs st k →
  ∃vs xs,(rs.mapM fun (r:ResultVar)=>(match r with
   | .tmp t=>pure (tmps.getD t undef)
   | .cell a t=>do loadVar t (←asAddr (tmps.getD a undef)):Sem Value)).run P w=.ok vs w∧k xs∧vs.length=xs.length∧∀i,i<xs.length→Rd w F β (xs.getD i .χ) (vs.getD i undef)
 | [],st,k,_,_,h=>⟨[],[],by simp,h,rfl,fun i hi=>by simp at hi⟩
 | .tmp t::r,st,k,hI,hf,h=>by
  obtain ⟨vs,xs,hr,hk,hl,hv⟩:=OY hT r hI hf h;refine ⟨tmps.getD t undef::vs,st.f t::xs,by rw [alq]; simp only [kz,Sem.run_pure,mh,hr],hk,by simp [hl],fun i hi=>?_⟩;cases i with
  | zero=>exact hf t
  | succ i=>exact hv i (by simpa using hi)
 | .cell t ty::r,st,k,hI,hf,h=>by
  simp only [B9] at h;split at h
  ·rename_i id off hid;have gh:=hf t;rw [hid] at gh;obtain ⟨v,x,a_,h,hx⟩:=W6 (P:=P) hT hI gh h;obtain ⟨eV,ah,hv⟩:=gh.mz
   have acH:(loadVar ty ⟨eV,off,none⟩).run P w=.ok v w:=by
    rw [hv] at a_;simpa [Instr.loadAt,GC] using a_
   obtain ⟨vs,xs,hr,hk,hl,jR⟩:=OY hT r hI hf h;refine ⟨v::vs,x::xs,?_,hk,by simp [hl],fun i hi=>?_⟩
   ·have e:(do loadVar ty (←asAddr (tmps.getD t undef)):Sem Value).run P w=.ok v w:=by
     rw [hv]; simpa [asAddr] using acH
    rw [alq,kz]
    erw [e]
    simp only [mh,kz,hr,Sem.run_pure]
   ·cases i with
    | zero=>exact hx
    | succ i=>exact jR i (by simpa using hi)
  ·cases h
def JL (hT:bM P T) {fn:Func} {tmps:Array Value} {st:ae} {k:AV→Prop} (hI:Inv w F β st.H) (hf:∀t,Rd w F β (st.f t) (tmps.getD t undef)) (h:qo T fn.results.toList st k) :
  ∃v x,(results fn tmps).run P w=.ok v w∧k x∧Rd w F β x v:=by
 obtain ⟨vs,xs,hr,hk,hl,hv⟩:=OY hT fn.results.toList hI hf h
 have hm:(fn.results.mapM fun (r:ResultVar)=>(match r with
   | .tmp t=>pure (tmps.getD t undef)
   | .cell a t=>do loadVar t (←asAddr (tmps.getD a undef)):Sem Value)).run P w=.ok vs.toArray w:=by
  rw [Array.mapM_eq_mapM_toList];simp only [Sem.run_map,hr,mh]
 have wz:(results fn tmps).run P w=.ok (if h:vs.toArray.size=1 then vs.toArray[0] else .tuple vs.toArray) w:=by
  unfold results;rw [kz];exact congrArg (fun z:Result (Array Value)=>z.andThen fun (a:Array Value) w'=>GO P (pure (if h:a.size=1 then a[0] else .tuple a)) w') hm
 split at hk
 ·rename_i x;obtain ⟨v,rfl⟩:=List.length_eq_one_iff.1 (by simpa using hl:vs.length=1);exact ⟨v,x,by rw [wz]; rfl,hk,by simpa using hv 0 (by simp)⟩
 ·rename_i aO
  have aZ:¬vs.toArray.size=1:=fun h1=>by
   have:xs.length=1:=by simpa [hl] using h1
   match xs,this with
   | [x],_=>exact aO x rfl
  refine ⟨.tuple vs.toArray,.t xs,by rw [wz,dif_neg aZ],hk,.t (by simpa using hl) fun i hi=>?_⟩;simpa [aY] using hv i hi
def N3 {args:List AV} {vs:Array Value} {n:Nat} (hs:vs.size=args.length) (hv:∀i,i<args.length→Rd w F β (args.getD i .χ) (vs.getD i undef)) :
  ∀t,Rd w F β (kU args t) ((vs++oc (n-vs.size) undef).getD t undef):=by
 intro t;unfold kU;by_cases ht:t<args.length
 ·have h1:=hv t ht
  have e1:args.getD t (.v undef)=args.getD t .χ:=by simp [aY,ht]
  have e2:(vs++oc (n-vs.size) undef).getD t undef=vs.getD t undef:=by
   simp [pP,hs,ht]
  rw [e1,e2]; exact h1
 ·have e1:args.getD t (.v undef)=.v undef:=by simp [aY,ht]
  have e2:(vs++oc (n-vs.size) undef).getD t undef=undef:=by
   simp only [lf,pP,hs,ht,if_false,Array.getElem?_replicate];split <;> rfl
  rw [e1,e2]; exact .i (.v (.inr rfl))
def Fz.dG {H:Hp} {x:AV} (h:kb x=true):Fz H x x:=fun _ _ _ _ _ hr=>(IM h hr).frame (fun _ _=>rfl) fun _ h=>.inl h
def Fz.v {H:Hp} {x:Value}:Fz H (.v x) (.v x):=Fz.dG rfl
def Fz.s {H:Hp} {x:List (List AV)}:Fz H (.s x) (.s x):=Fz.dG rfl
def Fz.nil {H:Hp}:Fz H (.v (.slice none 0 0)) (.s []):=fun _ _ _ _ _ hr=>by rw [hr.bL]; exact .s0
def Fz.o {H:Hp} {id E K:Nat} {rows:List (List AV)} (h:dI id H=some (.own E K rows)):Fz H (.o id) (.s rows):=fun _ _ _ _ hI hr=>VR hI (eX h) hr
inductive oj (H:Hp):List AV→List AV→Prop where
 | nil:oj H [] []
 | cons {x y:AV} {xs ys:List AV} (h:Fz H x y) (t:oj H xs ys):oj H (x::xs) (y::ys)
def oj.spec {H:Hp} {xs ys:List AV} (h:oj H xs ys):xs.length=ys.length∧∀i,i<xs.length→Fz H (xs.getD i .χ) (ys.getD i .χ):=by
 induction h with
 | nil=>exact ⟨rfl,fun i hi=>by simp at hi⟩
 | cons h t ih =>
  refine ⟨by simp [ih.1],fun i hi=>?_⟩;cases i with
  | zero=>simpa using h
  | succ i=>simpa using ih.2 i (by simpa using hi)
def Fz.a {H:Hp} {xs ys:List AV} (h:oj H xs ys):Fz H (.a xs) (.a ys):=fun _ _ _ _ hI hr=>by
 obtain ⟨us,rfl,hs,h1,hu⟩:=hr.qM;obtain ⟨hl,hz⟩:=h.spec;exact .a (by omega) (fun i hi=>h1 i (by omega)) fun i hi=>hz i (by omega) _ _ _ _ hI (hu i (by omega))
def Fz.t {H:Hp} {xs ys:List AV} (h:oj H xs ys):Fz H (.t xs) (.t ys):=fun _ _ _ _ hI hr=>by
 obtain ⟨us,rfl,hs,hu⟩:=hr.Ct;obtain ⟨hl,hz⟩:=h.spec;exact .t (by omega) fun i hi=>hz i (by omega) _ _ _ _ hI (hu i (by omega))
def Inv.nil {H:Hp} (h:Inv w F β H):Inv w F β [] :=
 ⟨h.cC,fun _ _ hm=>(eH hm).elim,qG,fun _ ⟨_,_,hm,_⟩=>(eH hm).elim,fun _ _ _ _ _ hm=>(eH hm).elim,h.fh⟩
def Le (x y:AV):Prop:=∀(w:World) (F:Nat→Prop) (β:Nat→Value) (u:Value),Rd w F β x u→Rd w F β y u
def Le.refl (x:AV):Le x x:=fun _ _ _ _ h=>h
def Le.nil:Le (.v (.slice none 0 0)) (.s []):=fun _ _ _ _ h=>by rw [h.bL]; exact .i .s0
inductive iL:List AV→List AV→Prop where
 | nil:iL [] []
 | cons {x y:AV} {xs ys:List AV} (h:Le x y) (t:iL xs ys):iL (x::xs) (y::ys)
def iL.refl:∀(xs:List AV),iL xs xs
 | []=>.nil
 | x::xs=>.cons (Le.refl x) (iL.refl xs)
def iL.spec {xs ys:List AV} (h:iL xs ys):xs.length=ys.length∧∀i,i<xs.length→Le (xs.getD i .χ) (ys.getD i .χ):=by
 induction h with
 | nil=>exact ⟨rfl,fun i hi=>by simp at hi⟩
 | cons h t ih =>
  refine ⟨by simp [ih.1],fun i hi=>?_⟩;cases i with
  | zero=>simpa using h
  | succ i=>simpa using ih.2 i (by simpa using hi)
def Le.a {xs ys:List AV} (h:iL xs ys):Le (.a xs) (.a ys):=fun _ _ _ _ hr=>by
 obtain ⟨us,rfl,hs,h1,hu⟩:=hr.qM;obtain ⟨hl,hz⟩:=h.spec;exact .a (by omega) (fun i hi=>h1 i (by omega)) fun i hi=>hz i (by omega) _ _ _ _ (hu i (by omega))
def xF.fk {g:FuncId} {xs ys:List AV} {H:Hp} {r:AV} (h:Pure P g ys r) (hle:iL xs ys):xF P g xs H r:=by
 obtain ⟨hl,hz⟩:=hle.spec;exact ⟨h.1,fun w F β vs hI hs hv=>h.2 w F β vs hI.nil (by omega) fun i hi=>hz i (by omega) _ _ _ _ (hv i (by omega))⟩
def af.pure {g:FuncId} {xs:List AV} {st:ae} {r:AV} {k:AV→ae→Prop} (h:xF P g xs st.H r) (hk:k r st):af P g xs st k:=by
 refine ⟨h.1,fun w F β vs hI hs hv=>(h.2 w F β vs hI hs hv).mono ?_⟩;rintro e w' ⟨v,rfl,hb,hr⟩;exact ⟨v,rfl,r,st,_,_,hk,.i hr,vQ hI hb⟩
def af.call {g:FuncId} {xs ys:List AV} {st:ae} {r:AV} {k:AV→ae→Prop} (h:Pure P g ys r) (hle:iL xs ys) (hk:k r st):af P g xs st k:=.pure (.fk h hle) hk
def uP:AV→Bool
 | .v _=>true
 | _=>false
def OQ:AV→Bool
 | .a cs | .t cs=>cs.all uP
 | x=>uP x
def Jw {w':World} {F':Nat→Prop} {x:AV} {u:Value} (hx:uP x=true) (h:bf w F x u):bf w' F' x u:=by
 cases x <;> first | (cases hx; done) | (cases h; exact .v (by assumption))
def afV {w':World} {F':Nat→Prop} {x:AV} {u:Value} (hx:OQ x=true) (h:bf w F x u):bf w' F' x u:=by
 have get:∀(l:List AV) (i:Nat),l.all uP=true→i<l.length→uP (l.getD i .χ)=true:=fun l i hl hi =>
  ej.1 hl (l.getD i .χ) (by rw [fU,bT hi]; exact eG _)
 cases x with
 | a cs=>cases h with | a hs h1 h=>exact .a hs h1 fun i hi=>Jw (get cs i hx hi) (h i hi)
 | t cs=>cases h with | t hs h=>exact .t hs fun i hi=>Jw (get cs i hx hi) (h i hi)
 | _=>exact Jw hx h
def xF.borrow {g:FuncId} {xs ys:List AV} {H:Hp} {r:AV} (h:Pure P g ys r) (hz:oj H xs ys) (hr:OQ r=true):xF P g xs H r:=by
 obtain ⟨hl,hz⟩:=hz.spec;refine ⟨h.1,fun w F β vs hI hs hv=>?_⟩;have lV:Inv w (fun b=>F b∨bD β H b) β [] :=
  ⟨fun b hb=>hb.elim (hI.cC b) hI.fI,fun _ _ hm=>(eH hm).elim,qG,fun _ ⟨_,_,hm,_⟩=>(eH hm).elim,fun _ _ _ _ _ hm=>(eH hm).elim,hI.fh.more fun _ h=>.inl h⟩
 refine (h.2 w _ β vs lV (by omega) fun i hi=>.i (hz i (by omega) _ _ _ _ hI (hv i (by omega)))).mono ?_;rintro e w' ⟨v,rfl,hb,hx⟩;exact ⟨v,rfl,hb,afV hr hx⟩
def af.borrow {g:FuncId} {xs ys:List AV} {st:ae} {r:AV} {k:AV→ae→Prop} (h:Pure P g ys r) (hz:oj st.H xs ys) (hr:OQ r=true) (hk:k r st):af P g xs st k:=.pure (.borrow h hz hr) hk
end
end
end Go.Cat
