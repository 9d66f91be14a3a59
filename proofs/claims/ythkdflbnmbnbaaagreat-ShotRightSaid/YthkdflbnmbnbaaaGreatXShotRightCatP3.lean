/- The logic that the walks are in, piece P3. No condition. -/
import Derived.Test.YthkdflbnmbnbaaaGreatXShotRightCatP2
import Derived.Deep.Upon
import Derived.OrdersIn
import Derived.RangeFuncIn
import Derived.RangeFuncLeaves
import Derived.RangeFuncRecord
set_option linter.all false
namespace Go.Cat
open Go.RowKit
variable [M:Mono]
def setC (id:Nat) (c:Chunk):Hp→Hp
 | []=>[]
 | (i,c')::r=>bif Nat.beq i id then (i,c)::setC id c r else (i,c')::setC id c r
def bindSt (st:ASt) (d:Nat) (c:Chunk):ASt:=⟨fun t=>er 2 d (st.f t),(d,c)::erH d st.H⟩
def frC (id:Nat) (rows:List (List AV)):Chunk→Chunk
 | .box cells=>.box (cells.map (sb (.s rows) 1 id))
 | .own E K r=>.own E K r
 | .mp ag r=>.mp ag r
 | .lp l e R L=>.lp l e R (L.map fun p=>(p.1,sb (.s rows) 2 id p.2))
 | .si s pos=>.si s pos
def frH (id:Nat) (rows:List (List AV)):Hp→Hp
 | []=>[]
 | (i,c)::r=>bif Nat.beq i id then frH id rows r else (i,frC id rows c)::frH id rows r
def frSt (id:Nat) (rows:List (List AV)) (st:ASt):ASt:=⟨fun t=>sb (.s rows) 2 id (st.f t),frH id rows st.H⟩
def eConv (T:TT) (s t id:Nat) (st:ASt) (k:AV→ASt→Prop):Prop :=
 match T s with
 | some i=>match i.kind with
  | .slice e=>match T e with
   | some j=>match j.kind with
    | .int .u8=>bif Nat.beq s t then
      match findC id st.H with
      | some (.own _ _ rows)=>rows≠[]∧k (.s rows) (frSt id rows st)
      | _=>False
     else False
    | _=>False
   | none=>False
  | _=>False
 | none=>False
def eAlloc (T:TT) (t d:Nat) (st:ASt) (k:AV→ASt→Prop):Prop :=
 match T t with
 | some i=>bif okCells (ofV i.zero) then k (.b d 0) (bindSt st d (.box (cellsL (ofV i.zero)))) else False
 | none=>False
def eBox (x:AV) (d:Nat) (st:ASt) (k:AV→ASt→Prop):Prop :=
 bif okCells x then k (.b d 0) (bindSt st d (.box ((cellsL x).map (er 1 d)))) else False
def stCells (n:Nat) (cells:List AV) (off:Nat) (y:AV) (k:List AV→Prop):Prop :=
 bif okCells y&&(Nat.beq (cellsL y).length n&&Nat.ble (off+n) cells.length) then ∃C,cells.take off++(cellsL y++cells.drop (off+n))=C∧k C else False
def eStore (T:TT) (t:Nat) (x y:AV) (st:ASt) (k:AV→ASt→Prop):Prop :=
 match T t with
 | some i=>match x with
  | .b id off=>match findC id st.H with
   | some (.box cells)=>stCells i.cells cells off y fun cells'=>k (.v undef) ⟨st.f,setC id (.box cells') st.H⟩
   | _=>False
  | .e id K m j=>match findC id st.H with
   | some (.own E K' rows)=>bif (cellsL y).all imm0 then ∃row,rows[m]?=some row∧K=K'∧stCells i.cells row j y fun row'=>∃R,rows.set m row'=R∧k (.v undef) ⟨st.f,setC id (.own E K' R) st.H⟩ else False
   | _=>False
  | _=>False
 | none=>False
def RowsLen (rows:List (List AV)) (n:Nat):Prop:=∀r,r∈rows→r.length=n
def srcRows (x:AV) (not:Nat) (H:Hp) (k:List (List AV)→Prop):Prop :=
 match x with
 | .s rows=>k rows
 | .v (.slice none 0 0)=>k []
 | .o id=>bif Nat.beq id not then False else match findC id H with
  | some (.own _ _ rows)=>k rows
  | _=>False
 | _=>False
def appSrc (T:TT) (t t' e:Nat) (x:AV) (not:Nat) (H:Hp) (k:List (List AV)→Prop):Prop :=
 bif Nat.beq t t' then srcRows x not H k else
 match T t',T e,x with
 | some i',some je,.v (.string s)=>match i'.kind,je.kind with
  | .str,.int .u8=>bif Nat.beq je.cells 1 then k (s.data.toList.map encB) else False
  | _,_=>False
 | _,_,_=>False
def eAppend (T:TT) (t t':Nat) (s x:AV) (d:Nat) (st:ASt) (k:AV→ASt→Prop):Prop :=
 match T t with
 | some i=>match i.kind with
  | .slice e=>match T e with
   | some j =>
    bif Nat.beq j.bytes 0||(Nat.beq j.cells 0||!(Nat.beq j.zero.cells.size j.cells)) then False else
    match s with
    | .v (.slice none 0 0)=>appSrc T t t' e x d st.H fun rows'=>RowsLen rows' j.cells∧rows'.length * j.bytes≤140737488355328∧∃R,rows'=R∧k (.o d) (bindSt st d (.own e j.cells R))
    | .o id=>match findC id st.H with
     | some (.own E K rows)=>bif (Nat.beq E e&&Nat.beq K j.cells)&&Nat.blt id 1000 then
       appSrc T t t' e x id st.H fun rows'=>RowsLen rows' j.cells∧(rows.length+rows'.length) * j.bytes≤140737488355328∧∃R,rows++rows'=R∧k (.o id) (bindSt st id (.own e j.cells R))
      else False
     | _=>False
    | _=>False
   | none=>False
  | _=>False
 | none=>False
def eAppendZ (T:TT) (t t':Nat) (s x:AV) (d:Nat) (st:ASt) (k:AV→ASt→Prop):Prop :=
 match T t,T t',s,x with
 | some i,some i',.v (.slice none 0 0),.v (.int _ nx)=>match i.kind,i'.kind with
  | .slice e,.int _=>match T e with
   | some j=>bif Nat.beq j.bytes 0||(Nat.beq j.cells 0||!(okCells (ofV j.zero)&&(Nat.beq (cellsL (ofV j.zero)).length j.cells&&(cellsL (ofV j.zero)).all imm0))) then False else
     ∃n:Nat,nx=(n:Int)∧n * j.bytes≤140737488355328∧∃R,List.replicate n ((cellsL (ofV j.zero)).map nz)=R∧k (.o d) (bindSt st d (.own e j.cells R))
   | none=>False
  | _,_=>False
 | _,_,_,_=>False
def eSliceH (T:TT) (t:Nat) (x:AV) (hi:Option AV) (st:ASt) (k:AV→ASt→Prop):Prop :=
 match T t,x,hi with
 | some i,.o id,some (.v (.int _ nh))=>match i.kind with
  | .slice e=>match T e with
   | some j=>match findC id st.H with
    | some (.own E K rows)=>bif Nat.beq K j.cells&&Nat.blt id 1000 then ∃h:Nat,nh=(h:Int)∧h≤rows.length∧∃R,rows.take h=R∧k (.o id) (bindSt st id (.own E K R)) else False
    | _=>False
   | none=>False
  | _=>False
 | _,_,_=>False
def eSlice0 (T:TT) (t:Nat) (x:AV) (lo hi mx:Option AV) (d:Nat) (st:ASt) (k:AV→ASt→Prop):Prop :=
 match T t with
 | some i=>match i.kind,lo,hi,mx with
  | .slice e,none,some (.v (.int _ 0)),some (.v (.int _ 0))=>match T e with
   | some j=>match x with
    | .s _=>k (.o d) (bindSt st d (.own e j.cells []))
    | .o _=>k (.o d) (bindSt st d (.own e j.cells []))
    | .v (.slice none 0 0)=>k (.o d) (bindSt st d (.own e j.cells []))
    | _=>False
   | none=>False
  | _,_,_,_=>False
 | none=>False
def eBuildS (T:TT) (t n:Nat) (parts:List (Nat×AV)) (d:Nat) (st:ASt) (k:AV→ASt→Prop):Prop :=
 sBuildS T t n parts fun rows e size=>bif rows.all (fun r=>r.all imm0) then k (.o d) (bindSt st d (.own e size (rows.map fun r=>r.map nz))) else False
def eMake (T:TT) (t:Nat) (l c:AV) (d:Nat) (st:ASt) (k:AV→ASt→Prop):Prop :=
 match T t,l,c with
 | some i,.v (.int _ nl),.v (.int _ nc)=>match i.kind with
  | .slice e=>match T e with
   | some j=>bif okCells (ofV j.zero)&&(Nat.beq (cellsL (ofV j.zero)).length j.cells&&(cellsL (ofV j.zero)).all imm0) then
     ∃n m:Nat,nl=(n:Int)∧nc=(m:Int)∧n≤m∧m≤140737488355328∧m * j.bytes≤140737488355328∧∃R,List.replicate n ((cellsL (ofV j.zero)).map nz)=R∧k (.o d) (bindSt st d (.own e j.cells R))
    else False
   | none=>False
  | _=>False
 | _,_,_=>False
inductive Tg where
 | f (g:FuncId)
 | y (l:Nat)
instance : Coe FuncId Tg := ⟨.f⟩
instance {n : Nat} : OfNat Tg n := ⟨.f n⟩
abbrev fen (ro:Option Nat):Fence:={ Fence.wide with round:=ro }
def Tg.ent (P:Program):Tg→Prop
 | .f g=>Entered P g
 | .y _=>True
def Tg.goes (P:Program):Tg→Array Value→World→(Ending→World→Prop)→Prop
 | .f g,vs,w,R=>Calls P g vs w R
 | .y l,vs,w,R=>∃fn tmps assign body,(Instr.yield l vs).run P w=.ok (.round l fn tmps assign body) w∧RoundIn Fence.wide 0 P l fn tmps assign body w R
theorem Tg.goes.mono {P:Program} {g:Tg} {vs:Array Value} {w:World} {R R':Ending→World→Prop} (h:g.goes P vs w R) (hr:∀e w',R e w'→R' e w'):g.goes P vs w R':=by
 cases g with
 | f g=>exact Calls.mono h hr
 | y l =>
  obtain ⟨fn,tmps,assign,body,h1,h2⟩:=h
  exact ⟨fn,tmps,assign,body,h1,h2.mono hr⟩
def CallOk (P:Program) (g:Tg) (args:List AV) (st:ASt) (k:AV→ASt→Prop):Prop :=
 g.ent P∧∀(w:World) (F:Nat→Prop) (β:Nat→Value) (vs:Array Value),Inv w F β st.H→vs.size=args.length →
  (∀i,i < args.length→Rd w F β (args.getD i .junk) (vs.getD i undef)) →
  g.goes P vs w fun e w'=>∃v,e=.returned v∧∃r st' F' β',k r st'∧Rd w' F' β' r v∧Ext w F β st w' F' β' st'
def eCall (P:Program) (f:AV) (xs:List AV) (st:ASt) (k:AV→ASt→Prop):Prop :=
 match f with
 | .c (.func g) fs cs=>CallOk P (.f g) (fs++(xs++cs)) st k
 | .c (.yield l) [] []=>CallOk P (.y l) xs st k
 | _=>False
def eMakeMap (T:TT) (t d:Nat) (st:ASt) (k:AV→ASt→Prop):Prop :=
 match T t with
 | some ti=>match ti.kind with
  | .map kt e=>match T kt,T e with
   | some ik,some ie=>match ik.kind with
    | .int .i64=>k (.m d) (bindSt st d (.mp (aggK ie.kind) []))
    | _=>False
   | _,_=>False
  | _=>False
 | none=>False
def eMapUpdate (T:TT) (t:Nat) (m i y:AV) (st:ASt) (k:AV→ASt→Prop):Prop :=
 match T t with
 | some ti=>match ti.kind with
  | .map kt e=>match T kt with
   | some ik=>match ik.kind,m,i with
    | .int .i64,.m id,.v (.int .i64 n)=>match findC id st.H with
     | some (.mp ag rows)=>match mval ag y with
      | some yc=>InI64 n∧rows.length < 140737488355328∧∃R,mset n yc rows=R∧k (.v undef) ⟨st.f,setC id (.mp ag R) st.H⟩
      | none=>False
     | _=>False
    | _,_,_=>False
   | none=>False
  | _=>False
 | none=>False
def eClear (T:TT) (t:Nat) (x:AV) (st:ASt) (k:AV→ASt→Prop):Prop :=
 match T t with
 | some i=>match i.kind with
  | .slice e=>match T e with
   | some j=>match x with
    | .w id Kw d=>match findC id st.H with
     | some (.own E K rows)=>bif (Nat.beq K j.cells&&Nat.beq Kw K)&&(okCells (ofV j.zero)&&(Nat.beq (cellsL (ofV j.zero)).length j.cells&&(cellsL (ofV j.zero)).all imm0)) then
       ∃R,rows.take d++List.replicate (rows.length - d) ((cellsL (ofV j.zero)).map nz)=R∧k (.t []) ⟨st.f,setC id (.own E K R) st.H⟩
      else False
     | _=>False
    | _=>False
   | none=>False
  | _=>False
 | none=>False
def eRange (T:TT) (t:Nat) (x:AV) (d:Nat) (st:ASt) (k:AV→ASt→Prop):Prop :=
 match T t,x with
 | some i,.v (.string s)=>match i.kind with
  | .str=>k (.b d 0) (bindSt st d (.si s 0))
  | _=>False
 | _,_=>False
def eNext (x:AV) (isS:Bool) (st:ASt) (k:AV→ASt→Prop):Prop :=
 match x,isS with
 | .b id 0,true=>match findC id st.H with
  | some (.si s pos)=>(pos < s.size→k (.t [.v (.bool true),.v (.int .i64 (pos:Int)),.v (.int .i32 ((Utf8.decode s pos).1:Int))]) ⟨st.f,setC id (.si s (pos+(Utf8.decode s pos).2)) st.H⟩) ∧
    (¬pos < s.size→k (.t [.v (.bool false)]) st)
  | _=>False
 | _,_=>False
def step0 (P:Program) (T:TT) (o:Oper) (st:ASt) (k:AV→ASt→Prop):Prop :=
 let ρ:=ev st.f
 let d:=o.dst.getD 0
 match o.op with
 | .alloc t=>eAlloc T t d st k
 | .box _ x=>eBox (ρ x) d st k
 | .store t x y=>eStore T t (ρ x) (ρ y) st k
 | .makeMap t none=>eMakeMap T t d st k
 | .range t x=>eRange T t (ρ x) d st k
 | .next x s=>eNext (ρ x) s st k
 | .mapUpdate t m i y=>eMapUpdate T t (ρ m) (ρ i) (ρ y) st k
 | .buildSlice t n parts=>stepS P T o ρ st.H (fun r=>k r st)∨eBuildS T t n (parts.toList.map fun q=>(q.1,ρ q.2)) d st k
 | .slice t x none hi none=>match ρ x with
  | .o _=>eSliceH T t (ρ x) (hi.map ρ) st k
  | _=>stepS P T o ρ st.H fun r=>k r st
 | .slice t x lo hi (some mx)=>eSlice0 T t (ρ x) (lo.map ρ) (hi.map ρ) (some (ρ mx)) d st k
 | .makeSlice t l c=>stepS P T o ρ st.H (fun r=>k r st)∨eMake T t (ρ l) (ρ c) d st k
 | .convert s t x=>match ρ x with
  | .o id=>eConv T s t id st k
  | _=>stepS P T o ρ st.H fun r=>k r st
 | .call c=>match c.callee with
  | .builtin .append=>match c.argTypes.toList,c.args.toList.map ρ with
   | [t,t'],[s,x]=>bif Nat.beq t t' then eAppend T t t' s x d st k else match x with
    | .v (.string _)=>eAppend T t t' s x d st k
    | _=>eAppendZ T t t' s x d st k
   | _,_=>False
  | .builtin .clear=>match c.argTypes.toList,c.args.toList.map ρ with
   | [t],[x]=>eClear T t x st k
   | _,_=>False
  | .value f=>eCall P (ρ f) (c.args.toList.map ρ) st k
  | _=>stepS P T o ρ st.H fun r=>k r st
 | _=>stepS P T o ρ st.H fun r=>k r st
def step (P:Program) (T:TT) (o:Oper) (st:ASt) (k:AV→ASt→Prop):Prop:=bif Nat.blt (o.dst.getD 0) 1000 then step0 P T o st k else False
end Go.Cat
set_option linter.all false
namespace Go.Cat
open Go.RowKit
variable [M:Mono]
section
variable {P:Program} {T:TT} {w:World} {F:Nat→Prop} {β:Nat→Value} {st:ASt} {k:AV→ASt→Prop}
def EPost (w:World) (F:Nat→Prop) (β:Nat→Value) (st:ASt) (k:AV→ASt→Prop) (v:Value) (w':World):Prop :=
 ∃r st' F' β',k r st'∧Rd w' F' β' r v∧Ext w F β st w' F' β' st'
def EOut (P:Program) (s:Sem Next) (w:World) (F:Nat→Prop) (β:Nat→Value) (st:ASt) (k:AV→ASt→Prop):Prop :=
 (∃v w',s.run P w=.ok (.value v) w'∧EPost w F β st k v w')∨(∃w',s.run P w=.ok .skip w'∧EPost w F β st k undef w') ∨
 (∃g vs,s.run P w=.ok (.enter g vs) w∧Calls P g vs w fun e w'=>∃v,e=.returned v∧EPost w F β st k v w') ∨
 (∃l fn tmps assign body,s.run P w=.ok (.round l fn tmps assign body) w∧RoundIn Fence.wide 0 P l fn tmps assign body w fun e w'=>∃v,e=.returned v∧EPost w F β st k v w')
theorem quiet_out {s:Sem Next} (hI:Inv w F β st.H) (h:QOut P s w fun v w'=>∃r,k r st∧Rd w' (FNew F w w') β r v):EOut P s w F β st k:=by
 rcases h with ⟨v,w',hr,hb,r,hk,hv⟩ | ⟨g,vs,hr,hc⟩
 ·exact .inl ⟨v,w',hr,r,st,_,_,hk,hv,ext_quiet hI hb⟩
 ·refine .inr (.inr (.inl ⟨g,vs,hr,hc.mono ?_⟩))
  rintro e w' ⟨v,rfl,hb,r,hk,hv⟩
  exact ⟨v,rfl,r,st,_,_,hk,hv,ext_quiet hI hb⟩
theorem EOut.value {s:Sem Value} {v:Value} {w':World} (hr:s.run P w=.ok v w') (h:EPost w F β st k v w'):EOut P (do pure (.value (←s))) w F β st k :=
 .inl ⟨v,w',by simp [hr],h⟩
theorem EOut.skip {s:Sem Unit} {w':World} (hr:s.run P w=.ok () w') (h:EPost w F β st k undef w'):EOut P (do s; pure .skip) w F β st k :=
 .inr (.inl ⟨w',by simp [hr],h⟩)
theorem box_out {d:Nat} {cells:List AV} {us:Array Value} {e:TypeId} (hd:d < 1000) (hI:Inv w F β st.H) (hs:us.size=cells.length) (h1:∀i,i < cells.length→(us.getD i undef).oneCell'=true)
  (hr:∀i,i < cells.length→Rd (w.alloc (.cells us e)) F (fun i=>if i=d then .pointer (some ⟨w.heap.size,0,none⟩) else β i) (cells.getD i .junk) (us.getD i undef)) (hk:k (.b d 0) (bindSt st d (.box cells))) :
  EPost w F β st k (.pointer (some ⟨w.heap.size,0,none⟩)) (w.alloc (.cells us e)):=by
 refine ⟨_,_,F,_,hk,.b (by simp),ext_bind (v:=.pointer (some ⟨w.heap.size,0,none⟩)) hd hI rfl ⟨rfl,fun _=>(by first | exact Nat.le_refl _ | exact Nat.le_succ _)⟩ rfl (by simp) (fun b hb _=>heap_alloc_old w _ hb) (fun i c b _ hm hb=>heap_alloc_old w _ (hI.owned_lt ⟨i,c,hm,hb⟩)) (fun b hb=>?_) ?_⟩
 ·simp [blkOf] at hb; left; omega
 ·exact ⟨w.heap.size,us,e,by simp,heap_alloc_new w _,hs,h1,hr⟩
theorem eAlloc_sound {t d:Nat} (hd:d < 1000) (hT:TOk P T) (hI:Inv w F β st.H) (h:eAlloc T t d st k):EOut P (do pure (.value (←Instr.alloc t true (.tuple #[])))) w F β st k:=by
 unfold eAlloc at h
 split at h
 ·rename_i i hi
  obtain ⟨hok,hk⟩:=cond_prop h
  have hz:=(hT _ _ hi).run_zero w
  have hrun:(Instr.alloc t true (.tuple #[])).run P w=.ok (.pointer (some ⟨w.heap.size,0,none⟩)) (w.alloc (.cells i.zero.cells t)):=by
   unfold Instr.alloc
   simp [hz,newVar,newRow]
  refine EOut.value hrun ?_
  have hr:=fun β':Nat→Value=>cells_rd (ofV_rd (w.alloc (.cells i.zero.cells t)) F i.zero β') hok
  exact box_out hd hI (hr β).1 (fun j hj=>((hr β).2 j hj).1) (fun j hj=>((hr _).2 j hj).2) hk
 ·exact h.elim
theorem eBox_sound {x:AV} {vx:Value} {d t:Nat} (hd:d < 1000) (hI:Inv w F β st.H) (hx:Rd w F β x vx) (h:eBox x d st k):EOut P (do pure (.value (←Instr.box t vx))) w F β st k:=by
 unfold eBox at h
 obtain ⟨hok,hk⟩:=cond_prop h
 have hrun:(Instr.box t vx).run P w=.ok (.pointer (some ⟨w.heap.size,0,none⟩)) (w.alloc (.cells vx.cells t)):=by simp [Instr.box,newVar,newRow]
 obtain ⟨hs,hr⟩:=cells_rd hx hok
 refine EOut.value hrun (box_out hd hI (by simpa using hs) (fun j hj=>(hr j (by simpa using hj)).1) (fun j hj=>?_) hk)
 have hj:j < (cellsL x).length:=by simpa using hj
 have e:((cellsL x).map (er 1 d)).getD j .junk=er 1 d ((cellsL x).getD j .junk):=by simp [List.getD,hj]
 rw [e]
 exact er_rd (fun i hi=>by simp [hi]) 1 ((hr j hj).2.frame (Below.agree (below_alloc w _) hI.fsize) fun _ h=>h)
theorem setC_mem {id:Nat} {c:Chunk}:∀{H:Hp} {i:Nat} {c':Chunk},(i,c')∈setC id c H→(i=id∧c'=c∧∃c'',(i,c'')∈H)∨(i≠id∧(i,c')∈H)
 | [],_,_,h=>by cases h
 | (j,c0)::r,i,c',h=>by
  simp only [setC] at h
  cases hb:Nat.beq j id with
  | true =>
   have hj:=Nat.eq_of_beq_eq_true hb
   rw [hb] at h
   simp only [cond_true,List.mem_cons,Prod.mk.injEq] at h
   rcases h with ⟨rfl,rfl⟩ | h
   ·exact .inl ⟨hj,rfl,c0,by simp⟩
   ·rcases setC_mem (H:=r) h with ⟨h1,h2,c2,h3⟩ | ⟨h1,h2⟩
    ·exact .inl ⟨h1,h2,c2,List.mem_cons_of_mem _ h3⟩
    ·exact .inr ⟨h1,List.mem_cons_of_mem _ h2⟩
  | false =>
   have hj:j≠id:=fun e=>by rw [e,Nat.beq_refl] at hb; cases hb
   rw [hb] at h
   simp only [cond_false,List.mem_cons,Prod.mk.injEq] at h
   rcases h with ⟨rfl,rfl⟩ | h
   ·exact .inr ⟨hj,by simp⟩
   ·rcases setC_mem (H:=r) h with ⟨h1,h2,c2,h3⟩ | ⟨h1,h2⟩
    ·exact .inl ⟨h1,h2,c2,List.mem_cons_of_mem _ h3⟩
    ·exact .inr ⟨h1,List.mem_cons_of_mem _ h2⟩
theorem setC_keys {id:Nat} {c:Chunk}:∀(H:Hp),(setC id c H).map (·.1)=H.map (·.1)
 | []=>rfl
 | (j,c0)::r=>by
  simp only [setC]
  cases hb:Nat.beq j id <;> simp [setC_keys r]
theorem ext_set {id:Nat} {c c0:Chunk} {w':World} (hI:Inv w F β st.H) (hm:(id,c0)∈st.H) (hos:w'.os=w.os) (htape:SameT w w') (hout:w'.output=w.output) (hsize:w'.heap.size=w.heap.size)
  (hblock:∀b,blkOf (β id)≠some b→w'.heap[b]?=w.heap[b]?) (hc:c.holds w' F β id):Ext w F β st w' F β ⟨st.f,setC id c st.H⟩:=by
 have hown:∀b,Owned β (setC id c st.H) b→Owned β st.H b:=by
  rintro b ⟨i,c',h,hb⟩
  rcases setC_mem h with ⟨rfl,_,c2,h2⟩ | ⟨_,h2⟩
  ·exact ⟨i,c2,h2,hb⟩
  ·exact ⟨i,c',h2,hb⟩
 have ha:Agree F w w':=fun b hb=>hblock b fun hbk=>hI.apart b ⟨id,c0,hm,hbk⟩ hb
 refine ⟨hos,htape,hout,by omega,fun b _ ho=>hblock b fun hbk=>ho ⟨id,c0,hm,hbk⟩,fun _ h=>h,fun _ h=>.inl h,fun b h=>.inr (hown b h),fun t u h=>h.frame ha fun _ h=>h,?_,fun _ _=>rfl⟩
 refine ⟨fun b hb=>by have:=hI.fsize b hb; omega,fun i c' h=>?_,by rw [setC_keys]; exact hI.keys,fun b ho=>hI.apart b (hown b ho),fun i c1 i' c1' b h h' hb hb'=>?_⟩
 ·rcases setC_mem h with ⟨rfl,rfl,_⟩ | ⟨hi,h2⟩
  ·exact hc
  ·exact holds_frame ha (fun _ h=>h) (fun b hb=>hblock b fun hbk=>hi (hI.disj i c' id c0 b h2 hm hb hbk)) (hI.holds i c' h2)
 ·have hx:∃c,(i,c)∈st.H:=by rcases setC_mem h with ⟨_,_,c2,h2⟩ | ⟨_,h2⟩ <;> exact ⟨_,h2⟩
  have hy:∃c,(i',c)∈st.H:=by rcases setC_mem h' with ⟨_,_,c2,h2⟩ | ⟨_,h2⟩ <;> exact ⟨_,h2⟩
  obtain ⟨c2,h2⟩:=hx
  obtain ⟨c3,h3⟩:=hy
  exact hI.disj i c2 i' c3 b h2 h3 hb hb'
theorem stCells_len {n off:Nat} {cells:List AV} {y:AV} {K:List AV→Prop} (h:stCells n cells off y K) :
  okCells y=true∧(cellsL y).length=n∧off+n≤cells.length∧K (cells.take off++(cellsL y++cells.drop (off+n))):=by
 unfold stCells at h
 obtain ⟨hb,hk⟩:=cond_prop h
 simp only [Bool.and_eq_true] at hb
 obtain ⟨C,rfl,hk⟩:=hk
 exact ⟨hb.1,Nat.eq_of_beq_eq_true hb.2.1,by simpa using hb.2.2,hk⟩
theorem take_mid_drop {α:Type} (l m:List α) (off n:Nat) (hm:m.length=n) (hl:off+n≤l.length) (d:α) (j:Nat) :
  (l.take off++(m++l.drop (off+n))).getD j d=if j < off then l.getD j d else if j < off+n then m.getD (j - off) d else l.getD j d:=by
 simp only [List.getD,List.getElem?_append,List.length_take,hm,List.getElem?_take,List.getElem?_drop]
 by_cases h1:j < off
 ·simp [h1,show j < min off l.length by omega]
 ·by_cases h2:j < off+n
  ·simp [h1,h2,show min off l.length=off by omega,show j - off < n by omega]
  ·simp [h1,h2,show min off l.length=off by omega,show ¬j - off < n by omega,show off+n+(j - off - n)=j by omega]
theorem run_storeAt {t b off:Nat} {i:TI} {v:Value} {cur:Array Value} {e:TypeId} (hi:TIOk P t i) (hh:w.heap[b]?=some (.cells cur e (0,0))) (hv:v.cells.size=i.cells) (hfit:off+i.cells≤cur.size)
  (h1:∀j,j < v.cells.size→(v.cells.getD j undef).oneCell'=true) :
  (Instr.storeAt t (.pointer (some ⟨b,off,none⟩)) v).run P w=.ok () (w.setRow b (cur.toList.take off++v.cells.toList++cur.toList.drop (off+v.cells.toList.length)).toArray):=by
 have hsz:=hi.run_size w
 have hst:=run_storeCells_at P b off e v.cells.toList 0 cur w hh (by simp; omega) (fun x hx=>by
  obtain ⟨j,hj,rfl⟩:=List.mem_iff_getElem.1 hx
  have hj:j < v.cells.size:=by simpa using hj
  have:=h1 j hj
  simpa [hj] using this)
 simp only [Nat.add_zero] at hst
 simp [Instr.storeAt,Instr.sureAddr,storeVar,hsz,hv,hst]
theorem rd_after {b:Nat} {cs:Array Value} (hI:Inv w F β st.H) (ho:Owned β st.H b) {x:AV} {u:Value} (h:Rd w F β x u):Rd (w.setRow b cs) F β x u :=
 h.frame (fun b' hb'=>setRow_other w b b' cs fun e=>hI.apart b ho (e▸hb')) fun _ h=>h
theorem arr_mid (l m:List Value) (off n:Nat) (hm:m.length=n) (hl:off+n≤l.length) (d:Value) (j:Nat) :
  (l.take off++m++l.drop (off+m.length)).toArray.getD j d=if j < off then l.getD j d else if j < off+n then m.getD (j - off) d else l.getD j d:=by
 have:=take_mid_drop l m off n hm hl d j
 rw [hm,List.append_assoc]
 simpa [Array.getD_eq_getD_getElem?,List.getD] using this
theorem eStore_sound {t:Nat} {x y:AV} {vx vy:Value} (hT:TOk P T) (hI:Inv w F β st.H) (hx:Rd w F β x vx) (hy:Rd w F β y vy) (h:eStore T t x y st k) :
  EOut P (do Instr.storeAt t vx vy; pure .skip) w F β st k:=by
 unfold eStore at h
 split at h
 ·rename_i i hi
  split at h
  ·rename_i id off
   split at h
   ·rename_i cells hc
    obtain ⟨hok,hlen,hle,hk⟩:=stCells_len h
    have hm:=findC_mem hc
    obtain ⟨b,cur,e,hβ,hh,hs,h1,hr⟩:=hI.holds _ _ hm
    obtain ⟨blk,hb,rfl⟩:=hx.b_inv
    rw [hβ] at hb
    cases hb
    obtain ⟨hy1,hy2⟩:=cells_rd hy hok
    have hys:vy.cells.size=i.cells:=by rw [hy1,hlen]
    have hcs:off+i.cells≤cur.size:=by rw [hs]; exact hle
    have hrun:=run_storeAt (off:=off) (hT _ _ hi) hh hys hcs (fun j hj=>(hy2 j (by omega)).1)
    have hyl:vy.cells.toList.length=i.cells:=by simpa using hys
    refine EOut.skip hrun ⟨_,_,F,β,hk,.i (.v (.inr rfl)),?_⟩
    have ho:Owned β st.H b:=⟨id,_,hm,by rw [hβ]; rfl⟩
    refine ext_set hI hm rfl ⟨rfl,fun _=>(by first | exact Nat.le_refl _ | exact Nat.le_succ _)⟩ rfl (by simp) (fun b' hb'=>setRow_other w b b' _ (fun e=>hb' (by rw [hβ,e]; rfl))) ?_
    have key:=fun j d=>arr_mid cur.toList vy.cells.toList off i.cells hyl (by simpa using hcs) d j
    have key2:=fun j=>take_mid_drop cells (cellsL y) off i.cells hlen hle AV.junk j
    refine ⟨b,_,e,hβ,setRow_heap w b cur _ e _ hh,?_,fun j hj=>?_,fun j hj=>?_⟩
    ·simp only [List.size_toArray,List.length_append,List.length_take,List.length_drop,Array.length_toList,hys,hs,hlen]
     omega
    all_goals
     have hj':j < cells.length:=by
      simp only [List.length_append,List.length_take,List.length_drop,hlen] at hj
      omega
    ·rw [key]
     by_cases q1:j < off
     ·rw [if_pos q1]; simpa [List.getD] using h1 j hj'
     ·rw [if_neg q1]
      by_cases q2:j < off+i.cells
      ·rw [if_pos q2]; simpa [List.getD] using (hy2 (j - off) (by omega)).1
      ·rw [if_neg q2]; simpa [List.getD] using h1 j hj'
    ·rw [key,key2]
     by_cases q1:j < off
     ·rw [if_pos q1,if_pos q1]; exact rd_after hI ho (by simpa [List.getD] using hr j hj')
     ·rw [if_neg q1,if_neg q1]
      by_cases q2:j < off+i.cells
      ·rw [if_pos q2,if_pos q2]; exact rd_after hI ho (by simpa [List.getD] using (hy2 (j - off) (by omega)).2)
      ·rw [if_neg q2,if_neg q2]; exact rd_after hI ho (by simpa [List.getD] using hr j hj')
   ·exact h.elim
  ·rename_i id K m j
   split at h
   ·rename_i E K' rows hc
    obtain ⟨himm,row,hrow,rfl,h⟩:=cond_prop h
    obtain ⟨hok,hlen,hle,R,rfl,hk⟩:=stCells_len h
    have hm:=findC_mem hc
    have hmr:=lt_of_getElem? hrow
    obtain ⟨g,n,c,hβ,rfl⟩:=hx.e_inv
    rcases hI.holds _ _ hm with ⟨rfl,_⟩ | ⟨g',cap,cur,hv,hcap,hg,hn,hmx,hs,hK,hr⟩
    ·simp at hmr
    ·rw [hv] at hβ
     cases hβ
     have hrl:row.length=K:=by have:=hK m hmr; rwa [getD_of_getElem? hrow] at this
     obtain ⟨hy1,hy2⟩:=cells_rd hy hok
     have hys:vy.cells.size=i.cells:=by rw [hy1,hlen]
     have hmK:m * K+K≤rows.length * K:=by
      calc m * K + K = (m + 1) * K := by rw [Nat.add_mul]; omega
       _ ≤ rows.length * K := Nat.mul_le_mul_right _ hmr
     have hrc:rows.length * K≤c * K:=Nat.mul_le_mul_right _ hn
     have hcs:m * K+j+i.cells≤cur.size:=by omega
     have hrun:=run_storeAt (off:=m * K+j) (hT _ _ hi) hg hys hcs (fun j hj=>(hy2 j (by omega)).1)
     have hyl:vy.cells.toList.length=i.cells:=by simpa using hys
     have h0:Nat.beq c 0=false:=by cases c <;> first | rfl | omega
     have ho:Owned β st.H g:=⟨id,_,hm,by rw [hv]; simp [blkOf,h0]⟩
     refine EOut.skip hrun ⟨_,_,F,β,hk,.i (.v (.inr rfl)),?_⟩
     refine ext_set hI hm rfl ⟨rfl,fun _=>(by first | exact Nat.le_refl _ | exact Nat.le_succ _)⟩ rfl (by simp) (fun b' hb'=>setRow_other w g b' _ (fun e=>hb' (by rw [hv,e]; simp [blkOf,h0]))) (.inr ?_)
     have key:=fun j' d=>arr_mid cur.toList vy.cells.toList (m * K+j) i.cells hyl (by simpa using hcs) d j'
     have hset:∀q,q < rows.length→(rows.set m (row.take j++(cellsL y++row.drop (j+i.cells)))).getD q []=if q=m then row.take j++(cellsL y++row.drop (j+i.cells)) else rows.getD q []:=by
      intro q hq
      by_cases hqm:q=m
      ·subst hqm; simp [List.getD,hq]
      ·simp [List.getD,hqm,Ne.symm hqm]
     refine ⟨g,c,_,by rw [hv]; simp,hcap,setRow_heap w g cur _ E _ hg,by simpa using hn,hmx,?_,fun q hq=>?_,fun q z hq hz=>?_⟩
     ·simp only [List.size_toArray,List.length_append,List.length_take,List.length_drop,Array.length_toList,hys]
      omega
     ·have hq:q < rows.length:=by simpa using hq
      rw [hset q hq]
      split
      ·simp only [List.length_append,List.length_take,List.length_drop,hlen,hrl]; omega
      ·exact hK q hq
     ·have hq:q < rows.length:=by simpa using hq
      rw [key,hset q hq]
      have hold:=hr q z hq hz
      by_cases hqm:q=m
      ·subst hqm
       rw [if_pos rfl]
       have key2:=take_mid_drop row (cellsL y) j i.cells hlen (by omega) AV.junk z
       by_cases q1:z < j
       ·rw [if_pos (by omega),key2,if_pos q1]
        rw [getD_of_getElem? hrow] at hold
        refine ⟨by simpa [List.getD] using hold.1,?_⟩
        have h2:=hold.2.frame (w':=w.setRow g (cur.toList.take (q * K+j)++vy.cells.toList++cur.toList.drop (q * K+j+vy.cells.toList.length)).toArray) (fun b' hb'=>setRow_other w g b' _ fun e=>hI.apart g ho (e▸hb')) fun _ h=>h
        simpa [List.getD] using h2
       ·by_cases q2:z < j+i.cells
        ·rw [if_neg (by omega),if_pos (by omega),key2,if_neg q1,if_pos q2]
         have hyz:=hy2 (z - j) (by omega)
         have himm':imm0 ((cellsL y).getD (z - j) .junk)=true:=List.all_eq_true.1 himm _ (by
          rw [List.getD_eq_getElem?_getD,List.getElem?_eq_getElem (show z - j < (cellsL y).length by omega)]; exact List.getElem_mem _)
         have h2:=(imm0_rd himm' hyz.2).frame (w':=w.setRow g (cur.toList.take (q * K+j)++vy.cells.toList++cur.toList.drop (q * K+j+vy.cells.toList.length)).toArray) (fun b' hb'=>setRow_other w g b' _ fun e=>hI.apart g ho (e▸hb')) fun _ h=>h
         rw [show q * K+z - (q * K+j)=z - j by omega]
         exact ⟨by simpa [List.getD] using hyz.1,by simpa [List.getD] using h2⟩
        ·rw [if_neg (by omega),if_neg (by omega),key2,if_neg q1,if_neg q2]
         rw [getD_of_getElem? hrow] at hold
         have h2:=hold.2.frame (w':=w.setRow g (cur.toList.take (q * K+j)++vy.cells.toList++cur.toList.drop (q * K+j+vy.cells.toList.length)).toArray) (fun b' hb'=>setRow_other w g b' _ fun e=>hI.apart g ho (e▸hb')) fun _ h=>h
         exact ⟨by simpa [List.getD] using hold.1,by simpa [List.getD] using h2⟩
      ·rw [if_neg hqm]
       have hout:q * K+z < m * K+j∨m * K+j+i.cells≤q * K+z:=by
        rcases Nat.lt_or_gt_of_ne hqm with h | h
        ·left
         calc q * K + z < q * K + K := by omega
          _ = (q + 1) * K := by rw [Nat.add_mul]; omega
          _ ≤ m * K := Nat.mul_le_mul_right _ h
          _ ≤ m * K + j := by omega
        ·right
         calc m * K + j + i.cells ≤ m * K + K := by omega
          _ = (m + 1) * K := by rw [Nat.add_mul]; omega
          _ ≤ q * K := Nat.mul_le_mul_right _ h
          _ ≤ q * K + z := by omega
       have h2:=hold.2.frame (w':=w.setRow g (cur.toList.take (m * K+j)++vy.cells.toList++cur.toList.drop (m * K+j+vy.cells.toList.length)).toArray) (fun b' hb'=>setRow_other w g b' _ fun e=>hI.apart g ho (e▸hb')) fun _ h=>h
       rcases hout with h | h
       ·rw [if_pos h]; exact ⟨by simpa [List.getD] using hold.1,by simpa [List.getD] using h2⟩
       ·rw [if_neg (by omega),if_neg (by omega)]; exact ⟨by simpa [List.getD] using hold.1,by simpa [List.getD] using h2⟩
   ·exact h.elim
  ·exact h.elim
 ·exact h.elim
end
end Go.Cat
set_option linter.all false
namespace Go.Cat
open Go.RowKit
variable [M:Mono]
section
variable {P:Program} {T:TT} {w:World} {F:Nat→Prop} {β:Nat→Value} {st:ASt} {k:AV→ASt→Prop}
def chunkImm:Chunk→Bool
 | .box cells=>cells.all imm0
 | .own ..=>true
 | .mp ..=>true
 | .lp ..=>false
 | .si ..=>true
theorem holds_imm {F':Nat→Prop} {β':Nat→Value} {i j:Nat} {c:Chunk} (hc:chunkImm c=true) (hF:∀b,F b→F' b) (hβ:β' j=β i) (h:c.holds w F β i):c.holds w F' β' j:=by
 cases c with
 | box cells =>
  obtain ⟨b,cs,e,hb,hh,hs,h1,hr⟩:=h
  refine ⟨b,cs,e,hβ.trans hb,hh,hs,h1,fun k hk=>?_⟩
  have:imm0 (cells.getD k .junk)=true:=List.all_eq_true.1 hc _ (by rw [List.getD_eq_getElem?_getD,List.getElem?_eq_getElem hk]; exact List.getElem_mem _)
  exact .i ((imm0_rd this (hr k hk)).frame (fun _ _=>rfl) hF)
 | si s pos =>
  unfold Chunk.holds at *
  rw [hβ]
  exact h
 | mp ag rows =>
  unfold Chunk.holds at *
  rw [hβ]
  obtain ⟨b,es,ck,h0,hh,hst,hs,hm,hr⟩:=h
  refine ⟨b,es,ck,h0,hh,hst,hs,hm,fun i r hi=>?_⟩
  obtain ⟨e,h1,h2,h3,h4⟩:=hr i r hi
  exact ⟨e,h1,h2,h3,h4.frame (fun _ _=>rfl) hF⟩
 | lp l e R L=>cases hc
 | own E K rows =>
  unfold Chunk.holds at *
  rw [hβ]
  rcases h with h | ⟨g,cap,cur,hv,hc,hg,hn,hm,hs,hk,hr⟩
  ·exact .inl h
  ·exact .inr ⟨g,cap,cur,hv,hc,hg,hn,hm,hs,hk,fun i j hi hj=>⟨(hr i j hi hj).1,(hr i j hi hj).2.frame (fun _ _=>rfl) hF⟩⟩
theorem frH_mem {id:Nat} {rows:List (List AV)}:∀{H:Hp} {i:Nat} {c:Chunk},(i,c)∈frH id rows H→i≠id∧∃c',(i,c')∈H∧c=frC id rows c'
 | [],_,_,h=>by cases h
 | (j,c')::r,i,c,h=>by
  simp only [frH] at h
  cases hb:Nat.beq j id with
  | true =>
   rw [hb] at h
   obtain ⟨h1,c2,h2,h3⟩:=frH_mem (H:=r) h
   exact ⟨h1,c2,List.mem_cons_of_mem _ h2,h3⟩
  | false =>
   rw [hb] at h
   simp only [cond_false,List.mem_cons,Prod.mk.injEq] at h
   rcases h with ⟨rfl,rfl⟩ | h
   ·exact ⟨fun e=>(by rw [e,Nat.beq_refl] at hb; cases hb),c',by simp,rfl⟩
   ·obtain ⟨h1,c2,h2,h3⟩:=frH_mem (H:=r) h
    exact ⟨h1,c2,List.mem_cons_of_mem _ h2,h3⟩
theorem frH_keys {id:Nat} {rows:List (List AV)}:∀{H:Hp},(H.map (·.1)).Nodup→((frH id rows H).map (·.1)).Nodup
 | [],_=>by simp [frH]
 | (j,c)::r,h=>by
  simp only [List.map_cons,List.nodup_cons] at h
  simp only [frH]
  cases hb:Nat.beq j id with
  | true=>exact frH_keys h.2
  | false =>
   simp only [cond_false,List.map_cons,List.nodup_cons]
   refine ⟨fun hm=>?_,frH_keys h.2⟩
   obtain ⟨x,hx,hxe⟩:=List.mem_map.1 hm
   obtain ⟨i,c'⟩:=x
   obtain ⟨_,c2,h2,_⟩:=frH_mem hx
   exact h.1 (List.mem_map.2 ⟨(i,c2),h2,hxe⟩)
theorem own_rd {id E K:Nat} {rows:List (List AV)} {u:Value} {H:Hp} (hI:Inv w F β H) (hm:(id,Chunk.own E K rows)∈H) (hu:Rd w F β (.o id) u):RdI w (fun b=>F b∨Owned β H b) (.s rows) u:=by
 obtain ⟨a,n,c,hβ,rfl⟩:=hu.o_inv
 rcases hI.holds _ _ hm with ⟨rfl,a',hv⟩ | ⟨g,cap,cur,hv,hc,hg,hn,hmx,hs,hK,hr⟩
 ·rw [hβ] at hv
  cases hv
  exact .s0
 ·rw [hβ] at hv
  cases hv
  have h0:Nat.beq c 0=false:=by cases c <;> first | rfl | omega
  have hcell:=(own_cell (hI.holds _ _ hm) hβ).2.2.2
  obtain ⟨u,hu⟩:=hcell
  exact .s (off:=0) (u:=u) (.inr ⟨id,_,hm,by rw [hβ]; simp [blkOf,h0]⟩) hn hmx hK (fun i j hi hj=>by rw [Nat.zero_add]; exact (hu i j hi hj).1) (fun i j hi hj=>(hu i j hi hj).2.1) fun i j hi hj=>(hu i j hi hj).2.2.frame (fun _ _=>rfl) fun _ h=>.inl h
def dropC (id:Nat) (H:Hp):Hp:=H.filter fun p=>!Nat.beq p.1 id
theorem dropC_mem {id:Nat} {H:Hp} {x:Nat×Chunk}:x∈dropC id H↔x∈H∧x.1≠id:=by
 have hb:(!Nat.beq x.1 id)=true↔x.1≠id:=by
  cases h:Nat.beq x.1 id with
  | true=>simp [Nat.eq_of_beq_eq_true h]
  | false=>simp only [Bool.not_false,true_iff]; exact fun e=>by rw [e,Nat.beq_refl] at h; cases h
 unfold dropC
 rw [List.mem_filter,hb]
theorem Inv.dropC {H:Hp} (h:Inv w F β H) (id:Nat):Inv w F β (dropC id H) :=
 ⟨h.fsize,fun i c hm=>h.holds i c (dropC_mem.1 hm).1,(List.Sublist.map _ (List.filter_sublist)).nodup h.keys,fun b ⟨i,c,hm,hb⟩=>h.apart b ⟨i,c,(dropC_mem.1 hm).1,hb⟩,
  fun i c i' c' b h1 h2=>h.disj i c i' c' b (dropC_mem.1 h1).1 (dropC_mem.1 h2).1⟩
theorem freeze_rd {id E K:Nat} {rows:List (List AV)} {H:Hp} (hI:Inv w F β H) (hm:(id,Chunk.own E K rows)∈H) {u:Value} (hu:Rd w F β (.o id) u):RdI w (fun b=>F b∨blkOf (β id)=some b) (.s rows) u:=by
 have h1:=hI.dropC id
 have hI1:Inv w F β [(id,.own E K rows)]:=⟨hI.fsize,fun i c h=>by
   simp only [List.mem_singleton,Prod.mk.injEq] at h; obtain ⟨rfl,rfl⟩:=h; exact hI.holds _ _ hm,by simp,
  fun b ⟨i,c,h,hb⟩=>by simp only [List.mem_singleton,Prod.mk.injEq] at h; obtain ⟨rfl,rfl⟩:=h; exact hI.apart b ⟨_,_,hm,hb⟩,
  fun i c i' c' b h h' _ _=>by simp only [List.mem_singleton,Prod.mk.injEq] at h h'; rw [h.1,h'.1]⟩
 refine (own_rd hI1 (List.mem_singleton.2 rfl) hu).frame (fun _ _=>rfl) fun b hb=>hb.elim .inl fun ⟨i,c,h,hb⟩=>.inr ?_
 simp only [List.mem_singleton,Prod.mk.injEq] at h
 rw [←h.1]; exact hb
structure Src (w:World) (F:Nat→Prop) (K:Nat) (rows:List (List AV)) (ad:Addr) (news:List Value):Prop where
 len:news.length=rows.length * K
 cell:∀j v,news[j]?=some v→w.cell? (ad.add j)=some v
 one:∀u,u∈news→u.oneCell'=true
 rd:∀i j,i < rows.length→j < K→RdI w F ((rows.getD i []).getD j .junk) (news.getD (i * K+j) undef)
theorem src_of {K K' b off:Nat} {rows:List (List AV)} {u:Nat→Nat→Value} (hlen:RowsLen rows K) (hK:∀i,i < rows.length→(rows.getD i []).length=K')
  (hv:∀i j,i < rows.length→j < K'→w.cell? ⟨b,off+(i * K'+j),none⟩=some (u i j)∧(u i j).oneCell'=true∧RdI w F ((rows.getD i []).getD j .junk) (u i j)) :
  ∃news,Src w F K rows ⟨b,off,none⟩ news:=by
 have hKK:rows=[]∨K'=K:=by
  cases rows with
  | nil=>exact .inl rfl
  | cons r rs=>exact .inr ((hK 0 (by simp)).symm.trans (hlen r (by simp)))
 refine ⟨(List.range (rows.length * K)).map fun q=>u (q / K) (q % K),by simp,fun q v hq=>?_,fun v hv'=>?_,fun i j hi hj=>?_⟩
 ·simp only [List.getElem?_map,Option.map_eq_some_iff] at hq
  obtain ⟨q',hq',rfl⟩:=hq
  obtain ⟨hlt,rfl⟩:=List.getElem?_eq_some_iff.1 hq'
  have hlt:q < rows.length * K:=by simpa using hlt
  simp only [List.getElem_range]
  rcases hKK with rfl | rfl
  ·simp at hlt
  ·have hK0:0 < K':=by
    rcases Nat.eq_zero_or_pos K' with h | h
    ·rw [h] at hlt; simp at hlt
    ·exact h
   have h1:q / K' < rows.length:=(Nat.div_lt_iff_lt_mul hK0).2 hlt
   have:=(hv (q / K') (q % K') h1 (Nat.mod_lt _ hK0)).1
   rw [Addr.add_lit]
   have e:q / K' * K'+q % K'=q:=by rw [Nat.mul_comm]; exact Nat.div_add_mod q K'
   rwa [e] at this
 ·obtain ⟨q,hq,rfl⟩:=List.mem_map.1 hv'
  have hlt:q < rows.length * K:=by simpa using hq
  rcases hKK with rfl | rfl
  ·simp at hlt
  ·have hK0:0 < K':=by
    rcases Nat.eq_zero_or_pos K' with h | h
    ·rw [h] at hlt; simp at hlt
    ·exact h
   exact (hv (q / K') (q % K') ((Nat.div_lt_iff_lt_mul hK0).2 hlt) (Nat.mod_lt _ hK0)).2.1
 ·rcases hKK with rfl | rfl
  ·simp at hi
  ·have hlt:i * K'+j < rows.length * K':=by
    calc i * K' + j < i * K' + K' := by omega
     _ = (i + 1) * K' := by rw [Nat.add_mul]; omega
     _ ≤ rows.length * K' := Nat.mul_le_mul_right _ hi
   have e1:(i * K'+j) / K'=i:=by rw [Nat.mul_comm,Nat.mul_add_div (by omega)]; simp [Nat.div_eq_of_lt hj]
   have e2:(i * K'+j) % K'=j:=by rw [Nat.mul_comm,Nat.mul_add_mod]; exact Nat.mod_eq_of_lt hj
   have:=(hv i j hi hj).2.2
   simpa [List.getD,hlt,e1,e2] using this
theorem srcRows_spec {x:AV} {vx:Value} {no K:Nat} {kk:List (List AV)→Prop} (hI:Inv w F β st.H) (hx:Rd w F β x vx) (h:srcRows x no st.H kk) (hk:∀rows,kk rows→RowsLen rows K) :
  ∃rows,kk rows∧((vx=.slice none 0 0∧rows=[])∨∃ad c news,vx=.slice (some ad) rows.length c∧Src w F K rows ad news):=by
 unfold srcRows at h
 split at h
 ·rename_i rows
  refine ⟨rows,h,?_⟩
  rcases hx.s_inv.s_form with ⟨rfl,a,rfl⟩ | ⟨b,off,c,K',v,hb,hc,hm,rfl,hK,hv⟩
  ·cases a with
   | none=>exact .inl ⟨rfl,rfl⟩
   | some ad=>exact .inr ⟨ad,0,[],rfl,by simp,fun j v hj=>by simp at hj,fun u hu=>by simp at hu,fun i j hi=>by simp at hi⟩
  ·obtain ⟨news,hn⟩:=src_of (hk _ h) hK hv
   exact .inr ⟨_,_,news,rfl,hn⟩
 ·cases hx.v_inv
  exact ⟨[],h,.inl ⟨rfl,rfl⟩⟩
 ·rename_i id
  cases hb:Nat.beq id no with
  | true=>rw [hb] at h; exact h.elim
  | false =>
   rw [hb] at h
   simp only [cond_false] at h
   split at h
   ·rename_i E K' rows hc
    refine ⟨rows,h,?_⟩
    obtain ⟨a,n,c,hβ,rfl⟩:=hx.o_inv
    have hh:=hI.holds _ _ (findC_mem hc)
    rcases own_form hh with ⟨rfl,a',hv⟩ | ⟨g,cap,hv,hm,hn⟩
    ·rw [hβ] at hv
     cases hv
     cases a with
     | none=>exact .inl ⟨rfl,rfl⟩
     | some ad =>
      refine .inr ⟨ad,0,[],rfl,by simp,fun j v hj=>by simp at hj,fun u hu=>by simp at hu,fun i j hi=>by simp at hi⟩
    ·rw [hβ] at hv
     cases hv
     obtain ⟨_,_,_,u,hu⟩:=own_cell hh hβ
     obtain ⟨news,hn⟩:=src_of (b:=g) (off:=0) (u:=u) (hk _ h) (own_len hh) (fun i j hi hj=>by have:=hu i j hi hj; rwa [Nat.zero_add])
     exact .inr ⟨_,_,news,rfl,hn⟩
   ·exact h.elim
 ·exact h.elim
theorem own_fresh {d E K cap:Nat} {rows:List (List AV)} {us:Array Value} {w1:World} (hd:d < 1000) (hI:Inv w F β st.H) (hh:w1.heap=w.heap) (ho:w1.os=w.os) (ht:SameT w w1) (hp:w1.output=w.output)
  (hs:us.size=cap * K) (hn:rows.length≤cap) (hm:cap≤maxLen) (hK:∀i,i < rows.length→(rows.getD i []).length=K)
  (hr:∀i j,i < rows.length→j < K→(us.getD (i * K+j) undef).oneCell'=true∧RdI w F ((rows.getD i []).getD j .junk) (us.getD (i * K+j) undef))
  (hk:k (.o d) (bindSt st d (.own E K rows))):EPost w F β st k (.slice (some ⟨w.heap.size,0,none⟩) rows.length cap) (w1.alloc (.cells us E)):=by
 have hal:∀b,b < w.heap.size→(w1.alloc (.cells us E)).heap[b]?=w.heap[b]?:=fun b hb=>by
  rw [_root_.Go.heap_alloc_old w1 _ (by rw [hh]; exact hb),hh]
 have hnew:(w1.alloc (.cells us E)).heap[w.heap.size]?=some (.cells us E (0,0)):=by rw [←hh]; exact heap_alloc_new w1 _
 have ha:Agree F w (w1.alloc (.cells us E)):=fun b hb=>hal b (hI.fsize b hb)
 refine ⟨_,_,F,_,hk,.o (by simp),ext_bind (v:=.slice (some ⟨w.heap.size,0,none⟩) rows.length cap) hd hI ho ht hp (by simp [hh]) (fun b hb _=>hal b hb) (fun i c b _ hm hb=>hal b (hI.owned_lt ⟨i,c,hm,hb⟩)) (fun b hb=>?_) ?_⟩
 ·cases h0:Nat.beq cap 0 <;> simp [blkOf,h0] at hb
  left; omega
 ·by_cases h0:cap=0
  ·subst h0
   have:rows=[]:=List.eq_nil_of_length_eq_zero (by omega)
   subst this
   exact .inl ⟨rfl,_,by simp; rfl⟩
  ·exact .inr ⟨w.heap.size,cap,us,by simp,by omega,hnew,hn,hm,hs,hK,fun i j hi hj=>⟨(hr i j hi hj).1,(hr i j hi hj).2.frame ha fun _ h=>h⟩⟩
theorem arrD (A:Array Value) (l:List Value) (h:A.toList=l) (i:Nat):A.getD i undef=l.getD i undef:=by
 subst h; simp [Array.getD_eq_getD_getElem?,List.getD]
theorem zeros_size (z:Array Value) (n:Nat):(Builtin.zeroCells z n).size=n * z.size:=by simp [Builtin.zeroCells]
theorem rows_append {rows rows':List (List AV)} {K:Nat} {xs news zs:List Value} (hx:xs.length=rows.length * K) (hn:news.length=rows'.length * K)
  {Q:AV→Value→Prop} (h1:∀i j,i < rows.length→j < K→Q ((rows.getD i []).getD j .junk) (xs.getD (i * K+j) undef))
  (h2:∀i j,i < rows'.length→j < K→Q ((rows'.getD i []).getD j .junk) (news.getD (i * K+j) undef)) :
  ∀i j,i < (rows++rows').length→j < K→Q (((rows++rows').getD i []).getD j .junk) ((xs++news++zs).getD (i * K+j) undef):=by
 intro i j hi hj
 have below:∀m n,m < n→m * K+j < n * K:=fun m n h=>by
  calc m * K + j < m * K + K := by omega
   _ = (m + 1) * K := by rw [Nat.add_mul]; omega
   _ ≤ n * K := Nat.mul_le_mul_right _ h
 simp only [List.length_append] at hi
 by_cases hlt:i < rows.length
 ·have:=below i rows.length hlt
  have e1:(rows++rows').getD i []=rows.getD i []:=by simp [List.getD,List.getElem?_append,hlt]
  have e2:(xs++news++zs).getD (i * K+j) undef=xs.getD (i * K+j) undef:=by
   simp [List.getD,List.getElem?_append,hx,this]
  rw [e1,e2]; exact h1 i j hlt hj
 ·have hb:=below (i - rows.length) rows'.length (by omega)
  have hge:rows.length * K≤i * K+j:=Nat.le_trans (Nat.mul_le_mul_right K (Nat.le_of_not_lt hlt)) (Nat.le_add_right _ _)
  have e1:(rows++rows').getD i []=rows'.getD (i - rows.length) []:=by simp [List.getD,List.getElem?_append,hlt]
  have e0:i * K+j - rows.length * K=(i - rows.length) * K+j:=by rw [Nat.sub_mul]; have:=Nat.mul_le_mul_right K (Nat.le_of_not_lt hlt); omega
  have e2:(xs++news++zs).getD (i * K+j) undef=news.getD ((i - rows.length) * K+j) undef:=by
   have h3:¬i * K+j < rows.length * K:=by omega
   simp [List.getD,List.getElem?_append,hx,hn,h3,e0,hb]
  rw [e1,e2]; exact h2 _ j (by omega) hj
theorem rows_append_len {rows rows':List (List AV)} {K:Nat} (h1:∀i,i < rows.length→(rows.getD i []).length=K) (h2:RowsLen rows' K):∀i,i < (rows++rows').length→((rows++rows').getD i []).length=K:=by
 intro i hi
 simp only [List.length_append] at hi
 by_cases hlt:i < rows.length
 ·have e1:(rows++rows').getD i []=rows.getD i []:=by simp [List.getD,List.getElem?_append,hlt]
  rw [e1]; exact h1 i hlt
 ·have hlt':i - rows.length < rows'.length:=by omega
  have e1:(rows++rows').getD i []=rows'[i - rows.length]:=by simp [List.getD,List.getElem?_append,hlt,hlt']
  rw [e1]; exact h2 _ (List.getElem_mem _)
theorem run_append_room_row (w:World) (t tx ty e:TypeId) (i:TypeInfo) (ht:P.underlying t=some (.slice e)) (hi:P.info? e=some i) (g sLen sCap:Nat) (cur:Array Value) (hg:w.heap[g]?=some (.cells cur e (0,0)))
  (x:Value) (n:Nat) (news:List Value) (hs:Go.Src P i.size tx x n news w) (hroom:sLen+n≤sCap) (hfit:sLen * i.size+news.length≤cur.size) :
  (Builtin.append_ #[t,tx] ty #[.slice (some ⟨g,0,none⟩) sLen sCap,x]).run P w =
   .ok (.slice (some ⟨g,0,none⟩) (sLen+n) sCap) (w.setRow g (cur.toList.take (sLen * i.size)++news++cur.toList.drop (sLen * i.size+news.length)).toArray):=by
 have hst:=run_storeCells_at P g (sLen * i.size) e news 0 cur w hg (by simpa using hfit) hs.one
 simp only [Nat.add_zero] at hst
 rcases hs.kind with ⟨e',hk⟩ | hk <;> simp [Builtin.append_,run_underlying ht,run_underlying hk,sizeOf,typeInfo,hi,hs.len,hroom,hs.cells,Addr.add_lit,hst]
structure SrcR (w:World) (F:Nat→Prop) (K:Nat) (rows:List (List AV)) (news:List Value):Prop where
 len:news.length=rows.length * K
 one:∀u,u∈news→u.oneCell'=true
 rd:∀i j,i < rows.length→j < K→RdI w F ((rows.getD i []).getD j .junk) (news.getD (i * K+j) undef)
theorem append_sound {t tx e L:Nat} {i j:TI} {ty:TypeId} {rows rows':List (List AV)} {v vx:Value} (hd:L < 1000) (hT:TOk P T) (hI:Inv w F β st.H) (hi:T t=some i) (he:i.kind=.slice e) (hj:T e=some j)
  (hb0:j.bytes≠0) (hz:j.zero.cells.size=j.cells)
  (hv:(rows=[]∧v=.slice none 0 0)∨((L,Chunk.own e j.cells rows)∈st.H∧β L=v))
  (hx:∃news,Go.Src P j.cells tx vx rows'.length news w∧SrcR w F j.cells rows' news)
  (hlen:RowsLen rows' j.cells) (hbytes:(rows.length+rows'.length) * j.bytes≤140737488355328)
  (hk:k (.o L) (bindSt st L (.own e j.cells (rows++rows')))) :
  ∃v' w',(Builtin.append_ #[t,tx] ty #[v,vx]).run P w=.ok v' w'∧EPost w F β st k v' w':=by
 have hu:=(hT _ _ hi).slice he
 obtain ⟨inf,hinf,hzero,hsize,hby⟩:=(hT _ _ hj).info
 have hnm:rows.length+rows'.length≤140737488355328:=Nat.le_trans (Nat.le_mul_of_pos_right _ (Nat.pos_of_ne_zero hb0)) hbytes
 have hml:rows.length+rows'.length≤maxLen:=by unfold maxLen; omega
 have same:∀a,(rows=[]∧v=.slice none 0 0)∨((L,Chunk.own e j.cells rows)∈st.H∧β L=v)→rows'=[]→v=.slice a rows.length rows.length∨True→EPost w F β st k v w:=by
  intro a hv' hr _
  subst hr
  refine ⟨_,_,F,fun q=>if q=L then v else β q,hk,?_,ext_bind (v:=v) hd hI rfl ⟨rfl,fun _=>(by first | exact Nat.le_refl _ | exact Nat.le_succ _)⟩ rfl (Nat.le_refl _) (fun _ _ _=>rfl) (fun _ _ _ _ _ _=>rfl) (fun b hb=>?_) ?_⟩
  ·rcases hv' with ⟨_,rfl⟩ | ⟨hm,hβ⟩
   ·exact .o (by simp)
   ·rcases own_form (hI.holds _ _ hm) with ⟨_,a,ha⟩ | ⟨g,cap,ha,_⟩
    ·rw [hβ] at ha; subst ha; exact .o (by simp)
    ·rw [hβ] at ha; subst ha; exact .o (by simp)
  ·rcases hv' with ⟨_,rfl⟩ | ⟨hm,hβ⟩
   ·simp [blkOf] at hb
   ·exact .inr ⟨_,hm,by rw [hβ]; exact hb⟩
  ·rw [List.append_nil]
   rcases hv' with ⟨rfl,rfl⟩ | ⟨hm,hβ⟩
   ·exact .inl ⟨rfl,none,by simp⟩
   ·have:=hI.holds _ _ hm
    unfold Chunk.holds at this ⊢
    simpa [hβ] using this
 have form:(rows=[]∧∃a,v=.slice a 0 0)∨∃g cap cur,(L,Chunk.own e j.cells rows)∈st.H∧β L=v∧v=.slice (some ⟨g,0,none⟩) rows.length cap∧0 < cap∧w.heap[g]?=some (.cells cur e (0,0))∧rows.length≤cap∧cap≤maxLen ∧
   cur.size=cap * j.cells∧(∀i,i < rows.length→(rows.getD i []).length=j.cells) ∧
   ∀q z,q < rows.length→z < j.cells→(cur.getD (q * j.cells+z) undef).oneCell'=true∧RdI w F ((rows.getD q []).getD z .junk) (cur.getD (q * j.cells+z) undef):=by
  rcases hv with ⟨hr,rfl⟩ | ⟨hm,hβ⟩
  ·exact .inl ⟨hr,none,rfl⟩
  ·rcases hI.holds _ _ hm with ⟨hr,a,ha⟩ | ⟨g,cap,cur,ha,h1,h2,h3,h4,h5,h6,h7⟩
   ·exact .inl ⟨hr,a,by rw [←hβ,ha]⟩
   ·exact .inr ⟨g,cap,cur,hm,hβ,by rw [←hβ,ha],h1,h2,h3,h4,h5,h6,h7⟩
 obtain ⟨news,hgs,hsrc⟩:=hx
 have hgs':Go.Src P inf.size tx vx rows'.length news w:=by rw [hsize]; exact hgs
 have hln:news.length=rows'.length * inf.size:=by rw [hsize]; exact hsrc.len
 ·
  rcases form with ⟨rfl,a,rfl⟩ | ⟨g,cap,cur,hm,hβ,rfl,hcap,hg,hn,hmx,hcs,hK,hrd⟩
  ·by_cases h0:rows'=[]
   ·subst h0
    refine ⟨_,w,?_,same none hv rfl (.inr True.intro)⟩
    have hn0:news=[]:=List.eq_nil_of_length_eq_zero (by simpa using hsrc.len)
    subst hn0
    exact run_append_nothing w t tx ty e inf hu hinf a 0 0 (Nat.le_refl _) vx hgs'
   ·have hpos:0 < rows'.length:=List.length_pos_iff.2 h0
    simp only [List.length_nil,Nat.zero_add] at hbytes hnm hml
    have hgc:=grownCap_ge w rows'.length 0 e
    have hgm:=grownCap_le_maxLen w rows'.length 0 e hml
    have post:EPost w F β st k (.slice (some ⟨w.heap.size,0,none⟩) rows'.length (grownCap w rows'.length 0 e)) (w.drew.alloc (.cells (news.toArray++Builtin.zeroCells j.zero.cells (grownCap w rows'.length 0 e - rows'.length)) e)):=by
     refine own_fresh (d:=L) (K:=j.cells) (rows:=rows') hd hI rfl rfl ⟨rfl,fun _=>Nat.le_succ _⟩ rfl ?_ hgc hgm (fun q hq=>?_) (fun q z hq hz=>?_) (by simpa using hk)
     ·simp only [Array.size_append,List.size_toArray,zeros_size,hsrc.len,hz,←Nat.add_mul]; congr 1; omega
     ·have:=hlen (rows'.getD q []) (by rw [List.getD_eq_getElem?_getD,List.getElem?_eq_getElem hq]; exact List.getElem_mem _)
      exact this
     ·have:=rows_append (rows:=[]) (xs:=[]) (zs:=(Builtin.zeroCells j.zero.cells (grownCap w rows'.length 0 e - rows'.length)).toList) (Q:=fun x u=>u.oneCell'=true∧RdI w F x u) (by simp) hsrc.len (fun _ _ h=>by simp at h) (fun i j' hi hj'=>⟨hsrc.one _ ?_,hsrc.rd i j' hi hj'⟩) q z (by simpa using hq) hz
      ·rw [arrD _ ([]++news++(Builtin.zeroCells j.zero.cells (grownCap w rows'.length 0 e - rows'.length)).toList) (by simp)]
       exact this
      ·have hlt:i * j.cells+j' < news.length:=by
        rw [hsrc.len]
        calc i * j.cells + j' < i * j.cells + j.cells := by omega
         _ = (i + 1) * j.cells := by rw [Nat.add_mul]; omega
         _ ≤ rows'.length * j.cells := Nat.mul_le_mul_right _ hi
       rw [List.getD_eq_getElem?_getD,List.getElem?_eq_getElem hlt]; exact List.getElem_mem _
    have hold:(Builtin.firstCells inf.size 0 (.slice a 0 0)).run P w.drew=.ok ([]:List Value).toArray w.drew:=by cases a <;> simp [Builtin.firstCells,loadCells,loadCellsFrom]
    have hr:=run_append_grow_src (P:=P) w t tx ty e inf j.zero hu hinf hzero a 0 0 [] hold vx rows'.length news hgs' (by omega) (by omega) (by rw [hby]; exact growslice_fits (by omega) (by rw [Nat.zero_add]; exact hbytes))
    simp only [Nat.zero_add,List.nil_append] at hr
    exact ⟨_,_,hr,post⟩
  ·-- a block of its own
   have hrc:rows.length * j.cells≤cap * j.cells:=Nat.mul_le_mul_right _ hn
   have h0:Nat.beq cap 0=false:=by cases cap <;> first | rfl | omega
   have hown:Owned β st.H g:=⟨L,_,hm,by rw [hβ]; simp [blkOf,h0]⟩
   let xs:List Value:=cur.toList.take (rows.length * j.cells)
   have hxs:xs.length=rows.length * j.cells:=by simp only [xs,List.length_take,Array.length_toList]; omega
   have below:∀(m n z:Nat),m < n→z < j.cells→m * j.cells+z < n * j.cells:=fun m n z h hz=>by
    calc m * j.cells + z < m * j.cells + j.cells := by omega
     _ = (m + 1) * j.cells := by rw [Nat.add_mul]; omega
     _ ≤ n * j.cells := Nat.mul_le_mul_right _ h
   have hxg:∀q z,q < rows.length→z < j.cells→xs.getD (q * j.cells+z) undef=cur.getD (q * j.cells+z) undef:=fun q z hq hz=>by
    have h1:=below q rows.length z hq hz
    have h2:q * j.cells+z < cur.size:=by omega
    simp [xs,List.getD,h1,h2]
   have h2:∀q z,q < rows'.length→z < j.cells→(news.getD (q * j.cells+z) undef).oneCell'=true∧RdI w F ((rows'.getD q []).getD z .junk) (news.getD (q * j.cells+z) undef):=fun q z hq hz=>by
    refine ⟨hsrc.one _ ?_,hsrc.rd q z hq hz⟩
    have hlt:q * j.cells+z < news.length:=by rw [hsrc.len]; exact below q _ z hq hz
    rw [List.getD_eq_getElem?_getD,List.getElem?_eq_getElem hlt]; exact List.getElem_mem _
   have h1:∀q z,q < rows.length→z < j.cells→(xs.getD (q * j.cells+z) undef).oneCell'=true∧RdI w F ((rows.getD q []).getD z .junk) (xs.getD (q * j.cells+z) undef):=fun q z hq hz=>by
    rw [hxg q z hq hz]; exact hrd q z hq hz
   by_cases hroom:rows.length+rows'.length≤cap
   ·have hfit:rows.length * inf.size+news.length≤cur.size:=by
     rw [hln,hsize,hcs,←Nat.add_mul]; exact Nat.mul_le_mul_right _ hroom
    have hr:=run_append_room_row (P:=P) w t tx ty e inf hu hinf g rows.length cap cur hg vx rows'.length news hgs' hroom hfit
    rw [hsize] at hr
    refine ⟨_,_,hr,_,_,F,fun q=>if q=L then .slice (some ⟨g,0,none⟩) (rows.length+rows'.length) cap else β q,hk,.o (by simp),?_⟩
    have hoth:∀b cs,b≠g→(w.setRow g cs).heap[b]?=w.heap[b]?:=fun b cs hb=>setRow_other w g b cs hb
    refine ext_bind (v:=.slice (some ⟨g,0,none⟩) (rows.length+rows'.length) cap) hd hI rfl ⟨rfl,fun _=>(by first | exact Nat.le_refl _ | exact Nat.le_succ _)⟩ rfl (by simp) (fun b _ ho=>hoth b _ fun e=>ho (e▸hown)) (fun i' c' b hne hm' hb=>hoth b _ fun e=>hne (hI.disj i' c' L _ b hm' hm hb (by rw [hβ,e]; simp [blkOf,h0]))) (fun b hb=>?_) (.inr ?_)
    ·refine .inr ⟨_,hm,?_⟩
     rw [hβ]
     simpa [blkOf,h0] using hb
    ·have ha:∀cs,Agree F w (w.setRow g cs):=fun cs b hb=>hoth b cs fun e=>hI.apart g hown (e▸hb)
     refine ⟨g,cap,(xs++news++cur.toList.drop (rows.length * j.cells+news.length)).toArray,by simp,hcap,setRow_heap w g cur _ e _ hg,by simpa using hroom,hmx,?_,rows_append_len hK hlen,fun q z hq hz=>?_⟩
     ·simp only [List.size_toArray,List.length_append,List.length_drop,Array.length_toList]
      rw [hsize] at hfit
      omega
     ·have:=rows_append (zs:=cur.toList.drop (rows.length * j.cells+news.length)) (Q:=fun x u=>u.oneCell'=true∧RdI w F x u) hxs hsrc.len h1 h2 q z hq hz
      rw [arrD _ (xs++news++cur.toList.drop (rows.length * j.cells+news.length)) rfl]
      exact ⟨this.1,this.2.frame (ha _) fun _ h=>h⟩
   ·have hcell:∀q u,xs[q]?=some u→w.cell? ((⟨g,0,none⟩:Addr).add q)=some u:=fun q u hq=>by
     rw [Addr.add_lit,Nat.zero_add,cell_of_row w g q cur e (0,0) hg]
     simp only [xs,List.getElem?_take] at hq
     split at hq
     ·simpa using hq
     ·cases hq
    have hold:=run_firstCells_some (P:=P) w.drew inf.size rows.length ⟨g,0,none⟩ rows.length cap xs (by rw [hsize]; exact hxs) (by simpa using hcell)
    have hr:=run_append_grow_src (P:=P) w t tx ty e inf j.zero hu hinf hzero (some ⟨g,0,none⟩) rows.length cap xs hold vx rows'.length news hgs' (by omega) (by omega) (by rw [hby]; exact growslice_fits (by omega) hbytes)
    refine ⟨_,_,hr,?_⟩
    have hgc:=grownCap_ge w (rows.length+rows'.length) cap e
    have hgm:=grownCap_le_maxLen w (rows.length+rows'.length) cap e hml
    have:=own_fresh (d:=L) (E:=e) (K:=j.cells) (cap:=grownCap w (rows.length+rows'.length) cap e) (rows:=rows++rows') (us:=(xs++news).toArray++Builtin.zeroCells j.zero.cells (grownCap w (rows.length+rows'.length) cap e - (rows.length+rows'.length)))
     (w1:=w.drew) (k:=k) hd hI rfl rfl ⟨rfl,fun _=>Nat.le_succ _⟩ rfl ?_ (by simpa using hgc) hgm (rows_append_len hK hlen) (fun q z hq hz=>?_) hk
    ·simpa using this
    ·simp only [Array.size_append,List.size_toArray,List.length_append,zeros_size,hsrc.len,hxs,hz,←Nat.add_mul]; congr 1; omega
    ·have:=rows_append (zs:=(Builtin.zeroCells j.zero.cells (grownCap w (rows.length+rows'.length) cap e - (rows.length+rows'.length))).toList) (Q:=fun x u=>u.oneCell'=true∧RdI w F x u) hxs hsrc.len h1 h2 q z hq hz
     rw [arrD _ (xs++news++(Builtin.zeroCells j.zero.cells (grownCap w (rows.length+rows'.length) cap e - (rows.length+rows'.length))).toList) (by simp)]
     exact this
end
end Go.Cat
set_option linter.all false
namespace Go.Cat
open Go.RowKit
variable [M:Mono]
section
variable {P:Program} {T:TT} {w:World} {F:Nat→Prop} {β:Nat→Value} {st:ASt} {k:AV→ASt→Prop}
theorem eMakeMap_sound {t d:Nat} (hd:d < 1000) (hT:TOk P T) (hI:Inv w F β st.H) (h:eMakeMap T t d st k):EOut P (do pure (.value (←Instr.makeMap t none))) w F β st k:=by
 unfold eMakeMap at h
 split at h
 ·rename_i ti hti
  split at h
  ·rename_i kt e hk
   split at h
   ·rename_i ik ie hik hie
    split at h
    ·have hrun:(Instr.makeMap t none).run P w=.ok (.map (some w.heap.size)) (w.alloc (.map #[] 0)):=by simp [Instr.makeMap,newObj,Sem.run]
     have hb:=below_alloc w (.map #[] 0)
     have hnew:(w.alloc (.map #[] 0)).heap[w.heap.size]?=some (.map #[] 0):=(Go.MapKept.heap_alloc w _).1
     refine EOut.value hrun ⟨_,_,F,fun q=>if q=d then .map (some w.heap.size) else β q,h,.m (by simp),ext_bind (v:=.map (some w.heap.size)) hd hI hb.os hb.tape hb.output hb.size (fun b hb' _=>hb.block b hb') (fun i c' b _ hm hb'=>hb.block b (hI.owned_lt ⟨i,c',hm,hb'⟩)) (fun b hb'=>.inl ?_) ?_⟩
     ·simp [blkOf] at hb'; omega
     ·exact ⟨w.heap.size,#[],0,by simp,hnew,Go.MapKept.stamped_empty 0,rfl,by simp,fun i r hi=>by simp at hi⟩
    ·exact h.elim
   ·exact h.elim
  ·exact h.elim
 ·exact h.elim
theorem set_map_other {w:World} {b b':Nat} (o:Obj) (h:b'≠b):({ w with heap:=w.heap.setIfInBounds b o }:World).heap[b']?=w.heap[b']?:=by
 simp [Array.getElem?_setIfInBounds,Ne.symm h]
theorem eMapUpdate_sound {t:Nat} {m i y:AV} {vm vi vy:Value} (hT:TOk P T) (hI:Inv w F β st.H) (hm:Rd w F β m vm) (hi:Rd w F β i vi) (hy:Rd w F β y vy) (h:eMapUpdate T t m i y st k) :
  EOut P (do Instr.mapUpdate t vm vi vy; pure .skip) w F β st k:=by
 unfold eMapUpdate at h
 split at h
 ·rename_i ti hti
  split at h
  ·rename_i kt e hk
   have hu:=(hT _ _ hti).map hk
   split at h
   ·rename_i ik hik
    split at h
    ·rename_i id n hkk
     have hd:=(hT _ _ hik).int hkk
     cases hi.v_inv
     split at h
     ·rename_i ag rows hc
      split at h
      ·rename_i yc hyc
       obtain ⟨hn,hlen,R,rfl,hk'⟩:=h
       have hmem:=findC_mem hc
       obtain ⟨b,hβ,rfl⟩:=hm.m_inv
       obtain ⟨b',es,ck,hβ',hh,hst,hs,hmx,hrr⟩:=hI.holds _ _ hmem
       rw [hβ] at hβ'; cases hβ'
       have hbl:b < w.heap.size:=blk_lt_of_heap hh
       have hg:=Go.MapKept.run_getObj_map (P:=P) hh
       have hck:=Go.MapKept.run_checkKey (P:=P) (w:=w) (k:=.int .i64 n) hd rfl false 9999
       obtain ⟨hall,hf⟩:=find_row hst hs hrr n
       have hyr:=mval_rd hyc hy
       have hblk:blkOf (β id)=some b:=by rw [hβ]; rfl
       have fin:∀(es':Array MapEntry) (ck':Nat),(Instr.mapUpdate t (.map (some b)) (.int .i64 n) vy).run P w=.ok () { w with heap:=w.heap.setIfInBounds b (.map es' ck') } →
         Go.MapKept.Stamped es' ck'→es'.size=(mset n yc rows).length→es'.size≤140737488355328 →
         (∀(i:Nat) (r:Int×List AV),(mset n yc rows)[i]?=some r→∃e:MapEntry,es'[i]?=some e∧e.key=.int .i64 r.1∧InI64 r.1∧RdI w F (vOf ag r.2) e.val) →
         EOut P (do Instr.mapUpdate t (.map (some b)) (.int .i64 n) vy; pure .skip) w F β st k:=fun es' ck' hrun h1 h2 h3 h4=>by
        have hag:Agree F w { w with heap:=w.heap.setIfInBounds b (.map es' ck') }:=fun q hq=>set_map_other _ fun e=>hI.apart b ⟨id,_,hmem,hblk⟩ (e▸hq)
        refine EOut.skip hrun ⟨_,_,F,β,hk',.i (.v (.inr rfl)),ext_set hI hmem rfl ⟨rfl,fun _=>Nat.le_refl _⟩ rfl (by simp) (fun b' hb'=>set_map_other _ fun e=>hb' (by rw [hblk,e])) ?_⟩
        refine ⟨b,es',ck',hβ,(Go.MapKept.heap_set hh).1,h1,h2,h3,fun i r hir=>?_⟩
        obtain ⟨e,g1,g2,g3,g4⟩:=h4 i r hir
        exact ⟨e,g1,g2,g3,g4.frame hag fun _ h=>h⟩
       rcases hf with ⟨h1,h2,h3⟩ | ⟨j,e0,c',h1,h2,hke,h3,h4,_,h6⟩
       ·have hfk:=Go.MapKept.run_findKey (P:=P) (w:=w) hd h1
        have hms:mset n yc rows=rows++[(n,yc)]:=by
         rcases mget_at n yc rows with ⟨_,h,_⟩ | ⟨j,c,_,h,_⟩
         ·exact h
         ·rw [h2] at h; cases h
        refine fin (es.push { key:=.int .i64 n,val:=vy,born:=ck }) (ck+1) ?_ (Go.MapKept.stamped_push hst h3) (by rw [hms]; simp [hs]) (by simp; omega) (fun i r hir=>?_)
        ·have hso:=Go.MapKept.run_setObj_map (P:=P) (.map (es.push { key:=.int .i64 n,val:=vy,born:=ck }) (ck+1)) hh
         simp [Instr.mapUpdate,run_underlying hu,hg,hck,hfk,hso]
        ·rw [hms] at hir
         rcases Nat.lt_or_ge i rows.length with hlt | hge
         ·rw [List.getElem?_append_left hlt] at hir
          obtain ⟨e,g1,g2⟩:=hrr i r hir
          exact ⟨e,by rw [Array.getElem?_push,if_neg (by omega)]; exact g1,g2⟩
         ·rw [List.getElem?_append_right hge] at hir
          have hi0:i - rows.length=0:=by
           have:=(List.getElem?_eq_some_iff.1 hir).1; simpa using this
          rw [hi0] at hir
          cases hir
          exact ⟨_,by rw [Array.getElem?_push,if_pos (by omega)],rfl,hn,hyr⟩
       ·have hfk:=Go.MapKept.run_findKey (P:=P) (w:=w) hd h1
        have hjl:j < es.size:=(Array.getElem?_eq_some_iff.1 h2).1
        have hks:=Go.MapKept.run_keyThatStays (P:=P) (w:=w) (d:=.int .i64) (k:=.int .i64 n) rfl
        let es':=es.modify j fun e=>{ e with key:=.int .i64 n,val:=vy }
        have hget:∀i,es'[i]?=if j=i then (es[i]?).map (fun e=>{ e with key:=.int .i64 n,val:=vy }) else es[i]?:=fun i=>Array.getElem?_modify
        refine fin es' ck ?_ (Go.MapKept.stamped_modify hst j _ (fun _ _=>rfl) fun e _ he=>by rw [h2] at he; cases he; exact hke.symm) (by rw [h6]; simp [es',hs]) (by simpa [es'] using hmx) (fun i r hir=>?_)
        ·have hso:=Go.MapKept.run_setObj_map (P:=P) (.map es' ck) hh
         simp [Instr.mapUpdate,run_underlying hu,hg,hck,hfk,h2,hke,hks,hso,es']
        ·rw [h6,List.getElem?_set] at hir
         rw [hget]
         by_cases hji:j=i
         ·subst hji
          rw [if_pos rfl,if_pos (by omega)] at hir
          cases hir
          rw [if_pos rfl,h2]
          exact ⟨_,rfl,rfl,hn,hyr⟩
         ·rw [if_neg hji] at hir
          rw [if_neg hji]
          exact hrr i r hir
      ·exact h.elim
     ·exact h.elim
    ·exact h.elim
   ·exact h.elim
  ·exact h.elim
 ·exact h.elim
end
end Go.Cat
set_option linter.all false
namespace Go.Cat
open Go.RowKit
variable [M:Mono]
section
variable {P:Program} {T:TT} {w:World} {F:Nat→Prop} {β:Nat→Value} {st:ASt} {k:AV→ASt→Prop}
theorem appSrc_spec {t t' e no:Nat} {i j:TI} {x:AV} {vx:Value} {kk:List (List AV)→Prop} (hT:TOk P T) (hI:Inv w F β st.H) (hi:T t=some i) (he:i.kind=.slice e) (_hj:T e=some j) (hx:Rd w F β x vx) (h:appSrc T t t' e x no st.H kk) (hk:∀rows,kk rows→RowsLen rows j.cells) :
  ∃rows,kk rows∧∃news,Go.Src P j.cells t' vx rows.length news w∧SrcR w F j.cells rows news:=by
 unfold appSrc at h
 cases hb:Nat.beq t t' with
 | true =>
  rw [hb] at h
  obtain rfl:=Nat.eq_of_beq_eq_true hb
  have hu:=(hT _ _ hi).slice he
  obtain ⟨rows,hkk,hx'⟩:=srcRows_spec hI hx h hk
  refine ⟨rows,hkk,?_⟩
  rcases hx' with ⟨rfl,rfl⟩ | ⟨ad,c,news,rfl,hs⟩
  ·exact ⟨[],Go.Src.ofNil w hu 0,⟨by simp,fun u hu=>by simp at hu,fun i j hi=>by simp at hi⟩⟩
  ·exact ⟨news,Go.Src.ofSlice w hu ad rows.length c news hs.len hs.cell hs.one,⟨hs.len,hs.one,hs.rd⟩⟩
 | false =>
  rw [hb] at h
  simp only [cond_false] at h
  split at h
  ·rename_i i' je s hi' hje
   split at h
   ·rename_i hstr hu8
    obtain ⟨hc1,h⟩:=cond_prop h
    have hj:j=je:=by rw [_hj] at hje; exact Option.some.inj hje
    have hc1:j.cells=1:=by rw [hj]; exact Nat.eq_of_beq_eq_true hc1
    have hu:=(hT _ _ hi').str hstr
    cases hx.v_inv
    refine ⟨_,h,byteCells s,?_,?_⟩
    ·rw [hc1]
     have:=Go.Src.ofString w hu s
     have e:(s.data.toList.map encB).length=s.size:=by rw [List.length_map,Array.length_toList]; rfl
     rw [e]; exact this
    ·rw [hc1]
     refine ⟨by simp [byteCells],fun u hu=>by obtain ⟨_,_,rfl⟩:=List.mem_map.1 hu; rfl,fun a b ha hb=>?_⟩
     have hb0:b=0:=by omega
     subst hb0
     have ha':a < s.data.toList.length:=by simpa using ha
     have e1:((s.data.toList.map encB).getD a []).getD 0 .junk=.v (.int .u8 ((s.data.toList[a]).toNat:Int)):=by
      have e0:(s.data.toList.map encB).getD a []=encB (s.data.toList[a]):=by rw [List.getD_eq_getElem?_getD,List.getElem?_map,List.getElem?_eq_getElem ha']; rfl
      rw [e0]; rfl
     have e2:(byteCells s).getD (a * 1+0) undef=.int .u8 ((s.data.toList[a]).toNat:Int):=by
      rw [Nat.mul_one,Nat.add_zero,List.getD_eq_getElem?_getD]
      unfold byteCells
      rw [List.getElem?_map,List.getElem?_eq_getElem ha']; rfl
     rw [e1,e2]
     exact .v (.inl rfl)
   ·exact h.elim
  ·exact h.elim
theorem eAppend_sound {t t' d:Nat} {s x:AV} {vs vx:Value} (hd:d < 1000) (hT:TOk P T) (hI:Inv w F β st.H) (hs:Rd w F β s vs) (hx:Rd w F β x vx) (h:eAppend T t t' s x d st k) (ty:TypeId) :
  EOut P (do pure (.value (←Builtin.append_ #[t,t'] ty #[vs,vx]))) w F β st k:=by
 unfold eAppend at h
 split at h
 ·rename_i i hi
  split at h
  ·rename_i e he
   split at h
   ·rename_i j hj
    cases hb:(Nat.beq j.bytes 0||(Nat.beq j.cells 0||!(Nat.beq j.zero.cells.size j.cells))) with
    | true=>rw [hb] at h; exact h.elim
    | false =>
     rw [hb] at h
     simp only [cond_false] at h
     simp only [Bool.or_eq_false_iff,Bool.not_eq_false'] at hb
     obtain ⟨hb0,_,hz⟩:=hb
     have hz:j.zero.cells.size=j.cells:=Nat.eq_of_beq_eq_true hz
     have hb0:j.bytes≠0:=fun e=>by rw [e] at hb0; cases hb0
     split at h
     ·cases hs.v_inv
      obtain ⟨rows',⟨hlen,hby,R,rfl,hk⟩,hx'⟩:=appSrc_spec hT hI hi he hj hx h fun rows h=>h.1
      obtain ⟨v',w',hr,hp⟩:=append_sound (P:=P) (L:=d) (ty:=ty) (rows:=[]) hd hT hI hi he hj hb0 hz (.inl ⟨rfl,rfl⟩) hx' hlen (by simpa using hby) (by simpa using hk)
      exact EOut.value hr hp
     ·rename_i id
      split at h
      ·rename_i E K rows hc
       obtain ⟨hEK,h'⟩:=cond_prop h
       clear h
       simp only [Bool.and_eq_true] at hEK
       have hid:id < 1000:=by simpa using hEK.2
       obtain rfl:=Nat.eq_of_beq_eq_true hEK.1.1
       obtain rfl:=Nat.eq_of_beq_eq_true hEK.1.2
       obtain ⟨rows',⟨hlen,hby,R,rfl,hk⟩,hx'⟩:=appSrc_spec hT hI hi he hj hx h' fun rows h=>h.1
       obtain ⟨a,n,c,hβ,rfl⟩:=hs.o_inv
       obtain ⟨v',w',hr,hp⟩:=append_sound (P:=P) (L:=id) (ty:=ty) hid hT hI hi he hj hb0 hz (.inr ⟨findC_mem hc,hβ⟩) hx' hlen hby hk
       exact EOut.value hr hp
      ·exact h.elim
     ·exact h.elim
   ·exact h.elim
  ·exact h.elim
 ·exact h.elim
theorem empty_out {d e K:Nat} {a:Option Addr} (hd:d < 1000) (hI:Inv w F β st.H) (hk:k (.o d) (bindSt st d (.own e K []))):EPost w F β st k (.slice a 0 0) w:=by
 refine ⟨_,_,F,fun q=>if q=d then .slice a 0 0 else β q,hk,.o (by simp),ext_bind (v:=.slice a 0 0) hd hI rfl ⟨rfl,fun _=>(by first | exact Nat.le_refl _ | exact Nat.le_succ _)⟩ rfl (Nat.le_refl _) (fun _ _ _=>rfl) (fun _ _ _ _ _ _=>rfl) (fun b hb=>?_) (.inl ⟨rfl,a,by simp⟩)⟩
 cases a <;> simp [blkOf] at hb
theorem eSlice0_sound {t d:Nat} {x:AV} {vx:Value} {lo hi mx:Option AV} {vlo vhi vmx:Option Value} (hd:d < 1000) (hT:TOk P T) (hI:Inv w F β st.H) (hx:Rd w F β x vx) (hlo:BoundV lo vlo w F β) (hhi:BoundV hi vhi w F β) (hmx:BoundV mx vmx w F β)
  (h:eSlice0 T t x lo hi mx d st k):EOut P (do pure (.value (←Instr.sliceAt t vx vlo vhi vmx))) w F β st k:=by
 unfold eSlice0 at h
 split at h
 ·rename_i i hi'
  split at h
  ·rename_i e k1 k2 he
   have hu:=(hT _ _ hi').slice he
   cases vlo with
   | some v=>exact hlo.elim
   | none =>
    cases vhi with
    | none=>exact hhi.elim
    | some v1 =>
     cases vmx with
     | none=>exact hmx.elim
     | some v2 =>
      cases (show Rd w F β _ v1 from hhi).v_inv
      cases (show Rd w F β _ v2 from hmx).v_inv
      split at h
      ·rename_i j hj
       have hsz:=(hT _ _ hj).run_size w
       have hrun:∀a n c,(Instr.sliceAt t (.slice a n c) none (some (.int k1 0)) (some (.int k2 0))).run P w=.ok (.slice a 0 0) w:=fun a n c=>by
        simp [Instr.sliceAt,Instr.slice,Instr.sliceBounds,Instr.sliceBound,asIntOf,run_underlying hu,hsz]
       split at h
       ·rcases hx.s_inv.s_form with ⟨_,a,rfl⟩ | ⟨b,off,c,K',v,_,_,_,rfl,_⟩
        ·exact EOut.value (hrun _ _ _) (empty_out hd hI h)
        ·exact EOut.value (hrun _ _ _) (empty_out hd hI h)
       ·obtain ⟨a,n,c,_,rfl⟩:=hx.o_inv
        exact EOut.value (hrun _ _ _) (empty_out hd hI h)
       ·cases hx.v_inv
        exact EOut.value (hrun _ _ _) (empty_out hd hI h)
       ·exact h.elim
      ·exact h.elim
  ·exact h.elim
 ·exact h.elim
theorem eBuildS_sound {t n d:Nat} {parts:List (Nat×AV)} {vs:Array (Nat×Value)} (hd:d < 1000) (hT:TOk P T) (hI:Inv w F β st.H) (hl:parts.length=vs.size)
  (hv:∀i,i < parts.length→(parts.getD i (0,.junk)).1=(vs.toList.getD i (0,undef)).1∧Rd w F β (parts.getD i (0,.junk)).2 (vs.toList.getD i (0,undef)).2)
  (h:eBuildS T t n parts d st k):EOut P (do pure (.value (←Instr.buildSlice t n vs))) w F β st k:=by
 obtain ⟨rows,e,size,us,hk,_,hs,hrl,hrs,hus,hsz,hrun,hlen⟩:=run_buildSlice hT hl hv h
 obtain ⟨hi,hk⟩:=cond_prop hk
 have himm:=immRows hi hus
 refine EOut.value hrun ?_
 have hg:∀i,i < rows.length→(rows.map (fun r=>r.map nz)).getD i []=(rows.getD i []).map nz:=fun i hi=>by simp [List.getD,hi]
 have hg2:∀i j,i < rows.length→j < size→((rows.map (fun r=>r.map nz)).getD i []).getD j .junk=nz ((rows.getD i []).getD j .junk):=fun i j hi hj=>by
  rw [hg i hi]
  have hj':j < (rows.getD i []).length:=by rw [hrs i hi]; exact hj
  simp only [List.getD_eq_getElem?_getD,List.getElem?_map] at hj' ⊢
  rw [List.getElem?_eq_getElem hj']; rfl
 have:=own_fresh (d:=d) (E:=e) (K:=size) (cap:=n) (rows:=rows.map fun r=>r.map nz) (us:=us) (w1:=w) (k:=k) hd hI rfl rfl ⟨rfl,fun _=>(by first | exact Nat.le_refl _ | exact Nat.le_succ _)⟩ rfl hsz (by rw [List.length_map]; omega) (by unfold maxLen; omega)
  (fun i hi=>by rw [List.length_map] at hi; rw [hg i hi,List.length_map]; exact hrs i hi) (fun i j hi hj=>?_) hk
 ·rwa [List.length_map,hrl] at this
 ·rw [List.length_map] at hi
  rw [hg2 i j hi hj]
  have hlt:i * size+j < rows.flatten.length:=by
   rw [flat_length rows hrs]
   calc i * size + j < i * size + size := by omega
    _ = (i + 1) * size := by rw [Nat.add_mul]; omega
    _ ≤ rows.length * size := Nat.mul_le_mul_right _ hi
  have:=himm _ hlt
  rw [flat_getD rows i j hrs hi hj] at this
  exact ⟨this.1,nz_rd this.2⟩
theorem eMake_sound {t d:Nat} {l c:AV} {vl vc:Value} (hd:d < 1000) (hT:TOk P T) (hI:Inv w F β st.H) (hl:Rd w F β l vl) (hc:Rd w F β c vc) (h:eMake T t l c d st k) :
  EOut P (do pure (.value (←Instr.makeSlice t vl vc))) w F β st k:=by
 unfold eMake at h
 split at h
 ·rename_i i kl nl kc nc hi
  cases hl.v_inv; cases hc.v_inv
  split at h
  ·rename_i e he
   have hu:=(hT _ _ hi).slice he
   split at h
   ·rename_i j hj
    obtain ⟨hb,n,m,rfl,rfl,hnm,hm,hby,R,rfl,hk⟩:=cond_prop h
    simp only [Bool.and_eq_true] at hb
    obtain ⟨hok,hlen,himm⟩:=hb
    have hlen:(cellsL (ofV j.zero)).length=j.cells:=Nat.eq_of_beq_eq_true hlen
    have hz:=cells_rd (ofV_rd w F j.zero β) hok
    have hzs:j.zero.cells.size=j.cells:=by rw [hz.1,hlen]
    obtain ⟨inf,hinf,hzero,hsize,hbytes⟩:=(hT _ _ hj).info
    have hwn:IntKind.i64.wrap (n:Int)=(n:Int):=IntWalk.i64_in _ (by omega)
    have hwm:IntKind.i64.wrap (m:Int)=(m:Int):=IntWalk.i64_in _ (by omega)
    have hbm:(inf.bytes:Int) * (m:Int)≤140737488355328:=by
     have h5:((m * j.bytes:Nat):Int)=(j.bytes:Int) * (m:Int):=by rw [Int.natCast_mul,Int.mul_comm]
     rw [hbytes,←h5]; omega
    have hrun:(Instr.makeSlice t (.int kl (n:Int)) (.int kc (m:Int))).run P w=.ok (.slice (some ⟨w.heap.size,0,none⟩) n m) (w.alloc (.cells ((Array.range (m * j.cells)).map (j.zero.cells[· % j.zero.cells.size]!)) e)):=by
     have h1:¬((m:Int) < 0):=by omega
     have h2:¬(281474976710656 < (inf.bytes:Int) * (m:Int)):=by omega
     have h3:¬((n:Int) < 0):=by omega
     have h4:¬((m:Int) < (n:Int)):=by omega
     by_cases h0:m * j.cells=0
     ·have hr0:Array.range (m * j.cells)=#[]:=by rw [h0]; exact Array.eq_empty_of_size_eq_zero (by simp)
      simp [Instr.makeSlice,run_underlying hu,asInt,asIntOf,typeInfo,hinf,hwn,hwm,h1,h2,h3,h4,sizeOf,hsize,h0,newRow]
      rw [h0] at hr0
      simp [hr0]
     ·simp [Instr.makeSlice,run_underlying hu,asInt,asIntOf,typeInfo,hinf,hwn,hwm,h1,h2,h3,h4,sizeOf,hsize,h0,newRow,zeroValue,hzero]
    refine EOut.value hrun ?_
    have:=own_fresh (d:=d) (E:=e) (K:=j.cells) (cap:=m) (rows:=List.replicate n ((cellsL (ofV j.zero)).map nz)) (us:=(Array.range (m * j.cells)).map (j.zero.cells[· % j.zero.cells.size]!)) (w1:=w) (k:=k)
     hd hI rfl rfl ⟨rfl,fun _=>(by first | exact Nat.le_refl _ | exact Nat.le_succ _)⟩ rfl (by simp) (by simpa using hnm) (by unfold maxLen; omega) (fun q hq=>?_) (fun q z hq hz'=>?_) hk
    ·simpa using this
    ·simp at hq; simp [List.getD,hq,hlen]
    ·simp at hq
     have hlt:q * j.cells+z < m * j.cells:=by
      calc q * j.cells + z < q * j.cells + j.cells := by omega
       _ = (q + 1) * j.cells := by rw [Nat.add_mul]; omega
       _ ≤ m * j.cells := Nat.mul_le_mul_right _ (by omega)
     rw [madeRow hlt,hzs]
     have e1:(q * j.cells+z) % j.cells=z:=by rw [Nat.mul_comm,Nat.mul_add_mod]; exact Nat.mod_eq_of_lt hz'
     rw [e1]
     have h2:=hz.2 z (by omega)
     have e2:j.zero.cells[z]! = j.zero.cells.getD z undef:=by
      have:z < j.zero.cells.size:=by omega
      simp [this]
     have e3:((List.replicate n ((cellsL (ofV j.zero)).map nz)).getD q []).getD z .junk=nz ((cellsL (ofV j.zero)).getD z .junk):=by
      have hz2:z < (cellsL (ofV j.zero)).length:=by omega
      simp [List.getD,hq,hz2]
     rw [e2,e3]
     refine ⟨h2.1,nz_rd (imm0_rd (List.all_eq_true.1 himm _ ?_) h2.2)⟩
     rw [List.getD_eq_getElem?_getD,List.getElem?_eq_getElem (show z < (cellsL (ofV j.zero)).length by omega)]; exact List.getElem_mem _
   ·exact h.elim
  ·exact h.elim
 ·exact h.elim
theorem eAppendZ_sound {t t' d:Nat} {s x:AV} {vs vx:Value} (hd:d < 1000) (hT:TOk P T) (hI:Inv w F β st.H) (hs:Rd w F β s vs) (hx:Rd w F β x vx) (h:eAppendZ T t t' s x d st k) (ty:TypeId) :
  EOut P (do pure (.value (←Builtin.append_ #[t,t'] ty #[vs,vx]))) w F β st k:=by
 unfold eAppendZ at h
 split at h
 ·rename_i i i' kx nx hi hi'
  cases hs.v_inv; cases hx.v_inv
  split at h
  ·rename_i e ki he he'
   have hu:=(hT _ _ hi).slice he
   have hu':=(hT _ _ hi').int he'
   split at h
   ·rename_i j hj
    cases hb:(Nat.beq j.bytes 0||(Nat.beq j.cells 0||!(okCells (ofV j.zero)&&(Nat.beq (cellsL (ofV j.zero)).length j.cells&&(cellsL (ofV j.zero)).all imm0)))) with
    | true=>rw [hb] at h; exact h.elim
    | false =>
     rw [hb] at h
     simp only [Bool.or_eq_false_iff,Bool.not_eq_false',Bool.and_eq_true] at hb
     obtain ⟨hb0,hc0,hok,hlen,himm⟩:=hb
     have hlen:(cellsL (ofV j.zero)).length=j.cells:=Nat.eq_of_beq_eq_true hlen
     have hb0:j.bytes≠0:=fun e=>by rw [e] at hb0; cases hb0
     have hc0:j.cells≠0:=fun e=>by rw [e] at hc0; cases hc0
     obtain ⟨n,rfl,hby,R,rfl,hk⟩:=h
     have hz:=cells_rd (ofV_rd w F j.zero β) hok
     have hzs:j.zero.cells.size=j.cells:=by rw [hz.1,hlen]
     obtain ⟨inf,hinf,hzero,hsize,hbytes⟩:=(hT _ _ hj).info
     have hn:n≤140737488355328:=Nat.le_trans (Nat.le_mul_of_pos_right _ (Nat.pos_of_ne_zero hb0)) hby
     have hwn:IntKind.i64.wrap (n:Int)=(n:Int):=IntWalk.i64_in _ (by omega)
     have hby':(n:Int) * (j.bytes:Int)≤140737488355328:=by
      have h5:((n * j.bytes:Nat):Int)=(n:Int) * (j.bytes:Int):=Int.natCast_mul _ _
      rw [←h5]; omega
     by_cases h0:n=0
     ·subst h0
      have hrun:(Builtin.append_ #[t,t'] ty #[.slice none 0 0,.int kx ((0:Nat):Int)]).run P w=.ok (.slice none 0 0) w:=by
       have hw0:IntKind.i64.wrap 0=0:=rfl
       simp [Builtin.append_,run_underlying hu,run_underlying hu',sizeOf,typeInfo,hinf,asInt,asIntOf,hw0]
      exact EOut.value hrun (empty_out hd hI (by simpa using hk))
     ·have hml:n≤maxLen:=by unfold maxLen; omega
      have hgc:=grownCap_ge w n 0 e
      have hgm:=grownCap_le_maxLen w n 0 e hml
      have h1:¬((n:Int) < 0):=by omega
      have h2:¬(281474976710656 < (n:Int) * (inf.bytes:Int)):=by rw [hbytes]; omega
      have h3:¬(9223372036854775807 < (n:Int)):=by omega
      have h4:¬(281474976710656 < Builtin.nextslicecap n 0 * inf.bytes):=by rw [nextslicecap_zero (by omega),hbytes]; omega
      have h5:n * inf.size≠0:=by rw [hsize]; exact Nat.mul_ne_zero h0 hc0
      have hrun:(Builtin.append_ #[t,t'] ty #[.slice none 0 0,.int kx (n:Int)]).run P w=.ok (.slice (some ⟨w.heap.size,0,none⟩) n (grownCap w n 0 e)) (w.drew.alloc (.cells (Builtin.zeroCells j.zero.cells n++Builtin.zeroCells j.zero.cells (grownCap w n 0 e - n)) e)):=by
       simp [Builtin.append_,run_underlying hu,run_underlying hu',sizeOf,typeInfo,hinf,asInt,asIntOf,hwn,h1,h2,h3,h4,h0,zeroValue,hzero,Question.forced,run_firstCells_none,newRow,grownCap]
       intro h7
       exact absurd h7 h5
      refine EOut.value hrun ?_
      have:=own_fresh (d:=d) (E:=e) (K:=j.cells) (cap:=grownCap w n 0 e) (rows:=List.replicate n ((cellsL (ofV j.zero)).map nz)) (us:=Builtin.zeroCells j.zero.cells n++Builtin.zeroCells j.zero.cells (grownCap w n 0 e - n)) (w1:=w.drew) (k:=k)
       hd hI rfl rfl ⟨rfl,fun _=>(by first | exact Nat.le_refl _ | exact Nat.le_succ _)⟩ rfl (by simp only [Array.size_append,zeros_size,hzs,←Nat.add_mul]; congr 1; omega) (by simpa using hgc) hgm (fun q hq=>?_) (fun q z hq hz'=>?_) hk
      ·simpa using this
      ·simp at hq; simp [List.getD,hq,hlen]
      ·simp at hq
       have hlt:q * j.cells+z < n * j.cells:=by
        calc q * j.cells + z < q * j.cells + j.cells := by omega
         _ = (q + 1) * j.cells := by rw [Nat.add_mul]; omega
         _ ≤ n * j.cells := Nat.mul_le_mul_right _ (by omega)
       have e0:(Builtin.zeroCells j.zero.cells n++Builtin.zeroCells j.zero.cells (grownCap w n 0 e - n)).getD (q * j.cells+z) undef=j.zero.cells[(q * j.cells+z) % j.zero.cells.size]! := by
        simp [Array.getElem?_append,Builtin.zeroCells,hzs,hlt]
       rw [e0,hzs]
       have e1:(q * j.cells+z) % j.cells=z:=by rw [Nat.mul_comm,Nat.mul_add_mod]; exact Nat.mod_eq_of_lt hz'
       rw [e1]
       have h2:=hz.2 z (by omega)
       have e2:j.zero.cells[z]! = j.zero.cells.getD z undef:=by
        have:z < j.zero.cells.size:=by omega
        simp [this]
       have e3:((List.replicate n ((cellsL (ofV j.zero)).map nz)).getD q []).getD z .junk=nz ((cellsL (ofV j.zero)).getD z .junk):=by
        have hz2:z < (cellsL (ofV j.zero)).length:=by omega
        simp [List.getD,hq,hz2]
       rw [e2,e3]
       refine ⟨h2.1,nz_rd (imm0_rd (List.all_eq_true.1 himm _ ?_) h2.2)⟩
       rw [List.getD_eq_getElem?_getD,List.getElem?_eq_getElem (show z < (cellsL (ofV j.zero)).length by omega)]; exact List.getElem_mem _
   ·exact h.elim
  ·exact h.elim
 ·exact h.elim
theorem eSliceH_sound {t:Nat} {x:AV} {vx:Value} {hi:Option AV} {vhi:Option Value} (hT:TOk P T) (hI:Inv w F β st.H) (hx:Rd w F β x vx) (hhi:BoundV hi vhi w F β) (h:eSliceH T t x hi st k) :
  EOut P (do pure (.value (←Instr.sliceAt t vx none vhi none))) w F β st k:=by
 unfold eSliceH at h
 split at h
 ·rename_i i id kh nh hi'
  split at h
  ·rename_i e he
   have hu:=(hT _ _ hi').slice he
   cases vhi with
   | none=>exact hhi.elim
   | some v1 =>
    cases (show Rd w F β _ v1 from hhi).v_inv
    split at h
    ·rename_i j hj
     have hsz:=(hT _ _ hj).run_size w
     split at h
     ·rename_i E K rows hc
      obtain ⟨hKd,m,rfl,hm,R,rfl,hk⟩:=cond_prop h
      have hid:id < 1000:=by
       simp only [Bool.and_eq_true] at hKd
       simpa using hKd.2
      have hmem:=findC_mem hc
      obtain ⟨a,n,c,hβ,rfl⟩:=hx.o_inv
      have hrun:n=rows.length→rows.length≤c→(Instr.sliceAt t (.slice a n c) none (some (.int kh (m:Int))) none).run P w=.ok (.slice a m c) w:=fun hn hc'=>by
       have hb:=run_bounds (P:=P) (w:=w) (is:=true) (lo:=none) (hi:=some (.int kh (m:Int))) (len:=rows.length) (cap:=c) (l:=0) (h:=m) (.inl ⟨rfl,rfl⟩) (.inr ⟨_,rfl⟩) (Nat.zero_le _) hm hc'
       subst hn
       have hs:(Instr.sliceAt t (.slice a rows.length c) none (some (.int kh (m:Int))) none).run P w=.ok (.slice (if c=0 then a else a.map (·.add (0 * j.cells))) (m - 0) (c - 0)) w:=by
        simp [Instr.sliceAt,Instr.slice,run_underlying hu,hb,hsz]
       rw [hs]
       have:(if c=0 then a else a.map (·.add (0 * j.cells)))=a:=by
        split
        ·rfl
        ·cases a <;> simp [Addr.add]
       rw [this]; simp
      rcases hI.holds _ _ hmem with ⟨rfl,a',hv⟩ | ⟨g,cap,cur,hv,hcap,hg,hn,hmx,hcs,hK,hr⟩
      ·rw [hβ] at hv
       cases hv
       have hm0:m=0:=by simpa using hm
       subst hm0
       refine EOut.value (hrun rfl (Nat.le_refl _)) ⟨_,_,F,fun q=>if q=id then .slice a 0 0 else β q,hk,.o (by simp),ext_bind (v:=.slice a 0 0) hid hI rfl ⟨rfl,fun _=>(by first | exact Nat.le_refl _ | exact Nat.le_succ _)⟩ rfl (Nat.le_refl _) (fun _ _ _=>rfl) (fun _ _ _ _ _ _=>rfl) (fun b hb=>?_) (.inl ⟨by simp,a,by simp⟩)⟩
       cases a <;> simp [blkOf] at hb
      ·rw [hβ] at hv
       cases hv
       refine EOut.value (hrun rfl hn) ⟨_,_,F,fun q=>if q=id then .slice (some ⟨g,0,none⟩) m c else β q,hk,.o (by simp),ext_bind (v:=.slice (some ⟨g,0,none⟩) m c) hid hI rfl ⟨rfl,fun _=>(by first | exact Nat.le_refl _ | exact Nat.le_succ _)⟩ rfl (Nat.le_refl _) (fun _ _ _=>rfl) (fun _ _ _ _ _ _=>rfl) (fun b hb=>.inr ⟨_,hmem,?_⟩) (.inr ?_)⟩
       ·rw [hβ]; simpa [blkOf] using hb
       ·have hlen:(rows.take m).length=m:=by simp; omega
        have htk:∀q,q < m→(rows.take m).getD q []=rows.getD q []:=fun q hq=>by simp [List.getD,hq]
        refine ⟨g,c,cur,by simp [hlen],hcap,hg,by omega,hmx,hcs,fun q hq=>?_,fun q z hq hz=>?_⟩
        ·rw [hlen] at hq; rw [htk q hq]; exact hK q (by omega)
        ·rw [hlen] at hq; rw [htk q hq]; exact hr q z (by omega) hz
     ·exact h.elim
    ·exact h.elim
  ·exact h.elim
 ·exact h.elim
theorem args_join {fs xs cs:List AV} {us vs ws:Array Value} (hs:us.size=fs.length) (hl:vs.size=xs.length) (_hs':ws.size=cs.length) (hu:∀i,i < fs.length→Rd w F β (fs.getD i .junk) (us.getD i undef))
  (hv:∀i,i < xs.length→Rd w F β (xs.getD i .junk) (vs.getD i undef)) (hw:∀i,i < cs.length→Rd w F β (cs.getD i .junk) (ws.getD i undef)) :
  ∀i,i < (fs++(xs++cs)).length→Rd w F β ((fs++(xs++cs)).getD i .junk) ((us++vs++ws).getD i undef):=by
 intro i hi
 simp only [List.length_append] at hi
 have e1:(fs++(xs++cs)).getD i .junk=if i < fs.length then fs.getD i .junk else if i < fs.length+xs.length then xs.getD (i - fs.length) .junk else cs.getD (i - fs.length - xs.length) .junk:=by
  simp only [List.getD,List.getElem?_append]
  by_cases h1:i < fs.length
  ·simp [h1]
  ·by_cases h2:i < fs.length+xs.length
   ·simp [h1,h2,show i - fs.length < xs.length by omega]
   ·simp [h1,h2,show ¬i - fs.length < xs.length by omega]
 have e2:(us++vs++ws).getD i undef=if i < fs.length then us.getD i undef else if i < fs.length+xs.length then vs.getD (i - fs.length) undef else ws.getD (i - fs.length - xs.length) undef:=by
  simp only [Array.getD_eq_getD_getElem?,Array.getElem?_append,Array.size_append,hs,hl]
  by_cases h1:i < fs.length
  ·simp [h1,show i < fs.length+xs.length by omega]
  ·by_cases h2:i < fs.length+xs.length
   ·simp [h1,h2]
   ·simp [h1,h2,Nat.sub_sub]
 rw [e1,e2]
 by_cases h1:i < fs.length
 ·rw [if_pos h1,if_pos h1]; exact hu i h1
 ·rw [if_neg h1,if_neg h1]
  by_cases h2:i < fs.length+xs.length
  ·rw [if_pos h2,if_pos h2]; exact hv _ (by omega)
  ·rw [if_neg h2,if_neg h2]; exact hw _ (by omega)
theorem eCall_sound {f:AV} {vf:Value} {xs:List AV} {vs:Array Value} (hI:Inv w F β st.H) (hf:Rd w F β f vf) (hl:vs.size=xs.length)
  (hv:∀i,i < xs.length→Rd w F β (xs.getD i .junk) (vs.getD i undef)) (h:eCall P f xs st k) :
  EOut P (do let d ←Deferred.ofValue vf vs; invoke d.target d.args) w F β st k:=by
 unfold eCall at h
 split at h
 ·rename_i g fs cs
  obtain ⟨⟨fn,c,hfn,hnm,hbody⟩,hp⟩:=h
  obtain ⟨us,ws,rfl,hs,hs',hu,hw⟩:=hf.c_inv
  have hnm' : ¬ fn.name = "runtime.NumGoroutine" := by simpa using hnm
  refine .inr (.inr (.inl ⟨g,us++vs++ws,by simp [Deferred.ofValue,invoke,callFunc,hfn,hnm',hbody],?_⟩))
  refine Calls.mono (hp w F β (us++vs++ws) hI ?_ (args_join hs hl hs' hu hv hw)) ?_
  ·simp [hs,hl,hs']
  ·rintro e w' ⟨v,rfl,r,st',F',β',hk,hr,he⟩
   exact ⟨v,rfl,r,st',F',β',hk,hr,he⟩
 ·rename_i l
  obtain ⟨us,ws,rfl,hs,hs',_,_⟩:=hf.c_inv
  have e1:us=#[]:=Array.eq_empty_of_size_eq_zero (by simpa using hs)
  have e2:ws=#[]:=Array.eq_empty_of_size_eq_zero (by simpa using hs')
  subst e1; subst e2
  obtain ⟨fn,tmps,assign,body,hy,hR⟩:=h.2 w F β vs hI hl hv
  exact .inr (.inr (.inr ⟨l,fn,tmps,assign,body,by simpa [Deferred.ofValue,invoke] using hy,hR⟩))
 ·exact h.elim
theorem eCall_run {f:Operand} {args:Array Operand} {argTypes:Array TypeId} {ρ:Operand→AV} {a:Act} {type:TypeId} (hI:Inv w F β st.H) (hf:Rd w F β (ρ f) (a.eval f))
  (hargs:∀i,i < (args.toList.map ρ).length→Rd w F β ((args.toList.map ρ).getD i .junk) ((args.map a.eval).getD i undef)) (h:eCall P (ρ f) (args.toList.map ρ) st k) :
  EOut P (do let d ←resolve a.eval { callee:=.value f,args:=args,argTypes:=argTypes } type; invoke d.target d.args) w F β st k:=by
 have e:(do let d ←resolve a.eval { callee:=.value f,args:=args,argTypes:=argTypes } type; invoke d.target d.args:Sem Next)=(do let d ←Deferred.ofValue (a.eval f) (args.map a.eval); invoke d.target d.args):=rfl
 rw [e]
 exact eCall_sound hI hf (by simp) hargs h
theorem eAppend_run {args:Array Operand} {argTypes:Array TypeId} {a:Act} {type:TypeId} {d:Nat} {f:Nat→AV} (hd:d < 1000) (hT:TOk P T) (hI:Inv w F β st.H) (hρ:∀x,x∈args→Rd w F β (ev f x) (a.eval x))
  (h:match argTypes.toList,args.toList.map (ev f) with
   | [t,t'],[s,x]=>bif Nat.beq t t' then eAppend T t t' s x d st k else match x with
    | .v (.string _)=>eAppend T t t' s x d st k
    | _=>eAppendZ T t t' s x d st k
   | _,_=>False) :
  EOut P (do let d ←resolve a.eval { callee:=.builtin .append,args:=args,argTypes:=argTypes } type; invoke d.target d.args) w F β st k:=by
 split at h
 ·rename_i t t' s x ht hx
  obtain ⟨l,rfl⟩:∃l:List Operand,args=l.toArray:=⟨args.toList,by simp⟩
  obtain ⟨lt,rfl⟩:∃l:List TypeId,argTypes=l.toArray:=⟨argTypes.toList,by simp⟩
  simp only at ht hx
  subst ht
  match l,hx with
  | [o1,o2],hx =>
   simp only [List.map_cons,List.map_nil,List.cons.injEq,and_true] at hx
   obtain ⟨rfl,rfl⟩:=hx
   cases hb:Nat.beq t t' with
   | true =>
    rw [hb] at h
    have:=eAppend_sound hd hT hI (hρ o1 (by simp)) (hρ o2 (by simp)) h type
    unfold EOut at this ⊢
    simpa [resolve,invoke,builtin] using this
   | false =>
    rw [hb] at h
    simp only [cond_false] at h
    split at h
    ·have:=eAppend_sound hd hT hI (hρ o1 (by simp)) (hρ o2 (by simp)) h type
     unfold EOut at this ⊢
     simpa [resolve,invoke,builtin] using this
    ·have:=eAppendZ_sound hd hT hI (hρ o1 (by simp)) (hρ o2 (by simp)) h type
     unfold EOut at this ⊢
     simpa [resolve,invoke,builtin] using this
 ·exact h.elim
theorem eConv_sound {s t id:Nat} {vx:Value} (hT:TOk P T) (hI:Inv w F β st.H) (hx:Rd w F β (.o id) vx) (h:eConv T s t id st k) :
  EOut P (do pure (.value (←convert s t vx))) w F β st k:=by
 unfold eConv at h
 split at h
 ·rename_i i hi
  split at h
  ·rename_i e he
   split at h
   ·rename_i j hj
    split at h
    ·rename_i h8
     have hst:=(cond_prop h).1
     replace h:=(cond_prop h).2
     obtain rfl:=Nat.eq_of_beq_eq_true hst
     split at h
     ·rename_i E K rows hc
      obtain ⟨hne,hk⟩:=h
      have hu:=(hT _ _ hi).slice he
      have hu8:=(hT _ _ hj).int h8
      have hm:=findC_mem hc
      obtain ⟨a,n,c,hβ,rfl⟩:=hx.o_inv
      rcases hI.holds _ _ hm with ⟨h0,_⟩ | ⟨g,cap,cur,hv,hcap,hg,hn,hmx,hs,hK,hr⟩
      ·exact absurd h0 hne
      rw [hβ] at hv
      cases hv
      have h0:Nat.beq c 0=false:=by cases c <;> first | rfl | omega
      have hblk:blkOf (β id)=some g:=by rw [hβ]; simp [blkOf,h0]
      have hown:Owned β st.H g:=⟨id,_,hm,hblk⟩
      let w':=w.freeze ⟨g,cur.size,none⟩ 1
      have hmk:(markStringish ⟨g,0,none⟩).run P w=.ok () w':=by
       have:w.shape? g=some (E,cur.size):=by simp [World.shape?,hg]
       simp [markStringish,this,w']
      have hrun:(convert s s (.slice (some ⟨g,0,none⟩) rows.length c)).run P w=.ok (.slice (some ⟨g,0,none⟩) rows.length c) w':=by
       simp [convert,run_underlying hu,run_underlying hu8,hmk]
      have hg':w'.heap[g]?=some (.cells cur E (cur.size,cur.size+1)):=heap_freeze_same hg
      have hoth:∀b,b≠g→w'.heap[b]?=w.heap[b]?:=fun b hb=>heap_freeze_other (fun e=>hb e.symm)
      have hF:∀b,F b→w'.heap[b]?=w.heap[b]?:=fun b hb=>hoth b fun e=>hI.apart g hown (e▸hb)
      have hsz:w'.heap.size=w.heap.size:=by simp [w',World.freeze]
      have hcellw:∀o,w'.cell? ⟨g,o,none⟩=w.cell? ⟨g,o,none⟩:=fun o=>by
       rw [cell_of_row w' g o cur E _ hg',cell_of_row w g o cur E _ hg]
      let F2:Nat→Prop:=fun b=>F b∨blkOf (β id)=some b
      have hread:RdI w' F2 (.s rows) (.slice (some ⟨g,0,none⟩) rows.length c):=by
       refine .s (off:=0) (k:=K) (u:=fun i j=>cur.getD (i * K+j) undef) (.inr hblk) hn hmx hK (fun i j hi hj=>?_) (fun i j hi hj=>(hr i j hi hj).1) fun i j hi hj=>(hr i j hi hj).2.frame hF fun _ h=>.inl h
       have:i * K+j < cur.size:=by
        rw [hs]
        calc i * K + j < i * K + K := by omega
         _ = (i + 1) * K := by rw [Nat.add_mul]; omega
         _ ≤ c * K := Nat.mul_le_mul_right _ (by omega)
       rw [Nat.zero_add,cell_of_row w' g _ cur E _ hg']
       simp [this]
      have hz:∀u,Rd w' F2 β (.o id) u→Rd w' F2 β (.s rows) u:=fun u hu=>by
       obtain ⟨a',n',c',h1,rfl⟩:=hu.o_inv
       rw [hβ] at h1
       cases h1
       exact .i hread
      have up:∀{x u},Rd w F β x u→Rd w' F2 β x u:=fun h=>h.frame hF fun _ h=>.inl h
      have hI':Inv w' F2 β (frH id rows st.H):=by
       refine ⟨fun b hb=>by rw [hsz]; exact hb.elim (hI.fsize b) fun hb=>hI.owned_lt ⟨id,_,hm,hb⟩,fun i c2 h=>?_,frH_keys hI.keys,fun b ⟨i,c2,h,hb⟩ hF2=>?_,fun i c2 i' c2' b h h' hb hb'=>?_⟩
       ·obtain ⟨hi2,c3,h3,rfl⟩:=frH_mem h
        have hh:=hI.holds i c3 h3
        have hne2:∀b,blkOf (β i)=some b→w'.heap[b]?=w.heap[b]?:=fun b hb=>hoth b fun e=>hi2 (hI.disj i c3 id _ b h3 hm hb (by rw [hblk,e]))
        have hh':=holds_frame (F':=F2) hF (fun _ h=>.inl h) hne2 hh
        cases c3 with
        | own E' K' r=>exact hh'
        | mp ag r=>exact hh'
        | si s pos=>exact hh'
        | lp l e R L =>
         obtain ⟨fn,tmps,D,hb,hhb,hnb,hrb⟩:=hh'
         refine ⟨fn,tmps,D,hb,hhb,hnb,fun p hp=>?_⟩
         obtain ⟨q,hq,rfl⟩:=List.mem_map.1 hp
         exact sb_rd hz (fun _ _=>rfl) 2 (hrb q hq)
        | box cells =>
         obtain ⟨b,cs,e,hb,hhb,hsb,h1b,hrb⟩:=hh'
         refine ⟨b,cs,e,hb,hhb,by simpa using hsb,fun j hj=>h1b j (by simpa using hj),fun j hj=>?_⟩
         have hj:j < cells.length:=by simpa using hj
         have:(cells.map (sb (.s rows) 1 id)).getD j .junk=sb (.s rows) 1 id (cells.getD j .junk):=by simp [List.getD,hj]
         rw [this]
         exact sb_rd hz (fun _ _=>rfl) 1 (hrb j hj)
       ·obtain ⟨hi2,c3,h3,_⟩:=frH_mem h
        rcases hF2 with hF2 | hF2
        ·exact hI.apart b ⟨i,c3,h3,hb⟩ hF2
        ·exact hi2 (hI.disj i c3 id _ b h3 hm hb hF2)
       ·obtain ⟨_,c3,h3,_⟩:=frH_mem h
        obtain ⟨_,c4,h4,_⟩:=frH_mem h'
        exact hI.disj i c3 i' c4 b h3 h4 hb hb'
      have hownF:∀b,Owned β (frH id rows st.H) b→Owned β st.H b:=fun b ⟨i,c2,h,hb⟩=>by
       obtain ⟨_,c3,h3,_⟩:=frH_mem h
       exact ⟨i,c3,h3,hb⟩
      refine EOut.value hrun ⟨_,_,F2,β,hk,.i hread,⟨rfl,⟨rfl,fun _=>(by first | exact Nat.le_refl _ | exact Nat.le_succ _)⟩,rfl,Nat.le_of_eq hsz.symm,fun b _ hno=>hoth b fun e=>hno (e▸hown),fun _ h=>.inl h,fun b hb=>?_,fun b hb=>.inr (hownF b hb),fun t u hu=>sb_rd hz (fun _ _=>rfl) 2 (up hu),hI',fun _ _=>rfl⟩⟩
      exact hb.imp (fun h=>h) fun h=>.inr ⟨id,_,hm,h⟩
     ·exact h.elim
    ·exact h.elim
   ·exact h.elim
  ·exact h.elim
 ·exact h.elim
theorem eClear_sound {t:Nat} {x:AV} {vx:Value} (hT:TOk P T) (hI:Inv w F β st.H) (hx:Rd w F β x vx) (h:eClear T t x st k) (ty:TypeId) :
  EOut P (do pure (.value (←Builtin.clear_ #[t] ty #[vx]))) w F β st k:=by
 unfold eClear at h
 split at h
 ·rename_i i hi
  split at h
  ·rename_i e he
   have hu:=(hT _ _ hi).slice he
   split at h
   ·rename_i j hj
    split at h
    ·rename_i id Kw d
     split at h
     ·rename_i E K rows hc
      obtain ⟨hb,R,rfl,hk⟩:=cond_prop h
      simp only [Bool.and_eq_true] at hb
      obtain ⟨⟨hK,hKw⟩,hok,hlen,himm⟩:=hb
      have hK:K=j.cells:=Nat.eq_of_beq_eq_true hK
      have hKw:Kw=K:=Nat.eq_of_beq_eq_true hKw
      have hlen:(cellsL (ofV j.zero)).length=j.cells:=Nat.eq_of_beq_eq_true hlen
      subst hKw
      have hm:=findC_mem hc
      obtain ⟨a,a',n,c,hβ,hd,ha,rfl⟩:=hx.w_inv
      have hz:=fun w' F'=>cells_rd (ofV_rd w' F' j.zero β) hok
      have hzs:j.zero.cells.size=j.cells:=by rw [(hz w F).1,hlen]
      have hn:n=rows.length:=by
       rcases own_form (hI.holds _ _ hm) with ⟨rfl,a2,hv⟩ | ⟨g,cap,hv,_,hcap⟩
       ·rw [hβ] at hv; cases hv; rfl
       ·rw [hβ] at hv; cases hv; rfl
      subst hn
      by_cases h0:rows.length - d=0
      ·have hrun:(Builtin.clear_ #[t] ty #[.slice a' (rows.length - d) (c - d)]).run P w=.ok (.tuple #[]) w:=by
        rw [h0]; cases a' <;> simp [Builtin.clear_,run_underlying hu]
       refine EOut.value hrun ⟨_,_,F,β,hk,.i (.t rfl fun i hi=>by simp at hi),?_⟩
       rw [h0,List.replicate_zero,List.append_nil,List.take_of_length_le (by omega)]
       exact ext_set hI hm rfl ⟨rfl,fun _=>Nat.le_refl _⟩ rfl rfl (fun _ _=>rfl) (hI.holds _ _ hm)
      ·rcases hI.holds _ _ hm with ⟨rfl,_⟩ | ⟨g,cap,cur,hv,hcap,hg,hn,hmx,hs,hKr,hr⟩
       ·simp at h0
       ·rw [hβ] at hv
        cases hv
        have ha':a'=some ⟨g,d * Kw,none⟩:=by rw [ha (by omega)]; simp [Addr.add_lit]
        subst ha'
        have h0c:Nat.beq c 0=false:=by cases c <;> first | rfl | omega
        have ho:Owned β st.H g:=⟨id,_,hm,by rw [hβ]; simp [blkOf,h0c]⟩
        have hdK:d * Kw+(rows.length - d) * Kw=rows.length * Kw:=by rw [←Nat.add_mul]; congr 1; omega
        have hcK:rows.length * Kw≤c * Kw:=Nat.mul_le_mul_right _ hn
        let zs:=Builtin.zeroCells j.zero.cells (rows.length - d)
        have hzl:zs.toList.length=(rows.length - d) * Kw:=by simp only [zs,Array.length_toList,zeros_size,hzs,hK]
        have hone:∀x,x∈zs.toList→x.oneCell'=true:=fun x hx=>by
         simp only [zs,Builtin.zeroCells,Array.toList_map,List.mem_map] at hx
         obtain ⟨q,hq,rfl⟩:=hx
         have hpos:0 < j.zero.cells.size:=by
          have:q∈Array.range ((rows.length - d) * j.zero.cells.size):=by simpa using hq
          rcases Nat.eq_zero_or_pos j.zero.cells.size with h | h
          ·rw [h] at this; simp at this
          ·exact h
         have hlt:=Nat.mod_lt q hpos
         have h2:=((hz w F).2 (q % j.zero.cells.size) (by omega)).1
         simpa [hlt] using h2
        have hst:=run_storeCells_at P g (d * Kw) E zs.toList 0 cur w hg (by rw [hzl]; omega) hone
        simp only [Nat.add_zero] at hst
        have hzr:=(hT _ _ hj).run_zero w
        have hrun:(Builtin.clear_ #[t] ty #[.slice (some ⟨g,d * Kw,none⟩) (rows.length - d) (c - d)]).run P w=.ok (.tuple #[]) (w.setRow g (cur.toList.take (d * Kw)++zs.toList++cur.toList.drop (d * Kw+zs.toList.length)).toArray):=by
         obtain ⟨q,hq⟩:∃q,rows.length - d=q+1:=⟨rows.length - d - 1,by omega⟩
         have hst':=hst
         simp only [zs,hq] at hst' ⊢
         simp [Builtin.clear_,run_underlying hu,hzr,hst']
        refine EOut.value hrun ⟨_,_,F,β,hk,.i (.t rfl fun i hi=>by simp at hi),?_⟩
        have hoth:∀b cs,b≠g→(w.setRow g cs).heap[b]?=w.heap[b]?:=fun b cs hb=>setRow_other w g b cs hb
        refine ext_set hI hm rfl ⟨rfl,fun _=>Nat.le_refl _⟩ rfl (by simp) (fun b' hb'=>hoth b' _ (fun e=>hb' (by rw [hβ,e]; simp [blkOf,h0c]))) (.inr ?_)
        have ha:∀cs,Agree F w (w.setRow g cs):=fun cs b hb=>hoth b cs fun e=>hI.apart g ho (e▸hb)
        have hlenR:(rows.take d++List.replicate (rows.length - d) ((cellsL (ofV j.zero)).map nz)).length=rows.length:=by simp; omega
        have htl:(rows.take d).length=d:=by simp; omega
        have hxs:(cur.toList.take (d * Kw)).length=(rows.take d).length * Kw:=by simp only [List.length_take,Array.length_toList,htl]; omega
        refine ⟨g,c,_,by rw [hβ,hlenR],hcap,setRow_heap w g cur _ E _ hg,by rw [hlenR]; exact hn,hmx,?_,rows_append_len (fun q hq=>?_) (fun r hr'=>?_),fun q z hq hz'=>?_⟩
        ·simp only [List.size_toArray,List.length_append,List.length_take,List.length_drop,Array.length_toList,hzl]; omega
        ·have hq':q < d:=by omega
         have:(rows.take d).getD q []=rows.getD q []:=by simp [List.getD,hq']
         rw [this]; exact hKr q (by omega)
        ·rw [List.eq_of_mem_replicate hr',List.length_map,hlen,hK]
        ·have below:∀(m n z:Nat),m < n→z < Kw→m * Kw+z < n * Kw:=fun m n z h hz=>by
          calc m * Kw + z < m * Kw + Kw := by omega
           _ = (m + 1) * Kw := by rw [Nat.add_mul]; omega
           _ ≤ n * Kw := Nat.mul_le_mul_right _ h
         have h1:∀q z,q < (rows.take d).length→z < Kw→((cur.toList.take (d * Kw)).getD (q * Kw+z) undef).oneCell'=true∧RdI w F (((rows.take d).getD q []).getD z .junk) ((cur.toList.take (d * Kw)).getD (q * Kw+z) undef):=fun q z hq hz=>by
          rw [htl] at hq
          have h3:=below q d z hq hz
          have h4:q * Kw+z < cur.size:=by omega
          have e1:(rows.take d).getD q []=rows.getD q []:=by simp [List.getD,hq]
          have e2:(cur.toList.take (d * Kw)).getD (q * Kw+z) undef=cur.getD (q * Kw+z) undef:=by simp [List.getD,h3,h4]
          rw [e1,e2]; exact hr q z (by omega) hz
         have h2:∀q z,q < (List.replicate (rows.length - d) ((cellsL (ofV j.zero)).map nz)).length→z < Kw→(zs.toList.getD (q * Kw+z) undef).oneCell'=true∧RdI w F (((List.replicate (rows.length - d) ((cellsL (ofV j.zero)).map nz)).getD q []).getD z .junk) (zs.toList.getD (q * Kw+z) undef):=fun q z hq hz''=>by
          simp only [List.length_replicate] at hq
          have h3:=below q (rows.length - d) z hq hz''
          have e3:zs.toList.getD (q * Kw+z) undef=j.zero.cells.getD z undef:=by
           have h5:(q * Kw+z) % j.zero.cells.size=z:=by rw [hzs,←hK,Nat.mul_comm,Nat.mul_add_mod]; exact Nat.mod_eq_of_lt hz''
           have h6:q * Kw+z < (rows.length - d) * j.zero.cells.size:=by rw [hzs,←hK]; exact h3
           have h7:z < j.zero.cells.size:=by omega
           simp [zs,Builtin.zeroCells,List.getD,h6,h5,h7]
          have e4:((List.replicate (rows.length - d) ((cellsL (ofV j.zero)).map nz)).getD q []).getD z .junk=nz ((cellsL (ofV j.zero)).getD z .junk):=by
           have h5:z < (cellsL (ofV j.zero)).length:=by omega
           simp [List.getD,hq,h5]
          rw [e3,e4]
          have h4:=(hz w F).2 z (by omega)
          refine ⟨h4.1,nz_rd (imm0_rd (List.all_eq_true.1 himm _ ?_) h4.2)⟩
          rw [List.getD_eq_getElem?_getD,List.getElem?_eq_getElem (show z < (cellsL (ofV j.zero)).length by omega)]; exact List.getElem_mem _
         have:=rows_append (zs:=cur.toList.drop (d * Kw+zs.toList.length)) (Q:=fun x u=>u.oneCell'=true∧RdI w F x u) hxs (by simp only [List.length_replicate]; exact hzl) h1 h2 q z hq hz'
         rw [arrD _ (cur.toList.take (d * Kw)++zs.toList++cur.toList.drop (d * Kw+zs.toList.length)) rfl]
         exact ⟨this.1,this.2.frame (ha _) fun _ h=>h⟩
     ·exact h.elim
    ·exact h.elim
   ·exact h.elim
  ·exact h.elim
 ·exact h.elim
theorem eClear_run {args:Array Operand} {argTypes:Array TypeId} {a:Act} {type:TypeId} {f:Nat→AV} (hT:TOk P T) (hI:Inv w F β st.H) (hρ:∀x,x∈args→Rd w F β (ev f x) (a.eval x))
  (h:match argTypes.toList,args.toList.map (ev f) with
   | [t],[x]=>eClear T t x st k
   | _,_=>False) :
  EOut P (do let d ←resolve a.eval { callee:=.builtin .clear,args:=args,argTypes:=argTypes } type; invoke d.target d.args) w F β st k:=by
 split at h
 ·rename_i t x e1 e2
  have e1':argTypes=#[t]:=by rw [←Array.toArray_toList (xs:=argTypes),e1]
  have hl:args.size=1:=by have:=congrArg List.length e2; simpa using this
  have ex:x=ev f args[0]:=by
   have:=congrArg (fun l=>l[0]?) e2
   simp [hl] at this
   exact this.symm
  have ea:args.map a.eval=#[a.eval args[0]]:=by
   apply Array.ext
   ·simp [hl]
   ·intro i h1 h2
    have:i=0:=by simp at h2; omega
    subst this; simp
  have e:(do let d ←resolve a.eval { callee:=.builtin .clear,args:=args,argTypes:=argTypes } type; invoke d.target d.args:Sem Next)=builtin .clear argTypes type (args.map fun | .const _=>true | _=>false) (args.map a.eval):=rfl
  rw [e,ea,e1']
  exact eClear_sound hT hI (by rw [ex]; exact hρ _ (by simp)) h type
 ·exact h.elim
theorem eRange_sound {t d:Nat} {x:AV} {vx:Value} (hd:d < 1000) (hT:TOk P T) (hI:Inv w F β st.H) (hx:Rd w F β x vx) (h:eRange T t x d st k):EOut P (do pure (.value (←Instr.range t vx))) w F β st k:=by
 unfold eRange at h
 split at h
 ·rename_i i s hi
  cases hx.v_inv
  split at h
  ·rename_i hk
   have hu:=(hT _ _ hi).str hk
   have hrun:=run_range_string w t s hu
   have hnew:(w.iter s 0).heap[w.heap.size]?=some (.stringIter s 0):=World.iter_heap w s 0
   have hb:=below_alloc w (.stringIter s 0)
   refine EOut.value hrun ⟨_,_,F,_,h,.b (by simp),ext_bind (v:=.pointer (some ⟨w.heap.size,0,none⟩)) hd hI hb.os hb.tape hb.output hb.size (fun b hlt _=>hb.block b hlt) (fun i c b _ hm hbk=>hb.block b (hI.owned_lt ⟨i,c,hm,hbk⟩)) (fun b hbk=>?_) ?_⟩
   ·simp [blkOf] at hbk; left; omega
   ·exact ⟨w.heap.size,by simp,hnew⟩
  ·exact h.elim
 ·exact h.elim
theorem eNext_sound {x:AV} {vx:Value} {isS:Bool} {ty:TypeId} (hI:Inv w F β st.H) (hx:Rd w F β x vx) (h:eNext x isS st k):EOut P (do pure (.value (←Instr.next vx isS ty))) w F β st k:=by
 unfold eNext at h
 split at h
 ·rename_i id
  split at h
  ·rename_i s pos hc
   have hm:=findC_mem hc
   obtain ⟨b,hβ,hh⟩:=hI.holds _ _ hm
   obtain ⟨blk,hb,rfl⟩:=hx.b_inv
   rw [hβ] at hb
   cases hb
   have hbk:blkOf (β id)=some b:=by rw [hβ]; rfl
   have hlt:=blk_lt_of_heap hh
   by_cases hp:pos < s.size
   ·have hrun:(Instr.next (.pointer (some ⟨b,0,none⟩)) true ty).run P w=.ok (.tuple #[.bool true,.int .i64 (pos:Int),.int .i32 ((Utf8.decode s pos).1:Int)]) { w with heap:=w.heap.setIfInBounds b (.stringIter s (pos+(Utf8.decode s pos).2)) }:=by
     simp only [Instr.next,getObj,setObj,Sem.run_bind,Sem.run,hh,Result.andThen,hp,if_true]
     simp [goInt,Sem.run,hh]
    refine EOut.value hrun ⟨_,_,F,β,h.1 hp,.i (.t rfl fun i hi=>?_),ext_set hI hm rfl ⟨rfl,fun _=>Nat.le_refl _⟩ rfl (by simp) (fun b' hb'=>?_) ?_⟩
    ·match i,hi with
     | 0,_=>exact .v (.inl rfl)
     | 1,_=>exact .v (.inl rfl)
     | 2,_=>exact .v (.inl rfl)
    ·exact Array.getElem?_setIfInBounds_ne fun e=>hb' (by rw [hbk,e])
    ·exact ⟨b,hβ,by simp [hlt]⟩
   ·have hrun:(Instr.next (.pointer (some ⟨b,0,none⟩)) true ty).run P w=.ok (.tuple #[.bool false]) w:=by
     simp [Instr.next,getObj,Sem.run,hh,hp]
    refine EOut.value hrun ⟨_,_,F,β,h.2 hp,.i (.t rfl fun i hi=>?_),Ext.refl hI⟩
    match i,hi with
    | 0,_=>exact .v (.inl rfl)
  ·exact h.elim
 ·exact h.elim
theorem step_sound_at {o:Oper} {a:Act} (hT:TOk P T) (hI:Inv w F β st.H) (hρ:∀x,x∈o.op.operands→Rd w F β (ev st.f x) (a.eval x)) (h:step P T o st k):EOut P (execOp a.eval o) w F β st k:=by
 have hd0:=(cond_prop h).1
 replace h:=(cond_prop h).2
 have hd:o.dst.getD 0 < 1000:=by simpa using hd0
 clear hd0
 have quiet:stepS P T o (ev st.f) st.H (fun r=>k r st)→EOut P (execOp a.eval o) w F β st k:=fun h=>quiet_out hI (stepS_sound hT hI hρ h)
 obtain ⟨dst,op,type,pos,after,guard⟩:=o
 cases op <;> simp only [Op.operands] at hρ
 case alloc t=>simp only [execOp]; exact eAlloc_sound hd hT hI h
 case box t x=>simp only [execOp]; exact eBox_sound hd hI (hρ x (by simp)) h
 case makeMap t r =>
  cases r with
  | none=>simp only [execOp]; exact eMakeMap_sound hd hT hI h
  | some r=>exact quiet h
 case range t x=>simp only [execOp]; exact eRange_sound hd hT hI (hρ x (by simp)) h
 case next x s=>simp only [execOp]; exact eNext_sound hI (hρ x (by simp)) h
 case mapUpdate t m i y=>simp only [execOp]; exact eMapUpdate_sound hT hI (hρ m (by simp)) (hρ i (by simp)) (hρ y (by simp)) h
 case store t x y=>simp only [execOp]; exact eStore_sound hT hI (hρ x (by simp)) (hρ y (by simp)) h
 case buildSlice t n parts =>
  rcases h with h | h
  ·exact quiet h
  ·simp only [execOp]
   exact eBuildS_sound hd hT hI (parts_len (ev st.f) a.eval parts) (parts_rd fun x hx=>hρ x (by simpa using hx)) h
 case slice t x lo hi mx =>
  cases mx with
  | none =>
   cases lo with
   | some l=>exact quiet h
   | none =>
    simp only [step0] at h
    split at h
    ·simp only [execOp]
     refine eSliceH_sound (vhi:=hi.map a.eval) hT hI (hρ x (by simp)) ?_ h
     cases hi with
     | none=>exact True.intro
     | some l=>exact hρ l (by simp)
    ·exact quiet h
  | some m =>
   have h:eSlice0 T t (ev st.f x) (lo.map (ev st.f)) (hi.map (ev st.f)) (some (ev st.f m)) (dst.getD 0) st k:=by cases lo <;> exact h
   simp only [execOp]
   refine eSlice0_sound (vlo:=lo.map a.eval) (vhi:=hi.map a.eval) (vmx:=some (a.eval m)) hd hT hI (hρ x (by simp)) ?_ ?_ ?_ h
   ·cases lo with
    | none=>exact True.intro
    | some l=>exact hρ l (by simp)
   ·cases hi with
    | none=>exact True.intro
    | some l=>exact hρ l (by simp)
   ·exact hρ m (by simp)
 case makeSlice t l c =>
  rcases h with h | h
  ·exact quiet h
  ·simp only [execOp]; exact eMake_sound hd hT hI (hρ l (by simp)) (hρ c (by simp)) h
 case convert s t x =>
  simp only [step0] at h
  split at h
  ·rename_i id hid
   simp only [execOp]
   have hx:=hρ x (by simp)
   rw [hid] at hx
   exact eConv_sound hT hI hx h
  ·exact quiet h
 case call c =>
  obtain ⟨callee,args,argTypes⟩:=c
  have hargs:∀i,i < (args.toList.map (ev st.f)).length→Rd w F β ((args.toList.map (ev st.f)).getD i .junk) ((args.map a.eval).getD i undef):=fun i hi=>by
   simp at hi
   simpa [List.getD,hi] using hρ args[i] (by simp [Call.operands])
  cases callee with
  | builtin b =>
   cases b
   case append=>simp only [execOp]; exact eAppend_run hd hT hI (fun x hx=>hρ x (by simp [Call.operands,hx])) h
   case clear=>simp only [execOp]; exact eClear_run hT hI (fun x hx=>hρ x (by simp [Call.operands,hx])) h
   all_goals exact quiet h
  | value f=>simp only [execOp]; exact eCall_run hI (hρ f (by simp [Call.operands])) hargs h
  | invoke r m=>exact quiet h
 all_goals exact quiet h
theorem step_sound {o:Oper} {a:Act} (hT:TOk P T) (hI:Inv w F β st.H) (hf:∀t,Rd w F β (st.f t) (a.tmps.getD t undef)) (h:step P T o st k):EOut P (execOp a.eval o) w F β st k :=
 step_sound_at hT hI (fun x _=>ev_rd hf x) h
end
end Go.Cat
set_option linter.all false
namespace Go.Cat
open Go.RowKit
variable [M:Mono]
def Br (b want:Bool) (yes no:Prop):Prop :=
 match b,want with
 | true,true=>yes
 | false,false=>yes
 | true,false=>no
 | false,true=>no
theorem Br.y {b want:Bool} {yes no:Prop} (h:Br b want yes no) (hb:b=want):yes:=by subst hb; cases b <;> exact h
theorem Br.n {b want:Bool} {yes no:Prop} (h:Br b want yes no) (hb:b=!want):no:=by subst hb; cases want <;> exact h
theorem Br.tt {yes no:Prop} (h:yes):Br true true yes no:=h
theorem Br.ff {yes no:Prop} (h:yes):Br false false yes no:=h
theorem Br.tf {yes no:Prop} (h:no):Br true false yes no:=h
theorem Br.ft {yes no:Prop} (h:no):Br false true yes no:=h
theorem Br.yes {b want:Bool} {yes no:Prop} (hb:b=want) (h:yes):Br b want yes no:=by
 subst hb; cases b
 ·exact Br.ff h
 ·exact Br.tt h
theorem Br.no {b want:Bool} {yes no:Prop} (hb:b=!want) (h:no):Br b want yes no:=by
 subst hb; cases want
 ·exact Br.tf h
 ·exact Br.ft h
theorem Br.ite {b:Bool} {ρ:Type} {X Y:Option ρ} {r:ρ} {yes no:Prop} (h:(if b=true then X else Y)=some r) (y:b=true→X=some r→yes) (n:b=false→Y=some r→no):Br b true yes no:=by
 cases b with
 | true=>exact y rfl (by simpa using h)
 | false=>exact n rfl (by simpa using h)
theorem Br.itf {b:Bool} {ρ:Type} {X Y:Option ρ} {r:ρ} {yes no:Prop} (h:(if b=true then X else Y)=some r) (y:b=true→X=some r→no) (n:b=false→Y=some r→yes):Br b false yes no:=by
 cases b with
 | true=>exact y rfl (by simpa using h)
 | false=>exact n rfl (by simpa using h)
def frc (x:AV) (k:AV→Prop):Prop :=
 match x with
 | .v a=>k (.v a)
 | .s a=>k (.s a)
 | .p a=>k (.p a)
 | .a a=>k (.a a)
 | .t a=>k (.t a)
 | .c a b c=>k (.c a b c)
 | .b a b=>k (.b a b)
 | .o a=>k (.o a)
 | .e a b c d=>k (.e a b c d)
 | .w a b c=>k (.w a b c)
 | .m a=>k (.m a)
 | .z=>k .z
 | .junk=>k .junk
theorem frc_eq (x:AV) (k:AV→Prop):frc x k=k x:=by cases x <;> rfl
def put (n:Nat) (dst:Option Nat) (st:ASt) (r:AV) (K:ASt→Prop):Prop :=
 match st with
 | ⟨f,H⟩=>match dst with
  | none=>K ⟨f,H⟩
  | some d=>bif Nat.blt d n then frc r fun r=>K ⟨upd f d r,H⟩ else False
theorem put_eq (n:Nat) (dst:Option Nat) (st:ASt) (r:AV) (K:ASt→Prop):put n dst st r K=match dst with
  | none=>K st
  | some d=>bif Nat.blt d n then K ⟨upd st.f d r,st.H⟩ else False:=by
 cases st
 cases dst with
 | none=>rfl
 | some d=>simp only [put,frc_eq]
def gd (n:Nat) (all:Array Oper) (o:Oper) (st:ASt) (yes no:ASt→Prop):Prop :=
 match st with
 | ⟨f,H⟩=>match o.guard with
  | none=>yes ⟨f,H⟩
  | some (j,want)=>match (all[j]?).bind (·.dst) with
   | some d=>bif Nat.blt d n then
     match f d with
     | .v (.bool b)=>Br b want (yes ⟨upd f d (.v (.bool want)),H⟩) (no ⟨upd f d (.v (.bool (!want))),H⟩)
     | .v (.tuple _)=>no ⟨f,H⟩
     | _=>False
    else False
   | none=>False
theorem gd_eq (n:Nat) (all:Array Oper) (o:Oper) (st:ASt) (yes no:ASt→Prop):gd n all o st yes no=match o.guard with
 | none=>yes st
 | some (j,want)=>match (all[j]?).bind (·.dst) with
  | some d=>bif Nat.blt d n then
    match st.f d with
    | .v (.bool b)=>Br b want (yes ⟨upd st.f d (.v (.bool want)),st.H⟩) (no ⟨upd st.f d (.v (.bool (!want))),st.H⟩)
    | .v (.tuple _)=>no st
    | _=>False
   else False
  | none=>False:=by cases st; rfl
def wpo (P:Program) (T:TT) (n:Nat) (all:Array Oper):List Oper→ASt→(ASt→Prop)→Prop
 | [],st,K=>K st
 | o::os,st,K=>gd n all o st (fun st=>step P T o st fun r st'=>put n o.dst st' r fun st''=>wpo P T n all os st'' K) fun st=>put n o.dst st (.v undef) fun st'=>wpo P T n all os st' K
class Rnds where
 any:Prop
abbrev Rnds.yes:Rnds:=⟨True⟩
abbrev Rnds.no:Rnds:=⟨False⟩
variable [R:Rnds]
structure Ctx where
 w:World
 F:Nat→Prop
 β:Nat→Value
 H:Hp
 n:Nat
 ro:Option Nat:=none
 hro:ro=none∨R.any:=by exact .inl rfl
structure XM (C:Ctx) (ds:List Deferred) (w:World) (F:Nat→Prop) (β:Nat→Value) (H:Hp):Prop where
 x:Ext C.w C.F C.β ⟨noSlots,C.H⟩ w F β ⟨noSlots,H⟩
 m:∀d,d∈ds→∃D,d={ target:=.collected D,args:=#[] }∧C.w.heap.size≤D∧w.heap[D]?=some (.deferred (some []))∧¬F D∧¬Owned β H D
 nd:ds.Nodup
section
variable {C:Ctx} {ds:List Deferred} {w w':World} {F F':Nat→Prop} {β β':Nat→Value} {H H':Hp}
theorem XM.inv (h:XM C ds w F β H):Inv w F β H:=h.x.inv
theorem Ext.no {st st':ASt} (h:Ext w F β st w' F' β' st'):Ext w F β ⟨noSlots,st.H⟩ w' F' β' ⟨noSlots,st'.H⟩ :=
 ⟨h.os,h.tape,h.output,h.size,h.block,h.mono,h.new,h.owned,fun _ _ _=>.junk,h.inv,h.lab⟩
theorem XM.trans {f f':Nat→AV} (h:XM C ds w F β H) (hx:Ext w F β ⟨f,H⟩ w' F' β' ⟨f',H'⟩):XM C ds w' F' β' H' where
 x:=h.x.trans hx.no
 m d hd:=by
  obtain ⟨D,h1,h2,h3,h4,h5⟩:=h.m d hd
  have hlt:=blk_lt_of_heap h3
  refine ⟨D,h1,h2,(hx.block D hlt h5).trans h3,fun hF=>?_,fun ho=>?_⟩
  ·rcases hx.new D hF with h | h | h
   ·exact h4 h
   ·exact absurd hlt (Nat.not_lt.2 h)
   ·exact h5 h
  ·rcases hx.owned D ho with h | h
   ·exact absurd hlt (Nat.not_lt.2 h)
   ·exact h5 h
 nd:=h.nd
theorem XM.noS (h:XM C ds w F β H):XM C ds w F β H:=h
end
def Rel (C:Ctx) (st:ASt) (a:Act) (w:World):Prop :=
 ∃F β,a.tmps.size=C.n∧True∧(∀t,Rd w F β (st.f t) (a.tmps.getD t undef))∧XM C a.defers w F β st.H
def AWp (P:Program) (C:Ctx) (c:Code) (st:ASt) (Q:Exit→ASt→Prop):Prop :=
 ∀a w,Rel C st a w→c.wpIn (fen C.ro) 0 P (fun e a' w'=>∃st',Rel C st' a' w'∧Q e st') a w
structure LoopOk (P:Program) (n:Nat) (c:Code) (st:ASt) (Q:Exit→ASt→Prop):Prop where
 h:∀C:Ctx,C.n=n→AWp P C (.loop c) st Q
structure DrawOk (P:Program) (n:Nat) (id:Nat) (ops:Array Oper) (st:ASt) (K:ASt→Prop):Prop where
 h:∀C:Ctx,C.n=n→AWp P C (.region id ops true) st fun e st'=>match e with
  | .normal=>K st'
  | _=>False
def wpc (P:Program) (T:TT) (n:Nat):Code→ASt→(Exit→ASt→Prop)→Prop
 | .skip,st,Q=>Q .normal st
 | .label _,st,Q=>Q .normal st
 | .region id ops draw,st,Q=>bif draw then DrawOk P n id ops st (Q .normal) else wpo P T n ops ops.toList st (Q .normal)
 | .seq x y,st,Q=>wpc P T n x st fun e s=>match e with
  | .normal=>wpc P T n y s Q
  | e=>Q e s
 | .cond c x y,st,Q=>match c with
  | .tmp d=>bif Nat.blt d n then
    match st.f d with
    | .v (.bool b)=>Br b true (wpc P T n x ⟨upd st.f d (.v (.bool true)),st.H⟩ Q) (wpc P T n y ⟨upd st.f d (.v (.bool false)),st.H⟩ Q)
    | _=>False
   else False
  | .const (.bool true)=>wpc P T n x st Q
  | .const (.bool false)=>wpc P T n y st Q
  | _=>False
 | .block id c,st,Q=>wpc P T n c st fun e s=>match e with
  | .exit i=>bif Nat.beq i id then Q .normal s else Q (.exit i) s
  | e=>Q e s
 | .loop c,st,Q=>LoopOk P n c st Q
 | .exit id,st,Q=>Q (.exit id) st
 | .ret,st,Q=>Q .ret st
 | _,_,_=>False
section
variable {P:Program} {T:TT} {C:Ctx}
theorem Ext.slots {w:World} {F:Nat→Prop} {β:Nat→Value} {st:ASt} {w':World} {F':Nat→Prop} {β':Nat→Value} {st':ASt} (h:Ext w F β st w' F' β' st') (f:Nat→AV) :
  Ext w F β ⟨f,st.H⟩ w' F' β' ⟨noSlots,st'.H⟩ :=
 ⟨h.os,h.tape,h.output,h.size,h.block,h.mono,h.new,h.owned,fun _ _ _=>.junk,h.inv,h.lab⟩
theorem Rd.put {w:World} {F:Nat→Prop} {β:Nat→Value} {f:Nat→AV} {a:Act} {d:Nat} {r:AV} {v:Value} (hf:∀t,Rd w F β (f t) (a.tmps.getD t undef)) (hv:Rd w F β r v) (hd:d < a.tmps.size) :
  ∀t,Rd w F β (upd f d r t) ((a.put (some d) v).tmps.getD t undef):=by
 intro t
 unfold upd
 cases hb:Nat.beq t d with
 | true =>
  obtain rfl:=Nat.eq_of_beq_eq_true hb
  simpa [Act.put,hd] using hv
 | false =>
  have hne:d≠t:=fun e=>by rw [e,Nat.beq_refl] at hb; cases hb
  have:=hf t
  simpa [Act.put,Array.getElem?_setIfInBounds_ne hne] using this
theorem upd_same {w:World} {F:Nat→Prop} {β:Nat→Value} {f:Nat→AV} {a:Act} {d:Nat} {b c:Bool} (hf:∀t,Rd w F β (f t) (a.tmps.getD t undef)) (hd:f d=.v (.bool b)) (hb:b=c) :
  ∀t,Rd w F β (upd f d (.v (.bool c)) t) (a.tmps.getD t undef):=by
 intro t
 unfold upd
 cases ht:Nat.beq t d with
 | true =>
  obtain rfl:=Nat.eq_of_beq_eq_true ht
  subst hb
  simpa [hd] using hf t
 | false=>exact hf t
theorem put_rel {n:Nat} {dst:Option Nat} {st:ASt} {r:AV} {K:ASt→Prop} {a:Act} {w:World} {F:Nat→Prop} {β:Nat→Value} {v:Value} (hn:C.n=n) (hs:a.tmps.size=C.n) (hd:True)
  (hf:∀t,Rd w F β (st.f t) (a.tmps.getD t undef)) (he:XM C a.defers w F β st.H) (hv:Rd w F β r v) (h:put n dst st r K):∃st',Rel C st' (a.put dst v) w∧K st':=by
 rw [put_eq] at h
 cases dst with
 | none=>exact ⟨st,⟨F,β,hs,hd,hf,he⟩,h⟩
 | some d =>
  obtain ⟨hlt,hk⟩:=cond_prop h
  have hlt:d < n:=by simpa [Nat.blt_eq] using hlt
  exact ⟨⟨upd st.f d r,st.H⟩,⟨F,β,by simpa [Act.put] using hs,hd,Rd.put hf hv (by omega),he⟩,hk⟩
theorem put_defers (a:Act) (dst:Option Nat) (v:Value):(a.put dst v).defers=a.defers:=by cases dst <;> rfl
theorem callsIn_fen {ro:Option Nat} {m:Nat} {f:FuncId} {args:Array Value} {w:World} {R:Ending→World→Prop} (h:Calls P f args w R):CallsIn (fen ro) m P f args w R :=
 ⟨trivial,fun cs _=>let ⟨e,w',fr,r,s,x⟩:=h cs; ⟨e,w',fr,r,comesIn_wide.2 s,x⟩⟩
theorem roundIn_fen {ro:Option Nat} {m m':Nat} {l:Nat} {f:FuncId} {tmps:Array Value} {assign body:Code} {w:World} {R:Ending→World→Prop} (h:RoundIn Fence.wide m P l f tmps assign body w R):RoundIn (fen ro) m' P l f tmps assign body w R :=
 ⟨trivial,fun c cs _=>h.2 c cs (room_wide _)⟩
theorem Oper.inW {o:Oper} {ro:Option Nat} {a:Act} {w:World} {N:Act→World→Prop} {Q:Exit→Act→World→Prop} {r:Result Next} (hd:∀c,o.op≠.defer c) (hrun:(execOp a.eval o).run P w=r) (h:o.uponIn (fen ro) 0 P a N Q r):o.wpIn (fen ro) 0 P a w N Q :=
 ⟨fun _ _=>trivial,by rw [Oper.semAt_eq _ _ _ hd,hrun]; exact h⟩
theorem stepS_nodefer {o:Oper} {ρ:Operand→AV} {H:Hp} {k:AV→Prop} (h:stepS P T o ρ H k):∀c,o.op≠.defer c:=fun c e=>by
 unfold stepS at h; rw [e] at h; exact h
theorem step_nodefer {o:Oper} {st:ASt} {k:AV→ASt→Prop} (h:step P T o st k):∀c,o.op≠.defer c:=fun c e=>by
 have h:=(cond_prop h).2
 unfold step0 at h
 rw [e] at h
 exact stepS_nodefer h c e
theorem wpOp_one {n:Nat} {all:Array Oper} {o:Oper} {i:Nat} {st:ASt} {K:ASt→Prop} {a:Act} {w:World} {Q:Exit→Act→World→Prop} {N:Act→World→Prop} (hT:TOk P T) (hn:C.n=n) (ho:all[i]?=some o) (hr:Rel C st a w)
  (hN:∀st a w,Rel C st a w→K st→N a w)
  (h:gd n all o st (fun st=>step P T o st fun r st'=>put n o.dst st' r K) fun st=>put n o.dst st (.v undef) K):wpOpIn (fen C.ro) 0 P all Q i N a w:=by
 obtain ⟨F,β,hs,hd,hf,he⟩:=hr
 have hI:Inv w F β st.H:=he.inv
 have run:∀st,st.H=st.H→(∀t,Rd w F β (st.f t) (a.tmps.getD t undef))→Inv w F β st.H→XM C a.defers w F β st.H→(step P T o st fun r st'=>put n o.dst st' r K)→o.wpIn (fen C.ro) 0 P a w N Q:=by
  intro st _ hf hI he h
  have hnd:=step_nodefer h
  rcases step_sound hT hI hf h with ⟨v,w',hrun,r,st',F',β',hk,hv,hx⟩ | ⟨w',hrun,r,st',F',β',hk,hv,hx⟩ | ⟨g,vs,hrun,hc⟩ | ⟨l,fn,tmps,assign,body,hrun,hc⟩
  ·refine Oper.inW hnd hrun ?_
   rw [Oper.uponIn_value]
   obtain ⟨st'',h1,h2⟩:=put_rel hn hs hd (fun t=>hx.keep t _ (hf t)) (he.trans (hx.slots noSlots)) hv hk
   exact hN _ _ _ h1 h2
  ·refine Oper.inW hnd hrun ?_
   rw [Oper.uponIn_skip]
   obtain ⟨st'',h1,h2⟩:=put_rel hn hs hd (fun t=>hx.keep t _ (hf t)) (he.trans (hx.slots noSlots)) hv hk
   exact hN _ _ _ h1 h2
  ·refine Oper.inW hnd hrun ?_
   rw [Oper.uponIn_enter]
   refine ⟨fun h=>(by cases h),callsIn_fen (hc.mono ?_)⟩
   rintro e w' ⟨v,rfl,r,st',F',β',hk,hv,hx⟩
   obtain ⟨st'',h1,h2⟩:=put_rel hn hs hd (fun t=>hx.keep t _ (hf t)) (he.trans (hx.slots noSlots)) hv hk
   exact hN _ _ _ h1 h2
  ·refine Oper.inW hnd hrun ?_
   rw [Oper.uponIn_round]
   refine ⟨fun h=>(by cases h),roundIn_fen (hc.mono ?_)⟩
   rintro e w' ⟨v,rfl,r,st',F',β',hk,hv,hx⟩
   obtain ⟨st'',h1,h2⟩:=put_rel hn hs hd (fun t=>hx.keep t _ (hf t)) (he.trans (hx.slots noSlots)) hv hk
   exact hN _ _ _ h1 h2
 have skip:∀st:ASt,(∀t,Rd w F β (st.f t) (a.tmps.getD t undef))→XM C a.defers w F β st.H→put n o.dst st (.v undef) K→N (a.put o.dst undef) w:=by
  intro st hf he h
  obtain ⟨st'',h1,h2⟩:=put_rel hn hs hd hf he (.i (.v (.inr rfl)):Rd w F β (.v undef) undef) h
  exact hN _ _ _ h1 h2
 unfold wpOpIn
 simp only [ho]
 rw [gd_eq] at h
 cases hg:o.guard with
 | none =>
  rw [hg] at h
  have hw:Region.wanted o (yielded all a.tmps)=true:=by simp [Region.wanted,hg]
  rw [if_pos hw]
  exact run st rfl hf hI he h
 | some jw =>
  obtain ⟨j,want⟩:=jw
  rw [hg] at h
  simp only at h
  split at h
  ·rename_i d hdd
   obtain ⟨hlt,h⟩:=cond_prop h
   have hlt:d < a.tmps.size:=by rw [hs,hn]; simpa [Nat.blt_eq] using hlt
   have hfd:=hf d
   have hy:∀v,a.tmps.getD d undef=v→yielded all a.tmps j=match v with | .bool b=>some b | _=>none:=by
    intro v hv
    have h2:a.tmps[d]?=some v:=by
     rw [←hv]; simp [hlt]
    unfold yielded
    rw [hdd,Option.bind_some,h2]
    cases v <;> rfl
   split at h
   ·rename_i b hb
    rw [hb] at hfd
    have hv:=hfd.v_inv
    have hyb:=hy _ hv
    simp only at hyb
    by_cases hbw:b=want
    ·have hw:Region.wanted o (yielded all a.tmps)=true:=by simp [Region.wanted,hg,hyb,hbw]
     rw [if_pos hw]
     exact run ⟨upd st.f d (.v (.bool want)),st.H⟩ rfl (upd_same hf hb hbw) hI he (h.y hbw)
    ·have hbn:b=!want:=by cases b <;> cases want <;> first | rfl | exact absurd rfl hbw
     have hw:¬Region.wanted o (yielded all a.tmps)=true:=by simp [Region.wanted,hg,hyb,hbw]
     rw [if_neg hw]
     exact ⟨fun _ _=>trivial,skip ⟨upd st.f d (.v (.bool !want)),st.H⟩ (upd_same hf hb hbn) he (h.n hbn)⟩
   ·rename_i vs hb
    rw [hb] at hfd
    have hv:=hfd.v_inv
    have hyb:=hy _ hv
    simp only at hyb
    have hw:¬Region.wanted o (yielded all a.tmps)=true:=by simp [Region.wanted,hg,hyb]
    rw [if_neg hw]
    exact ⟨fun _ _=>trivial,skip st hf he h⟩
   ·exact h.elim
  ·exact h.elim
theorem wpo_sound {n:Nat} {all:Array Oper} {K:ASt→Prop} {Q:Exit→Act→World→Prop} (hT:TOk P T) (hn:C.n=n) (hQ:∀st a w,Rel C st a w→K st→Q .normal a w) :
  ∀(l:List Oper) (i:Nat) (st:ASt) (a:Act) (w:World),(∀k,k < l.length→all[i+k]?=l[k]?)→Rel C st a w→wpo P T n all l st K→wpOpsIn (fen C.ro) 0 P all Q (List.range' i l.length) a w:=by
 intro l
 induction l with
 | nil=>intro i st a w _ hr h; exact hQ _ _ _ hr h
 | cons o os ih =>
  intro i st a w hall hr h
  have ho:all[i]?=some o:=by simpa using hall 0 (by simp)
  rw [List.length_cons,List.range'_succ,wpOpsIn_cons]
  refine wpOp_one (K:=fun st=>wpo P T n all os st K) hT hn ho hr (fun st a w hr hk=>?_) h
  exact ih (i+1) st a w (fun k hk=>by have:=hall (k+1) (by simp; omega); rw [show i+1+k=i+(k+1) by omega]; simpa using this) hr hk
theorem wpc_sound {n:Nat} (hT:TOk P T) (hn:C.n=n):∀(c:Code) (st:ASt) (Q:Exit→ASt→Prop),wpc P T n c st Q→AWp P C c st Q:=by
 intro c
 induction c with
 | skip=>intro st Q h a w hr; exact wpIn_skip ⟨st,hr,h⟩
 | label l=>intro st Q h a w hr; exact wpIn_label ⟨st,hr,h⟩
 | region id ops draw =>
  intro st Q h a w hr
  cases draw with
  | true =>
   refine wpIn_mono ((show DrawOk P n id ops st (Q .normal) from h).h C hn a w hr) ?_
   rintro e a' w' ⟨st',hr',hq⟩
   cases e <;> first | exact ⟨st',hr',hq⟩ | exact hq.elim
  | false =>
   refine wpIn_region ?_
   have:=wpo_sound (C:=C) (Q:=fun e a' w'=>∃st',Rel C st' a' w'∧Q e st') hT hn (fun st a w hr hk=>⟨st,hr,hk⟩) ops.toList 0 st a w (fun k hk=>by simp) hr h
   simpa [List.range_eq_range'] using this
 | seq x y ihx ihy =>
  intro st Q h a w hr
  refine wpIn_seq (wpIn_mono (ihx st _ h a w hr) ?_)
  rintro e a' w' ⟨st',hr',hq⟩
  cases e <;> first | exact ihy st' Q hq a' w' hr' | exact ⟨st',hr',hq⟩
 | cond c x y ihx ihy =>
  intro st Q h a w hr
  cases c with
  | tmp d =>
   obtain ⟨hlt,h⟩:=cond_prop h
   split at h
   ·rename_i b hb
    obtain ⟨F,β,hs,hd,hf,he⟩:=hr
    have hfd:=hf d
    rw [hb] at hfd
    have hv:a.eval (.tmp d)=.bool b:=hfd.v_inv
    refine wpIn_cond_split hv (fun ht=>?_) fun ht=>?_
    ·exact ihx _ _ (h.y ht) a w ⟨F,β,hs,hd,upd_same hf hb ht,he⟩
    ·exact ihy _ _ (h.n (by simpa using ht)) a w ⟨F,β,hs,hd,upd_same hf hb ht,he⟩
   ·exact h.elim
  | const v =>
   cases v <;> first | exact h.elim | skip
   rename_i b
   cases b with
   | true=>exact wpIn_cond_true rfl (ihx _ _ h a w hr)
   | false=>exact wpIn_cond_false rfl (ihy _ _ h a w hr)
  | global g=>exact h.elim
  | func g=>exact h.elim
 | block id c ih =>
  intro st Q h a w hr
  refine wpIn_block (wpIn_mono (ih st _ h a w hr) ?_)
  rintro e a' w' ⟨st',hr',hq⟩
  cases e with
  | exit i =>
   by_cases hi:i=id
   ·subst hi
    simp only [Nat.beq_refl,cond_true] at hq
    simp only [Exit.inBlock,if_true]
    exact ⟨st',hr',hq⟩
   ·have:Nat.beq i id=false:=by cases hb:Nat.beq i id; rfl; exact absurd (Nat.eq_of_beq_eq_true hb) hi
    simp only [this,cond_false] at hq
    simp only [Exit.inBlock,if_neg hi]
    exact ⟨st',hr',hq⟩
  | _=>exact ⟨st',hr',hq⟩
 | loop c ih=>intro st Q h a w hr; exact (show LoopOk P n c st Q from h).h C hn a w hr
 | exit id=>intro st Q h a w hr; exact wpIn_exit ⟨st,hr,h⟩
 | ret=>intro st Q h a w hr; exact wpIn_ret ⟨st,hr,h⟩
 | scope c ih=>intro st Q h; exact h.elim
 | goto l=>intro st Q h; exact h.elim
 | refuse s=>intro st Q h; exact h.elim
 | rangeFunc f ps x y ihx ihy=>intro st Q h; exact h.elim
end
end Go.Cat
set_option linter.all false
namespace Go.Cat
open Go.RowKit
variable [M:Mono]
def resL (T:TT):List ResultVar→ASt→(List AV→Prop)→Prop
 | [],_,k=>k []
 | .tmp t::r,st,k=>resL T r st fun vs=>k (st.f t::vs)
 | .cell t ty::r,st,k=>match st.f t with
  | .b id off=>sLoad T ty (.b id off) st.H fun x=>resL T r st fun vs=>k (x::vs)
  | _=>False
def resK (T:TT) (rs:List ResultVar) (st:ASt) (k:AV→Prop):Prop :=
 resL T rs st fun vs=>match vs with
  | [x]=>k x
  | vs=>k (.t vs)
def fpost (T:TT) (rs:List ResultVar) (R:AV→ASt→Prop):Exit→ASt→Prop
 | .normal,st=>resK T rs st fun x=>R x st
 | .ret,st=>resK T rs st fun x=>R x st
 | _,_=>False
def initf (args:List AV):Nat→AV:=fun t=>args.getD t (.v undef)
def Fz (H:Hp) (x r:AV):Prop:=∀(w:World) (F:Nat→Prop) (β:Nat→Value) (u:Value),Inv w F β H→Rd w F β x u→RdI w (fun b=>F b∨Owned β H b) r u
section
variable {P:Program} {T:TT} {w:World} {F:Nat→Prop} {β:Nat→Value}
theorem resL_sound (hT:TOk P T) {tmps:Array Value}:∀(rs:List ResultVar) {st:ASt} {k:List AV→Prop},Inv w F β st.H→(∀t,Rd w F β (st.f t) (tmps.getD t undef))→resL T rs st k →
  ∃vs xs,(rs.mapM fun (r:ResultVar)=>(match r with
   | .tmp t=>pure (tmps.getD t undef)
   | .cell a t=>do loadVar t (←asAddr (tmps.getD a undef)):Sem Value)).run P w=.ok vs w∧k xs∧vs.length=xs.length∧∀i,i < xs.length→Rd w F β (xs.getD i .junk) (vs.getD i undef)
 | [],st,k,_,_,h=>⟨[],[],by simp,h,rfl,fun i hi=>by simp at hi⟩
 | .tmp t::r,st,k,hI,hf,h=>by
  obtain ⟨vs,xs,hr,hk,hl,hv⟩:=resL_sound hT r hI hf h
  refine ⟨tmps.getD t undef::vs,st.f t::xs,by rw [List.mapM_cons]; simp only [Sem.run_bind,Sem.run_pure,Result.andThen_ok,hr],hk,by simp [hl],fun i hi=>?_⟩
  cases i with
  | zero=>exact hf t
  | succ i=>exact hv i (by simpa using hi)
 | .cell t ty::r,st,k,hI,hf,h=>by
  simp only [resL] at h
  split at h
  ·rename_i id off hid
   have hfd:=hf t
   rw [hid] at hfd
   obtain ⟨v,x,hrun,h,hx⟩:=sLoad_same (P:=P) hT hI hfd h
   obtain ⟨blk,hβ,hv⟩:=hfd.b_inv
   have hrun':(loadVar ty ⟨blk,off,none⟩).run P w=.ok v w:=by
    rw [hv] at hrun
    simpa [Instr.loadAt,Instr.sureAddr] using hrun
   obtain ⟨vs,xs,hr,hk,hl,hv'⟩:=resL_sound hT r hI hf h
   refine ⟨v::vs,x::xs,?_,hk,by simp [hl],fun i hi=>?_⟩
   ·have e:(do loadVar ty (←asAddr (tmps.getD t undef)):Sem Value).run P w=.ok v w:=by
     rw [hv]; simpa [asAddr] using hrun'
    rw [List.mapM_cons,Sem.run_bind]
    erw [e]
    simp only [Result.andThen_ok,Sem.run_bind,hr,Sem.run_pure]
   ·cases i with
    | zero=>exact hx
    | succ i=>exact hv' i (by simpa using hi)
  ·exact h.elim
theorem resK_sound (hT:TOk P T) {fn:Func} {tmps:Array Value} {st:ASt} {k:AV→Prop} (hI:Inv w F β st.H) (hf:∀t,Rd w F β (st.f t) (tmps.getD t undef)) (h:resK T fn.results.toList st k) :
  ∃v x,(results fn tmps).run P w=.ok v w∧k x∧Rd w F β x v:=by
 obtain ⟨vs,xs,hr,hk,hl,hv⟩:=resL_sound hT fn.results.toList hI hf h
 have hm:(fn.results.mapM fun (r:ResultVar)=>(match r with
   | .tmp t=>pure (tmps.getD t undef)
   | .cell a t=>do loadVar t (←asAddr (tmps.getD a undef)):Sem Value)).run P w=.ok vs.toArray w:=by
  rw [Array.mapM_eq_mapM_toList]
  simp only [Sem.run_map,hr,Result.andThen_ok]
 have hres:(results fn tmps).run P w=.ok (if h:vs.toArray.size=1 then vs.toArray[0] else .tuple vs.toArray) w:=by
  unfold results
  rw [Sem.run_bind]
  exact congrArg (fun z:Result (Array Value)=>z.andThen fun (a:Array Value) w'=>Sem.run P (pure (if h:a.size=1 then a[0] else .tuple a)) w') hm
 split at hk
 ·rename_i x
  obtain ⟨v,rfl⟩:=List.length_eq_one_iff.1 (by simpa using hl:vs.length=1)
  exact ⟨v,x,by rw [hres]; rfl,hk,by simpa using hv 0 (by simp)⟩
 ·rename_i hne
  have hsz:¬vs.toArray.size=1:=fun h1=>by
   have:xs.length=1:=by simpa [hl] using h1
   match xs,this with
   | [x],_=>exact hne x rfl
  refine ⟨.tuple vs.toArray,.t xs,by rw [hres,dif_neg hsz],hk,.t (by simpa using hl) fun i hi=>?_⟩
  simpa [List.getD] using hv i hi
theorem init_rd {args:List AV} {vs:Array Value} {n:Nat} (hs:vs.size=args.length) (hv:∀i,i < args.length→Rd w F β (args.getD i .junk) (vs.getD i undef)) :
  ∀t,Rd w F β (initf args t) ((vs++Array.replicate (n - vs.size) undef).getD t undef):=by
 intro t
 unfold initf
 by_cases ht:t < args.length
 ·have h1:=hv t ht
  have e1:args.getD t (.v undef)=args.getD t .junk:=by simp [List.getD,ht]
  have e2:(vs++Array.replicate (n - vs.size) undef).getD t undef=vs.getD t undef:=by
   simp [Array.getElem?_append,hs,ht]
  rw [e1,e2]; exact h1
 ·have e1:args.getD t (.v undef)=.v undef:=by simp [List.getD,ht]
  have e2:(vs++Array.replicate (n - vs.size) undef).getD t undef=undef:=by
   simp only [Array.getD_eq_getD_getElem?,Array.getElem?_append,hs,ht,if_false,Array.getElem?_replicate]
   split <;> rfl
  rw [e1,e2]; exact .i (.v (.inr rfl))
theorem Fz.imm {H:Hp} {x:AV} (h:imm1 x=true):Fz H x x:=fun _ _ _ _ _ hr=>(imm1_rd h hr).frame (fun _ _=>rfl) fun _ h=>.inl h
theorem Fz.v {H:Hp} {x:Value}:Fz H (.v x) (.v x):=Fz.imm rfl
theorem Fz.s {H:Hp} {x:List (List AV)}:Fz H (.s x) (.s x):=Fz.imm rfl
theorem Fz.nil {H:Hp}:Fz H (.v (.slice none 0 0)) (.s []):=fun _ _ _ _ _ hr=>by rw [hr.v_inv]; exact .s0
theorem Fz.o {H:Hp} {id E K:Nat} {rows:List (List AV)} (h:findC id H=some (.own E K rows)):Fz H (.o id) (.s rows):=fun _ _ _ _ hI hr=>own_rd hI (findC_mem h) hr
inductive FzL (H:Hp):List AV→List AV→Prop where
 | nil:FzL H [] []
 | cons {x y:AV} {xs ys:List AV} (h:Fz H x y) (t:FzL H xs ys):FzL H (x::xs) (y::ys)
theorem FzL.spec {H:Hp} {xs ys:List AV} (h:FzL H xs ys):xs.length=ys.length∧∀i,i < xs.length→Fz H (xs.getD i .junk) (ys.getD i .junk):=by
 induction h with
 | nil=>exact ⟨rfl,fun i hi=>by simp at hi⟩
 | cons h t ih =>
  refine ⟨by simp [ih.1],fun i hi=>?_⟩
  cases i with
  | zero=>simpa using h
  | succ i=>simpa using ih.2 i (by simpa using hi)
theorem Fz.a {H:Hp} {xs ys:List AV} (h:FzL H xs ys):Fz H (.a xs) (.a ys):=fun _ _ _ _ hI hr=>by
 obtain ⟨us,rfl,hs,h1,hu⟩:=hr.a_inv
 obtain ⟨hl,hz⟩:=h.spec
 exact .a (by omega) (fun i hi=>h1 i (by omega)) fun i hi=>hz i (by omega) _ _ _ _ hI (hu i (by omega))
theorem Fz.t {H:Hp} {xs ys:List AV} (h:FzL H xs ys):Fz H (.t xs) (.t ys):=fun _ _ _ _ hI hr=>by
 obtain ⟨us,rfl,hs,hu⟩:=hr.t_inv
 obtain ⟨hl,hz⟩:=h.spec
 exact .t (by omega) fun i hi=>hz i (by omega) _ _ _ _ hI (hu i (by omega))
theorem Inv.nil {H:Hp} (h:Inv w F β H):Inv w F β [] :=
 ⟨h.fsize,fun _ _ hm=>(List.not_mem_nil hm).elim,List.nodup_nil,fun _ ⟨_,_,hm,_⟩=>(List.not_mem_nil hm).elim,fun _ _ _ _ _ hm=>(List.not_mem_nil hm).elim⟩
def Le (x y:AV):Prop:=∀(w:World) (F:Nat→Prop) (β:Nat→Value) (u:Value),Rd w F β x u→Rd w F β y u
theorem Le.refl (x:AV):Le x x:=fun _ _ _ _ h=>h
theorem Le.nil:Le (.v (.slice none 0 0)) (.s []):=fun _ _ _ _ h=>by rw [h.v_inv]; exact .i .s0
inductive LeL:List AV→List AV→Prop where
 | nil:LeL [] []
 | cons {x y:AV} {xs ys:List AV} (h:Le x y) (t:LeL xs ys):LeL (x::xs) (y::ys)
theorem LeL.refl:∀(xs:List AV),LeL xs xs
 | []=>.nil
 | x::xs=>.cons (Le.refl x) (LeL.refl xs)
theorem LeL.spec {xs ys:List AV} (h:LeL xs ys):xs.length=ys.length∧∀i,i < xs.length→Le (xs.getD i .junk) (ys.getD i .junk):=by
 induction h with
 | nil=>exact ⟨rfl,fun i hi=>by simp at hi⟩
 | cons h t ih =>
  refine ⟨by simp [ih.1],fun i hi=>?_⟩
  cases i with
  | zero=>simpa using h
  | succ i=>simpa using ih.2 i (by simpa using hi)
theorem Le.a {xs ys:List AV} (h:LeL xs ys):Le (.a xs) (.a ys):=fun _ _ _ _ hr=>by
 obtain ⟨us,rfl,hs,h1,hu⟩:=hr.a_inv
 obtain ⟨hl,hz⟩:=h.spec
 exact .a (by omega) (fun i hi=>h1 i (by omega)) fun i hi=>hz i (by omega) _ _ _ _ (hu i (by omega))
theorem SPure.of_pure {g:FuncId} {xs ys:List AV} {H:Hp} {r:AV} (h:Pure P g ys r) (hle:LeL xs ys):SPure P g xs H r:=by
 obtain ⟨hl,hz⟩:=hle.spec
 exact ⟨h.1,fun w F β vs hI hs hv=>h.2 w F β vs hI.nil (by omega) fun i hi=>hz i (by omega) _ _ _ _ (hv i (by omega))⟩
theorem CallOk.pure {g:FuncId} {xs:List AV} {st:ASt} {r:AV} {k:AV→ASt→Prop} (h:SPure P g xs st.H r) (hk:k r st):CallOk P g xs st k:=by
 refine ⟨h.1,fun w F β vs hI hs hv=>(h.2 w F β vs hI hs hv).mono ?_⟩
 rintro e w' ⟨v,rfl,hb,hr⟩
 exact ⟨v,rfl,r,st,_,_,hk,.i hr,ext_quiet hI hb⟩
theorem CallOk.call {g:FuncId} {xs ys:List AV} {st:ASt} {r:AV} {k:AV→ASt→Prop} (h:Pure P g ys r) (hle:LeL xs ys) (hk:k r st):CallOk P g xs st k:=.pure (.of_pure h hle) hk
def plain0:AV→Bool
 | .v _=>true
 | _=>false
def plain1:AV→Bool
 | .a cs | .t cs=>cs.all plain0
 | x=>plain0 x
theorem plain0_rd {w':World} {F':Nat→Prop} {x:AV} {u:Value} (hx:plain0 x=true) (h:RdI w F x u):RdI w' F' x u:=by
 cases x <;> first | (cases hx; done) | (cases h; exact .v (by assumption))
theorem plain1_rd {w':World} {F':Nat→Prop} {x:AV} {u:Value} (hx:plain1 x=true) (h:RdI w F x u):RdI w' F' x u:=by
 have get:∀(l:List AV) (i:Nat),l.all plain0=true→i < l.length→plain0 (l.getD i .junk)=true:=fun l i hl hi =>
  List.all_eq_true.1 hl (l.getD i .junk) (by rw [List.getD_eq_getElem?_getD,List.getElem?_eq_getElem hi]; exact List.getElem_mem _)
 cases x with
 | a cs=>cases h with | a hs h1 h=>exact .a hs h1 fun i hi=>plain0_rd (get cs i hx hi) (h i hi)
 | t cs=>cases h with | t hs h=>exact .t hs fun i hi=>plain0_rd (get cs i hx hi) (h i hi)
 | _=>exact plain0_rd hx h
theorem SPure.borrow {g:FuncId} {xs ys:List AV} {H:Hp} {r:AV} (h:Pure P g ys r) (hz:FzL H xs ys) (hr:plain1 r=true):SPure P g xs H r:=by
 obtain ⟨hl,hz⟩:=hz.spec
 refine ⟨h.1,fun w F β vs hI hs hv=>?_⟩
 have hI':Inv w (fun b=>F b∨Owned β H b) β [] :=
  ⟨fun b hb=>hb.elim (hI.fsize b) hI.owned_lt,fun _ _ hm=>(List.not_mem_nil hm).elim,List.nodup_nil,fun _ ⟨_,_,hm,_⟩=>(List.not_mem_nil hm).elim,fun _ _ _ _ _ hm=>(List.not_mem_nil hm).elim⟩
 refine (h.2 w _ β vs hI' (by omega) fun i hi=>.i (hz i (by omega) _ _ _ _ hI (hv i (by omega)))).mono ?_
 rintro e w' ⟨v,rfl,hb,hx⟩
 exact ⟨v,rfl,hb,plain1_rd hr hx⟩
theorem CallOk.borrow {g:FuncId} {xs ys:List AV} {st:ASt} {r:AV} {k:AV→ASt→Prop} (h:Pure P g ys r) (hz:FzL st.H xs ys) (hr:plain1 r=true) (hk:k r st):CallOk P g xs st k:=.pure (.borrow h hz hr) hk
end
end Go.Cat
