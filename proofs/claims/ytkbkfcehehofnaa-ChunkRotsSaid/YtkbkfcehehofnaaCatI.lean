/- Operations that make, or write to, memory of the call's own, one by one: 'step' and that the machine agrees. No condition. -/
import Derived.Test.YtkbkfcehehofnaaCatH
namespace Go.Cat
set_option linter.all false
open Go.RowKit
variable [M : Mono]

def setC (id : Nat) (c : Chunk) : Hp → Hp
  | [] => []
  | (i, c') :: r => bif Nat.beq i id then (i, c) :: setC id c r else (i, c') :: setC id c r

def bindSt (st : ASt) (d : Nat) (c : Chunk) : ASt := ⟨fun t => er 2 d (st.f t), (d, c) :: erH d st.H⟩

def frC (id : Nat) (rows : List (List AV)) : Chunk → Chunk
  | .box cells => .box (cells.map (sb (.s rows) 1 id))
  | .own E K r => .own E K r
  | .mp ag r => .mp ag r

def frH (id : Nat) (rows : List (List AV)) : Hp → Hp
  | [] => []
  | (i, c) :: r => bif Nat.beq i id then frH id rows r else (i, frC id rows c) :: frH id rows r

def frSt (id : Nat) (rows : List (List AV)) (st : ASt) : ASt := ⟨fun t => sb (.s rows) 2 id (st.f t), frH id rows st.H⟩


/-- '[]byte' of a constant text: the new slice is marked; from now on it is read alone. -/
def eConv (T : TT) (s t id : Nat) (st : ASt) (k : AV → ASt → Prop) : Prop :=
  match T s with
  | some i => match i.kind with
    | .slice e => match T e with
      | some j => match j.kind with
        | .int .u8 => bif Nat.beq s t then
            match findC id st.H with
            | some (.own _ _ rows) => rows ≠ [] ∧ k (.s rows) (frSt id rows st)
            | _ => False
          else False
        | _ => False
      | none => False
    | _ => False
  | none => False

def eAlloc (T : TT) (t d : Nat) (st : ASt) (k : AV → ASt → Prop) : Prop :=
  match T t with
  | some i => bif okCells (ofV i.zero) then k (.b d 0) (bindSt st d (.box (cellsL (ofV i.zero)))) else False
  | none => False

def eBox (x : AV) (d : Nat) (st : ASt) (k : AV → ASt → Prop) : Prop :=
  bif okCells x then k (.b d 0) (bindSt st d (.box ((cellsL x).map (er 1 d)))) else False

def stCells (n : Nat) (cells : List AV) (off : Nat) (y : AV) (k : List AV → Prop) : Prop :=
  bif okCells y && (Nat.beq (cellsL y).length n && Nat.ble (off + n) cells.length) then ∃ C, cells.take off ++ (cellsL y ++ cells.drop (off + n)) = C ∧ k C else False

def eStore (T : TT) (t : Nat) (x y : AV) (st : ASt) (k : AV → ASt → Prop) : Prop :=
  match T t with
  | some i => match x with
    | .b id off => match findC id st.H with
      | some (.box cells) => stCells i.cells cells off y fun cells' => k (.v undef) ⟨st.f, setC id (.box cells') st.H⟩
      | _ => False
    | .e id K m j => match findC id st.H with
      | some (.own E K' rows) => bif (cellsL y).all imm0 then ∃ row, rows[m]? = some row ∧ K = K' ∧ stCells i.cells row j y fun row' => ∃ R, rows.set m row' = R ∧ k (.v undef) ⟨st.f, setC id (.own E K' R) st.H⟩ else False
      | _ => False
    | _ => False
  | none => False

def RowsLen (rows : List (List AV)) (n : Nat) : Prop := ∀ r, r ∈ rows → r.length = n

/-- A slice's rows, as a source. -/
def srcRows (x : AV) (not : Nat) (H : Hp) (k : List (List AV) → Prop) : Prop :=
  match x with
  | .s rows => k rows
  | .v (.slice none 0 0) => k []
  | .o id => bif Nat.beq id not then False else match findC id H with
    | some (.own _ _ rows) => k rows
    | _ => False
  | _ => False

/-- What is appended: a slice's rows; a text's bytes. -/
def appSrc (T : TT) (t t' e : Nat) (x : AV) (not : Nat) (H : Hp) (k : List (List AV) → Prop) : Prop :=
  bif Nat.beq t t' then srcRows x not H k else
  match T t', T e, x with
  | some i', some je, .v (.string s) => match i'.kind, je.kind with
    | .str, .int .u8 => bif Nat.beq je.cells 1 then k (s.data.toList.map encB) else False
    | _, _ => False
  | _, _, _ => False

def eAppend (T : TT) (t t' : Nat) (s x : AV) (d : Nat) (st : ASt) (k : AV → ASt → Prop) : Prop :=
  match T t with
  | some i => match i.kind with
    | .slice e => match T e with
      | some j =>
        bif Nat.beq j.bytes 0 || (Nat.beq j.cells 0 || !(Nat.beq j.zero.cells.size j.cells)) then False else
        match s with
        | .v (.slice none 0 0) => appSrc T t t' e x d st.H fun rows' => RowsLen rows' j.cells ∧ rows'.length * j.bytes ≤ 140737488355328 ∧ ∃ R, rows' = R ∧ k (.o d) (bindSt st d (.own e j.cells R))
        | .o id => match findC id st.H with
          | some (.own E K rows) => bif (Nat.beq E e && Nat.beq K j.cells) && Nat.blt id 1000 then
              appSrc T t t' e x id st.H fun rows' => RowsLen rows' j.cells ∧ (rows.length + rows'.length) * j.bytes ≤ 140737488355328 ∧ ∃ R, rows ++ rows' = R ∧ k (.o id) (bindSt st id (.own e j.cells R))
            else False
          | _ => False
        | _ => False
      | none => False
    | _ => False
  | none => False

/-- 'append(s, make([]T, n)...)' at a nil slice. -/
def eAppendZ (T : TT) (t t' : Nat) (s x : AV) (d : Nat) (st : ASt) (k : AV → ASt → Prop) : Prop :=
  match T t, T t', s, x with
  | some i, some i', .v (.slice none 0 0), .v (.int _ nx) => match i.kind, i'.kind with
    | .slice e, .int _ => match T e with
      | some j => bif Nat.beq j.bytes 0 || (Nat.beq j.cells 0 || !(okCells (ofV j.zero) && (Nat.beq (cellsL (ofV j.zero)).length j.cells && (cellsL (ofV j.zero)).all imm0))) then False else
          ∃ n : Nat, nx = (n : Int) ∧ n * j.bytes ≤ 140737488355328 ∧ ∃ R, List.replicate n ((cellsL (ofV j.zero)).map nz) = R ∧ k (.o d) (bindSt st d (.own e j.cells R))
      | none => False
    | _, _ => False
  | _, _, _, _ => False

/-- 's[:h]' of a slice of the call's own. -/
def eSliceH (T : TT) (t : Nat) (x : AV) (hi : Option AV) (st : ASt) (k : AV → ASt → Prop) : Prop :=
  match T t, x, hi with
  | some i, .o id, some (.v (.int _ nh)) => match i.kind with
    | .slice e => match T e with
      | some j => match findC id st.H with
        | some (.own E K rows) => bif Nat.beq K j.cells && Nat.blt id 1000 then ∃ h : Nat, nh = (h : Int) ∧ h ≤ rows.length ∧ ∃ R, rows.take h = R ∧ k (.o id) (bindSt st id (.own E K R)) else False
        | _ => False
      | none => False
    | _ => False
  | _, _, _ => False

/-- 's[:0:0]': nothing, with no room. -/
def eSlice0 (T : TT) (t : Nat) (x : AV) (lo hi mx : Option AV) (d : Nat) (st : ASt) (k : AV → ASt → Prop) : Prop :=
  match T t with
  | some i => match i.kind, lo, hi, mx with
    | .slice e, none, some (.v (.int _ 0)), some (.v (.int _ 0)) => match T e with
      | some j => match x with
        | .s _ => k (.o d) (bindSt st d (.own e j.cells []))
        | .o _ => k (.o d) (bindSt st d (.own e j.cells []))
        | .v (.slice none 0 0) => k (.o d) (bindSt st d (.own e j.cells []))
        | _ => False
      | none => False
    | _, _, _, _ => False
  | none => False

def eBuildS (T : TT) (t n : Nat) (parts : List (Nat × AV)) (d : Nat) (st : ASt) (k : AV → ASt → Prop) : Prop :=
  sBuildS T t n parts fun rows e size => bif rows.all (fun r => r.all imm0) then k (.o d) (bindSt st d (.own e size rows)) else False

def eMake (T : TT) (t : Nat) (l c : AV) (d : Nat) (st : ASt) (k : AV → ASt → Prop) : Prop :=
  match T t, l, c with
  | some i, .v (.int _ nl), .v (.int _ nc) => match i.kind with
    | .slice e => match T e with
      | some j => bif okCells (ofV j.zero) && (Nat.beq (cellsL (ofV j.zero)).length j.cells && (cellsL (ofV j.zero)).all imm0) then
          ∃ n m : Nat, nl = (n : Int) ∧ nc = (m : Int) ∧ n ≤ m ∧ m ≤ 140737488355328 ∧ m * j.bytes ≤ 140737488355328 ∧ ∃ R, List.replicate n ((cellsL (ofV j.zero)).map nz) = R ∧ k (.o d) (bindSt st d (.own e j.cells R))
        else False
      | none => False
    | _ => False
  | _, _, _ => False

/-- Called with arguments that read as 'args', g returns, and the state goes on as k says. -/
def CallOk (P : Program) (g : FuncId) (args : List AV) (st : ASt) (k : AV → ASt → Prop) : Prop :=
  Entered P g ∧ ∀ (w : World) (F : Nat → Prop) (β : Nat → Value) (vs : Array Value), Inv w F β st.H → vs.size = args.length →
    (∀ i, i < args.length → Rd w F β (args.getD i .junk) (vs.getD i undef)) →
    Calls P g vs w fun e w' => ∃ v, e = .returned v ∧ ∃ r st' F' β', k r st' ∧ Rd w' F' β' r v ∧ Ext w F β st w' F' β' st'

def eCall (P : Program) (f : AV) (xs : List AV) (st : ASt) (k : AV → ASt → Prop) : Prop :=
  match f with
  | .c (.func g) fs cs => CallOk P g (fs ++ (xs ++ cs)) st k
  | _ => False

def eMakeMap (T : TT) (t d : Nat) (st : ASt) (k : AV → ASt → Prop) : Prop :=
  match T t with
  | some ti => match ti.kind with
    | .map kt e => match T kt, T e with
      | some ik, some ie => match ik.kind with
        | .int .i64 => k (.m d) (bindSt st d (.mp (aggK ie.kind) []))
        | _ => False
      | _, _ => False
    | _ => False
  | none => False

def eMapUpdate (T : TT) (t : Nat) (m i y : AV) (st : ASt) (k : AV → ASt → Prop) : Prop :=
  match T t with
  | some ti => match ti.kind with
    | .map kt e => match T kt with
      | some ik => match ik.kind, m, i with
        | .int .i64, .m id, .v (.int .i64 n) => match findC id st.H with
          | some (.mp ag rows) => match mval ag y with
            | some yc => InI64 n ∧ rows.length < 140737488355328 ∧ ∃ R, mset n yc rows = R ∧ k (.v undef) ⟨st.f, setC id (.mp ag R) st.H⟩
            | none => False
          | _ => False
        | _, _, _ => False
      | none => False
    | _ => False
  | none => False

def step0 (P : Program) (T : TT) (o : Oper) (st : ASt) (k : AV → ASt → Prop) : Prop :=
  let ρ := ev st.f
  let d := o.dst.getD 0
  match o.op with
  | .alloc t => eAlloc T t d st k
  | .box _ x => eBox (ρ x) d st k
  | .store t x y => eStore T t (ρ x) (ρ y) st k
  | .makeMap t none => eMakeMap T t d st k
  | .mapUpdate t m i y => eMapUpdate T t (ρ m) (ρ i) (ρ y) st k
  | .buildSlice t n parts => stepS P T o ρ st.H (fun r => k r st) ∨ eBuildS T t n (parts.toList.map fun q => (q.1, ρ q.2)) d st k
  | .slice t x none hi none => match ρ x with
    | .o _ => eSliceH T t (ρ x) (hi.map ρ) st k
    | _ => stepS P T o ρ st.H fun r => k r st
  | .slice t x lo hi (some mx) => eSlice0 T t (ρ x) (lo.map ρ) (hi.map ρ) (some (ρ mx)) d st k
  | .makeSlice t l c => stepS P T o ρ st.H (fun r => k r st) ∨ eMake T t (ρ l) (ρ c) d st k
  | .convert s t x => match ρ x with
    | .o id => eConv T s t id st k
    | _ => stepS P T o ρ st.H fun r => k r st
  | .call c => match c.callee with
    | .builtin .append => match c.argTypes.toList, c.args.toList.map ρ with
      | [t, t'], [s, x] => bif Nat.beq t t' then eAppend T t t' s x d st k else match x with
        | .v (.string _) => eAppend T t t' s x d st k
        | _ => eAppendZ T t t' s x d st k
      | _, _ => False
    | .value f => eCall P (ρ f) (c.args.toList.map ρ) st k
    | _ => stepS P T o ρ st.H fun r => k r st
  | _ => stepS P T o ρ st.H fun r => k r st

def step (P : Program) (T : TT) (o : Oper) (st : ASt) (k : AV → ASt → Prop) : Prop := bif Nat.blt (o.dst.getD 0) 1000 then step0 P T o st k else False

end Go.Cat
