/- One operation that only computes, reads, or makes memory that nobody writes: its condition on trees ('stepS'), and that the machine agrees ('stepS_sound'). No condition. -/
import Derived.Test.YtkbkfcehehofnaaCatB
import Derived.Test.YtkbkfcehehofnaaCatU
namespace Go.Cat
set_option linter.all false
open Go.RowKit
variable [M : Mono]

def findC (id : Nat) : Hp → Option Chunk
  | [] => none
  | (i, c) :: r => bif Nat.beq i id then some c else findC id r

theorem findC_mem {id : Nat} {H : Hp} {c : Chunk} (h : findC id H = some c) : (id, c) ∈ H := by
  induction H with
  | nil => cases h
  | cons x r ih =>
    obtain ⟨i, c'⟩ := x
    simp only [findC] at h
    cases hb : Nat.beq i id with
    | true =>
      rw [hb] at h
      cases h
      rw [Nat.eq_of_beq_eq_true hb]
      simp
    | false =>
      rw [hb] at h
      exact List.mem_cons_of_mem _ (ih h)

def FNew (F : Nat → Prop) (w w' : World) : Nat → Prop := fun b => F b ∨ (w.heap.size ≤ b ∧ b < w'.heap.size)

theorem Below.agree {w w' : World} {F : Nat → Prop} (h : Below w.heap.size w w') (hF : ∀ b, F b → b < w.heap.size) : Agree F w w' := fun b hb => h.block b (hF b hb)

theorem Rd.later {w w' : World} {F : Nat → Prop} {β : Nat → Value} {x : AV} {u : Value} (h : Rd w F β x u) (hb : Below w.heap.size w w') (hF : ∀ b, F b → b < w.heap.size) : Rd w' (FNew F w w') β x u :=
  h.frame (Below.agree hb hF) fun _ h => .inl h

/-- What a quiet run may end in. -/
def QOut (P : Program) (s : Sem Next) (w : World) (post : Value → World → Prop) : Prop :=
  (∃ v w', s.run P w = .ok (.value v) w' ∧ Below w.heap.size w w' ∧ post v w') ∨
  (∃ g vs, s.run P w = .ok (.enter g vs) w ∧ Calls P g vs w fun e w' => ∃ v, e = .returned v ∧ Below w.heap.size w w' ∧ post v w')

def Entered (P : Program) (g : FuncId) : Prop := ∃ fn c, P.funcs[g]? = some fn ∧ (fn.name == "runtime.NumGoroutine") = false ∧ fn.body = some c

/-- Called with arguments that read as 'args' (the call's own memory H beside), g returns what reads as r, and writes to nothing that was there. -/
def SPure (P : Program) (g : FuncId) (args : List AV) (H : Hp) (r : AV) : Prop :=
  Entered P g ∧ ∀ (w : World) (F : Nat → Prop) (β : Nat → Value) (vs : Array Value), Inv w F β H → vs.size = args.length →
    (∀ i, i < args.length → Rd w F β (args.getD i .junk) (vs.getD i undef)) →
    Calls P g vs w fun e w' => ∃ v, e = .returned v ∧ Below w.heap.size w w' ∧ RdI w' (FNew F w w') r v

abbrev Pure (P : Program) (g : FuncId) (args : List AV) (r : AV) : Prop := SPure P g args [] r

/-! The pieces of 'stepS'. -/
def sPick (c a b : AV) (k : AV → Prop) : Prop :=
  match c with
  | .v (.bool true) => k a
  | .v (.bool false) => k b
  | _ => False

def sExtract (t : AV) (i : Nat) (k : AV → Prop) : Prop :=
  match t with
  | .t vs => bif Nat.blt i vs.length then k (vs.getD i .junk) else False
  | _ => False

def sUn (op : UnOp) (x : AV) (k : AV → Prop) : Prop :=
  match op, x with
  | .not, .v (.bool b) => k (.v (.bool (!b)))
  | .neg, .v (.int kd n) => ∃ r, kd.wrap (0 - n) = r ∧ k (.v (.int kd r))
  | _, _ => False

def strI (op : BinOp) (a b : ByteArray) (k : Value → Prop) : Prop :=
  match op with
  | .add => a.size + b.size ≤ 9223372036854775807 ∧ ∃ r, a ++ b = r ∧ k (.string r)
  | .eql => ∃ r : Bool, (a.toList == b.toList) = r ∧ k (.bool r)
  | .neq => ∃ r : Bool, (!(a.toList == b.toList)) = r ∧ k (.bool r)
  | .lss => ∃ r : Bool, Op.bytesLess a.toList b.toList = r ∧ k (.bool r)
  | .leq => ∃ r : Bool, (Op.bytesLess a.toList b.toList || a.toList == b.toList) = r ∧ k (.bool r)
  | .gtr => ∃ r : Bool, (!(Op.bytesLess a.toList b.toList || a.toList == b.toList)) = r ∧ k (.bool r)
  | .geq => ∃ r : Bool, (!Op.bytesLess a.toList b.toList) = r ∧ k (.bool r)
  | _ => False

def sBin (P : Program) (T : TT) (op : BinOp) (t : Nat) (x y : AV) (k : AV → Prop) : Prop :=
  match x, y with
  | .v (.int kx a), .v (.int ky b) => binI op kx ky a b fun v => k (.v v)
  | .v (.string a), .v (.string b) => strI op a b fun v => k (.v v)
  | .v (.bool a), .v (.bool b) =>
    match T t with
    | some i => match i.kind with
      | .bool => match op with
        | .eql => k (.v (.bool (a == b)))
        | .neq => k (.v (.bool (!(a == b))))
        | _ => False
      | _ => False
    | none => False
  | .s rows, .v (.slice none 0 0) =>
    match T t with
    | some i => match i.kind with
      | .slice _ => match op with
        | .eql => ∀ b : Bool, (b = true → rows = []) → k (.v (.bool b))
        | .neq => ∀ b : Bool, (b = false → rows = []) → k (.v (.bool b))
        | _ => False
      | _ => False
    | none => False
  | .a xs, .a ys => ∃ ks, eqTy P t ks = true ∧ bif fitK ks xs ys then
      match op with
      | .eql => k (.v (.bool (eqCells xs ys)))
      | .neq => k (.v (.bool (!eqCells xs ys)))
      | _ => False
    else False
  | _, _ => False

/-- A test that is met. -/
theorem bif_of {c : Bool} {p : Prop} (hc : c = true) (h : p) : bif c then p else False := by rw [hc]; exact h

def encB (b : UInt8) : List AV := [.v (.int .u8 (b.toNat : Int))]

def sConv (T : TT) (src dst : Nat) (x : AV) (k : AV → Prop) : Prop :=
  match T src, T dst with
  | some i, some j =>
    match j.kind, x with
    | .int kd, .v (.int _ n) => ∃ r, kd.wrap n = r ∧ k (.v (.int kd r))
    | .str, .v (.string s) => k (.v (.string s))
    | .slice e, .v (.string s) =>
      match T e with
      | some je => match je.kind with
        | .int .u8 => s.size ≤ maxLen ∧ k (.s (s.data.toList.map encB))
        | _ => False
      | none => False
    | .str, .s rows =>
      match i.kind with
      | .slice e => match T e with
        | some je => match je.kind with
          | .int .u8 => ∃ l : List UInt8, rows = l.map encB ∧ k (.v (.string ⟨l.toArray⟩))
          | _ => False
        | none => False
      | _ => False
    | _, _ => False
  | _, _ => False

def addOff (x : AV) (off : Nat) (k : AV → Prop) : Prop :=
  match x with
  | .b id o => k (.b id (o + off))
  | .p cells => k (.p (cells.drop off))
  | .e id K i j => k (.e id K i (j + off))
  | _ => False

def sFieldA (T : TT) (t : Nat) (x : AV) (f : Nat) (k : AV → Prop) : Prop :=
  match T t with
  | some i => match i.kind with
    | .struct fs => match fs[f]? with
      | some (off, ty) => match T ty with
        | some j => bif Nat.beq j.cells 0 then False else addOff x off k
        | none => False
      | none => False
    | _ => False
  | none => False

def ldCells (i : TI) (cells : List AV) (off : Nat) (k : AV → Prop) : Prop :=
  bif Nat.ble (off + i.cells) cells.length then
    bif aggK i.kind then ∃ c, (cells.drop off).take i.cells = c ∧ k (.a c)
    else bif Nat.beq i.cells 1 then ∃ x, cells[off]? = some x ∧ k x else False
  else False

def sLoad (T : TT) (t : Nat) (x : AV) (H : Hp) (k : AV → Prop) : Prop :=
  match T t with
  | some i => match x with
    | .b id off => match findC id H with
      | some (.box cells) => ldCells i cells off k
      | _ => False
    | .p cells => ldCells i cells 0 k
    | .e id K m j => match findC id H with
      | some (.own _ K' rows) => ∃ row, rows[m]? = some row ∧ K = K' ∧ ldCells i row j k
      | _ => False
    | _ => False
  | none => False

def sIndexA (T : TT) (t : Nat) (x i : AV) (H : Hp) (k : AV → Prop) : Prop :=
  match T t with
  | some ti => match ti.kind with
    | .slice e => match T e with
      | some j => match x, i with
        | .s rows, .v (.int _ n) => ∃ m : Nat, n = (m : Int) ∧ ∃ row, rows[m]? = some row ∧ (bif Nat.beq row.length j.cells then k (.p row) else False)
        | .o id, .v (.int _ n) => match findC id H with
          | some (.own _ K rows) => bif Nat.beq K j.cells then ∃ m : Nat, n = (m : Int) ∧ m < rows.length ∧ k (.e id K m 0) else False
          | _ => False
        | .w id Kw d, .v (.int _ n) => match findC id H with
          | some (.own _ K rows) => bif Nat.beq K j.cells && Nat.beq Kw K then ∃ m : Nat, n = (m : Int) ∧ d + m < rows.length ∧ k (.e id K (d + m) 0) else False
          | _ => False
        | _, _ => False
      | none => False
    | .arr len e => match T e with
      | some j => match x, i with
        | .b id off, .v (.int _ n) => ∃ m : Nat, n = (m : Int) ∧ m < len ∧ k (.b id (off + m * j.cells))
        | .p cells, .v (.int _ n) => ∃ m : Nat, n = (m : Int) ∧ m < len ∧ k (.p (cells.drop (m * j.cells)))
        | _, _ => False
      | none => False
    | _ => False
  | none => False

def sIndex (T : TT) (t : Nat) (x i : AV) (k : AV → Prop) : Prop :=
  match T t with
  | some ti => match ti.kind, x, i with
    | .str, .v (.string s), .v (.int _ n) => ∃ m : Nat, n = (m : Int) ∧ ∃ b : UInt8, s.data.toList[m]? = some b ∧ k (.v (.int .u8 (b.toNat : Int)))
    | .arr len e, .a cells, .v (.int _ n) => match T e with
      | some j => bif aggK j.kind then False else bif Nat.beq j.cells 1 then ∃ m : Nat, n = (m : Int) ∧ m < len ∧ ∃ c, cells[m]? = some c ∧ k c else False
      | none => False
    | _, _, _ => False
  | none => False

/-- A slice's bound: what stands there, or the default. -/
def boundI (x : Option AV) (d : Nat) (k : Nat → Prop) : Prop :=
  match x with
  | none => k d
  | some (.v (.int _ n)) => ∃ m : Nat, n = (m : Int) ∧ k m
  | _ => False

def sSlice (T : TT) (t : Nat) (x : AV) (lo hi mx : Option AV) (H : Hp) (k : AV → Prop) : Prop :=
  match T t, mx with
  | some ti, none => match ti.kind, x with
    | .slice e, .s rows => match T e with
      | some j => boundI lo 0 fun l => boundI hi rows.length fun h => l ≤ h ∧ h ≤ rows.length ∧ (∀ i, i < rows.length → (rows.getD i []).length = j.cells) ∧ ∃ r, (rows.take h).drop l = r ∧ k (.s r)
      | none => False
    | .slice e, .w id Kw d => match T e with
      | some j => match findC id H, hi with
        | some (.own _ K rows), none => bif Nat.beq K j.cells && Nat.beq Kw K then boundI lo 0 fun l => d + l ≤ rows.length ∧ k (.w id K (d + l)) else False
        | _, _ => False
      | none => False
    | .slice e, .v (.slice none 0 0) => match T e with
      | some _ => boundI lo 0 fun l => boundI hi 0 fun h => l ≤ h ∧ h ≤ 0 ∧ k (.v (.slice none 0 0))
      | none => False
    | .str, .v (.string s) => boundI lo 0 fun l => boundI hi s.size fun h => l ≤ h ∧ h ≤ s.size ∧ ∃ r, s.extract l h = r ∧ k (.v (.string r))
    | _, _ => False
  | _, _ => False

/-- A tree's cells. -/
def cellsL : AV → List AV
  | .a cs => cs
  | x => [x]

def okCells : AV → Bool
  | .a _ => true
  | x => isCell x

/-- Parts laid into cells, each at its place. -/
def fillL (place : Nat → Option (Nat × Nat)) : List (Nat × AV) → List AV → Option (List AV)
  | [], cells => some cells
  | (i, x) :: r, cells =>
    match place i with
    | none => none
    | some (off, size) =>
      bif okCells x && (Nat.beq (cellsL x).length size && Nat.ble (off + size) cells.length)
      then fillL place r (cells.take off ++ (cellsL x ++ cells.drop (off + size))) else none

def placeF (T : TT) (fs : List (Nat × Nat)) (i : Nat) : Option (Nat × Nat) :=
  match fs[i]? with
  | some (off, ty) => match T ty with
    | some j => some (off, j.cells)
    | none => none
  | none => none

def allTy (T : TT) : List (Nat × Nat) → Bool
  | [] => true
  | (_, ty) :: r => (T ty).isSome && allTy T r

def sBuild (T : TT) (t : Nat) (parts : List (Nat × AV)) (k : AV → Prop) : Prop :=
  match T t with
  | some i =>
    match ofV i.zero with
    | .a zs => match i.kind with
      | .struct fs => bif allTy T fs then
          match fillL (placeF T fs) parts zs with
          | some cells => k (.a cells)
          | none => False
        else False
      | .arr _ e => match T e with
        | some j => match fillL (fun i => some (i * j.cells, j.cells)) parts zs with
          | some cells => k (.a cells)
          | none => False
        | none => False
      | _ => False
    | _ => False
  | none => False

/-- The rows of a slice that is built whole, part i its row i. -/
def rowsOf (size : Nat) : Nat → List (Nat × AV) → Option (List (List AV))
  | _, [] => some []
  | n, (i, x) :: r => bif Nat.beq i n && (okCells x && Nat.beq (cellsL x).length size) then (rowsOf size (n + 1) r).map (cellsL x :: ·) else none

def sBuildS (T : TT) (t len : Nat) (parts : List (Nat × AV)) (k : List (List AV) → Nat → Nat → Prop) : Prop :=
  match T t with
  | some i => match i.kind with
    | .slice e => match T e with
      | some j => match rowsOf j.cells 0 parts with
        | some rows => bif Nat.beq parts.length len && (Nat.ble (len * j.cells) 16777216 && !(Nat.beq j.cells 0)) then k rows e j.cells else False
        | none => False
      | none => False
    | _ => False
  | none => False

/-- Does the tree bear no label? -/
def imm0 : AV → Bool
  | .v _ | .s _ | .p _ => true
  | _ => false
def imm1 : AV → Bool
  | .a cs | .t cs => cs.all imm0
  | .c _ fs cs => fs.all imm0 && cs.all imm0
  | x => imm0 x

def sNil (x : AV) (k : AV → Prop) : Prop :=
  match x with
  | .b id off => k (.b id off)
  | .p cells => k (.p cells)
  | .e id K i j => k (.e id K i j)
  | .c (.func g) fs cs => k (.c (.func g) fs cs)
  | _ => False

def sLen (T : TT) (t : Nat) (x : AV) (H : Hp) (k : AV → Prop) : Prop :=
  match T t with
  | some i => match i.kind, x with
    | .slice _, .s rows => ∃ n : Nat, rows.length = n ∧ (n ≤ maxLen → k (.v (.int .i64 (n : Int))))
    | .slice _, .v (.slice none 0 0) => k (.v (.int .i64 0))
    | .slice _, .o id => match findC id H with
      | some (.own _ _ rows) => ∃ n : Nat, rows.length = n ∧ (n ≤ maxLen → k (.v (.int .i64 (n : Int))))
      | _ => False
    | .slice _, .w id _ d => match findC id H with
      | some (.own _ _ rows) => ∃ n : Nat, rows.length - d = n ∧ (n ≤ maxLen → k (.v (.int .i64 (n : Int))))
      | _ => False
    | .map _ _, .m id => match findC id H with
      | some (.mp _ rows) => ∃ n : Nat, rows.length = n ∧ (n ≤ 140737488355328 → k (.v (.int .i64 (n : Int))))
      | _ => False
    | .str, .v (.string s) => ∃ n : Nat, s.size = n ∧ k (.v (.int .i64 (n : Int)))
    | .arr n _, _ => k (.v (.int .i64 (n : Int)))
    | _, _ => False
  | none => False

def sMinMax (mn : Bool) (xs : List AV) (k : AV → Prop) : Prop :=
  match xs with
  | [.v (.int kx a), .v (.int ky b)] => bif kx == ky then ∃ r, (if mn then min a b else max a b) = r ∧ k (.v (.int kx r)) else False
  | _ => False

def sBuiltin (T : TT) (b : Builtin) (ts : List Nat) (xs : List AV) (H : Hp) (k : AV → Prop) : Prop :=
  match b, ts, xs with
  | .len, [t], [x] => sLen T t x H k
  | .cap, [t], [.v (.slice none 0 0)] => match T t with
    | some i => match i.kind with
      | .slice _ => k (.v (.int .i64 0))
      | _ => False
    | none => False
  | .min, _, xs => sMinMax true xs k
  | .max, _, xs => sMinMax false xs k
  | _, _, _ => False

def sCall (P : Program) (f : AV) (xs : List AV) (H : Hp) (k : AV → Prop) : Prop :=
  match f with
  | .c (.func g) fs cs => ∃ r, SPure P g (fs ++ (xs ++ cs)) H r ∧ k r
  | _ => False

/-- No slice, as a slice that nobody writes. -/
def nz : AV → AV
  | .v (.slice none 0 0) => .s []
  | x => x

def sMake (T : TT) (t : Nat) (l c : AV) (k : AV → Prop) : Prop :=
  match T t, l, c with
  | some i, .v (.int _ nl), .v (.int _ nc) => match i.kind with
    | .slice e => match T e with
      | some j => bif okCells (ofV j.zero) && (Nat.beq (cellsL (ofV j.zero)).length j.cells && (cellsL (ofV j.zero)).all imm0) then
          ∃ n m : Nat, nl = (n : Int) ∧ nc = (m : Int) ∧ n ≤ m ∧ m ≤ 140737488355328 ∧ m * j.bytes ≤ 140737488355328 ∧ ∃ R, List.replicate n ((cellsL (ofV j.zero)).map nz) = R ∧ k (.s R)
        else False
      | none => False
    | _ => False
  | _, _, _ => False

/-- A map's value, by its cells. -/
def mval (ag : Bool) (y : AV) : Option (List AV) :=
  match ag, y with
  | true, .a cs => bif cs.all imm0 then some cs else none
  | true, _ => none
  | false, .a _ => none
  | false, x => bif imm0 x then some [x] else none

/-- What a map has at a number, or what is there without it. -/
def sLookup (T : TT) (t : Nat) (m i : AV) (c : Bool) (H : Hp) (k : AV → Prop) : Prop :=
  match T t with
  | some ti => match ti.kind with
    | .map kt e => match T kt, T e with
      | some ik, some ie => match ik.kind, m, i with
        | .int .i64, .m id, .v (.int .i64 n) => match findC id H, mval (aggK ie.kind) (ofV ie.zero) with
          | some (.mp ag rows), some zc => bif ag == aggK ie.kind then ∃ r, (mget n rows).getD (zc.map nz) = r ∧ (bif c then ∃ b, (mget n rows).isSome = b ∧ k (.t [vOf ag r, .v (.bool b)]) else k (vOf ag r)) else False
          | _, _ => False
        | _, _, _ => False
      | _, _ => False
    | _ => False
  | none => False

def stepS (P : Program) (T : TT) (o : Oper) (ρ : Operand → AV) (H : Hp) (k : AV → Prop) : Prop :=
  match o.op with
  | .move x => k (ρ x)
  | .assign x => k (ρ x)
  | .pick c a b => sPick (ρ c) (ρ a) (ρ b) k
  | .extract t i => sExtract (ρ t) i k
  | .unOp op _ x => sUn op (ρ x) k
  | .binOp op t x y _ => sBin P T op t (ρ x) (ρ y) k
  | .convert src dst x => sConv T src dst (ρ x) k
  | .fieldAddr t x f => sFieldA T t (ρ x) f k
  | .load t x => sLoad T t (ρ x) H k
  | .indexAddr t x i => sIndexA T t (ρ x) (ρ i) H k
  | .index t x i => sIndex T t (ρ x) (ρ i) k
  | .slice t x lo hi mx => sSlice T t (ρ x) (lo.map ρ) (hi.map ρ) (mx.map ρ) H k
  | .build t parts => sBuild T t (parts.toList.map fun q => (q.1, ρ q.2)) k
  | .buildSlice t len parts => sBuildS T t len (parts.toList.map fun q => (q.1, ρ q.2)) fun rows _ _ => bif rows.all (fun r => r.all imm0) then k (.s rows) else False
  | .makeFunc fn fs cs => k (.c fn (fs.toList.map ρ) (cs.toList.map ρ))
  | .nilCheck x => sNil (ρ x) k
  | .lookup t x i c => sLookup T t (ρ x) (ρ i) c H k
  | .makeSlice t l c => sMake T t (ρ l) (ρ c) k
  | .call c => match c.callee with
    | .builtin b => sBuiltin T b c.argTypes.toList (c.args.toList.map ρ) H k
    | .value f => sCall P (ρ f) (c.args.toList.map ρ) H k
    | .invoke _ _ => False
  | _ => False

end Go.Cat
