/- Operations that only compute, read, or make memory that nobody writes: what each hands back, as a condition on trees, and that the machine agrees. No condition. -/
import Derived.Test.YtkbkfcehehofnaaCatA
import Derived.Test.YtkbkfcehehofnaaCatW
namespace Go.Cat
set_option linter.all false
open Go.RowKit
variable [M : Mono]

inductive TK where
  | bool | int (k : IntKind) | str | struct (fs : List (Nat × Nat)) | slice (e : Nat) | arr (n e : Nat) | map (k e : Nat) | iface | other

structure TI where
  kind : TK
  cells : Nat
  bytes : Nat
  zero : Value

def TKof : TypeDesc → TK
  | .bool => .bool
  | .int k => .int k
  | .string => .str
  | .struct fs => .struct (fs.toList.map fun f => (f.offset, f.type))
  | .slice e => .slice e
  | .array n e => .arr n e
  | .map k e => .map k e
  | .interface _ => .iface
  | _ => .other

abbrev TT := Nat → Option TI

def TIOk (P : Program) (t : Nat) (i : TI) : Prop :=
  (P.info? t).map (fun j => (j.zero, j.size, j.bytes)) = some (some i.zero, i.cells, i.bytes) ∧ (P.underlying t).map TKof = some i.kind

def TOk (P : Program) (T : TT) : Prop := ∀ t i, T t = some i → TIOk P t i

def lk : List (Nat × TI) → TT
  | [], _ => none
  | (t, i) :: r, x => bif Nat.beq x t then some i else lk r x

def AllOk (P : Program) : List (Nat × TI) → Prop
  | [] => True
  | (t, i) :: r => TIOk P t i ∧ AllOk P r

theorem TOk.of_list {P : Program} {l : List (Nat × TI)} (h : AllOk P l) : TOk P (lk l) := by
  induction l with
  | nil => intro t i h'; cases h'
  | cons x r ih =>
    obtain ⟨t, i⟩ := x
    intro t' i' h'
    simp only [lk] at h'
    cases hb : Nat.beq t' t with
    | true =>
      rw [hb] at h'
      have := Nat.eq_of_beq_eq_true hb
      subst this
      cases h'
      exact h.1
    | false =>
      rw [hb] at h'
      exact ih h.2 t' i' h'

section
variable {P : Program} {t : Nat} {i : TI}
theorem TIOk.info (h : TIOk P t i) : ∃ j, P.info? t = some j ∧ j.zero = some i.zero ∧ j.size = i.cells ∧ j.bytes = i.bytes := by
  obtain ⟨h, _⟩ := h
  cases hj : P.info? t with
  | none => simp [hj] at h
  | some j => simp [hj] at h; exact ⟨j, rfl, h.1, h.2.1, h.2.2⟩

theorem TIOk.und (h : TIOk P t i) : ∃ d, P.underlying t = some d ∧ TKof d = i.kind := by
  obtain ⟨_, h⟩ := h
  cases hj : P.underlying t with
  | none => simp [hj] at h
  | some j => simp [hj] at h; exact ⟨j, rfl, h⟩

theorem TIOk.slice {e : Nat} (h : TIOk P t i) (hk : i.kind = .slice e) : P.underlying t = some (.slice e) := by
  obtain ⟨d, hd, hk'⟩ := h.und
  rw [hk] at hk'
  cases d <;> simp [TKof] at hk'
  subst hk'; exact hd
theorem TIOk.arr {n e : Nat} (h : TIOk P t i) (hk : i.kind = .arr n e) : P.underlying t = some (.array n e) := by
  obtain ⟨d, hd, hk'⟩ := h.und
  rw [hk] at hk'
  cases d <;> simp [TKof] at hk'
  obtain ⟨rfl, rfl⟩ := hk'; exact hd
theorem TIOk.int {k : IntKind} (h : TIOk P t i) (hk : i.kind = .int k) : P.underlying t = some (.int k) := by
  obtain ⟨d, hd, hk'⟩ := h.und
  rw [hk] at hk'
  cases d <;> simp [TKof] at hk'
  subst hk'; exact hd
theorem TIOk.map {kt e : Nat} (h : TIOk P t i) (hk : i.kind = .map kt e) : P.underlying t = some (.map kt e) := by
  obtain ⟨d, hd, hk'⟩ := h.und
  rw [hk] at hk'
  cases d <;> simp [TKof] at hk'
  obtain ⟨rfl, rfl⟩ := hk'; exact hd
theorem TIOk.str (h : TIOk P t i) (hk : i.kind = .str) : P.underlying t = some .string := by
  obtain ⟨d, hd, hk'⟩ := h.und
  rw [hk] at hk'
  cases d <;> simp [TKof] at hk'
  exact hd
theorem TIOk.struct {fs : List (Nat × Nat)} (h : TIOk P t i) (hk : i.kind = .struct fs) : ∃ fields, P.underlying t = some (.struct fields) ∧ fields.toList.map (fun f => (f.offset, f.type)) = fs := by
  obtain ⟨d, hd, hk'⟩ := h.und
  rw [hk] at hk'
  cases d <;> simp [TKof] at hk'
  exact ⟨_, hd, hk'⟩

theorem TIOk.run_size (h : TIOk P t i) (w : World) : (sizeOf t).run P w = .ok i.cells w := by
  obtain ⟨j, hj, _, hs, _⟩ := h.info
  simp [sizeOf, typeInfo, hj, hs]
theorem TIOk.run_zero (h : TIOk P t i) (w : World) : (zeroValue t).run P w = .ok i.zero w := by
  obtain ⟨j, hj, hz, _⟩ := h.info
  simp [zeroValue, typeInfo, hj, hz]
theorem TIOk.run_info (h : TIOk P t i) (w : World) : ∃ j, (typeInfo t).run P w = .ok j w ∧ j.bytes = i.bytes := by
  obtain ⟨j, hj, _, _, hb⟩ := h.info
  exact ⟨j, by simp [typeInfo, hj], hb⟩
end

def aggK : TK → Bool
  | .struct _ | .arr _ _ => true
  | _ => false

theorem TIOk.run_agg {P : Program} {t : Nat} {i : TI} (h : TIOk P t i) (w : World) : (isAgg t).run P w = .ok (aggK i.kind) w := by
  obtain ⟨d, hd, hk⟩ := h.und
  simp only [isAgg, Sem.run_bind, run_underlying hd, Result.andThen_ok]
  cases d <;> simp [TKof] at hk <;> rw [← hk] <;> rfl

/-- A constant as a tree. -/
def ofV : Value → AV
  | .agg cs => bif cs.toList.all (·.oneCell') then .a (cs.toList.map .v) else .junk
  | .tuple _ => .junk
  | x => .v x

theorem ofV_rd (w : World) (F : Nat → Prop) (x : Value) (β : Nat → Value) : Rd w F β (ofV x) x := by
  unfold ofV
  split
  · rename_i cs
    cases hc : cs.toList.all (·.oneCell') with
    | false => exact .junk
    | true =>
      refine .i (.a (by simp) (fun i hi => ?_) fun i hi => ?_)
      · simp at hi
        have := (List.all_eq_true.1 hc) cs[i] (by simp)
        simpa [Array.getD, hi] using this
      · simp at hi
        have := (List.all_eq_true.1 hc) cs[i] (by simp)
        simp [Array.getD, hi]
        exact .v (.inl this)
  · exact .junk
  · rename_i h1 h2
    refine .i (.v (.inl ?_))
    cases x <;> first | rfl | exact absurd rfl (h1 _) | exact absurd rfl (h2 _)

def ev (f : Nat → AV) : Operand → AV
  | .tmp t => f t
  | .const v => ofV v
  | .global _ => .junk
  | .func g => .c (.func g) [] []

theorem ev_rd {w : World} {F : Nat → Prop} {β : Nat → Value} {f : Nat → AV} {a : Act} (h : ∀ t, Rd w F β (f t) (a.tmps.getD t undef)) (x : Operand) : Rd w F β (ev f x) (a.eval x) := by
  cases x with
  | tmp t => exact h t
  | const v => exact ofV_rd _ _ _ _
  | global g => exact .junk
  | func g => exact .i (.c rfl rfl (fun i hi => absurd hi (by simp)) (fun i hi => absurd hi (by simp)))


theorem InI64.wrap {n : Int} (h : InI64 n) : IntKind.i64.wrap n = n := IntWalk.i64_in _ h

/-- What '+', '<' .. hand back of two integers. -/
def binI (op : BinOp) (kx ky : IntKind) (a b : Int) (k : Value → Prop) : Prop :=
  match op with
  | .shl => 0 ≤ b ∧ ∃ r, kx.wrap (a * 2 ^ (min b.toNat kx.bits)) = r ∧ k (.int kx r)
  | .shr => 0 ≤ b ∧ ∃ r, a.fdiv (2 ^ (min b.toNat kx.bits)) = r ∧ k (.int kx r)
  | op => bif kx == ky then
    match op with
    | .add => match kx with
      | .i64 => (InI64 (a + b) ∧ k (.int .i64 (a + b))) ∨ ∃ r, IntKind.i64.wrap (a + b) = r ∧ k (.int .i64 r)
      | _ => ∃ r, kx.wrap (a + b) = r ∧ k (.int kx r)
    | .sub => match kx with
      | .i64 => (InI64 (a - b) ∧ k (.int .i64 (a - b))) ∨ ∃ r, IntKind.i64.wrap (a - b) = r ∧ k (.int .i64 r)
      | _ => ∃ r, kx.wrap (a - b) = r ∧ k (.int kx r)
    | .mul => match kx with
      | .i64 => (InI64 (a * b) ∧ k (.int .i64 (a * b))) ∨ ∃ r, IntKind.i64.wrap (a * b) = r ∧ k (.int .i64 r)
      | _ => ∃ r, kx.wrap (a * b) = r ∧ k (.int kx r)
    | .quo => b ≠ 0 ∧ ∃ r, kx.wrap (a.tdiv b) = r ∧ k (.int kx r)
    | .rem => b ≠ 0 ∧ ∃ r, a.tmod b = r ∧ k (.int kx r)
    | .and => ∃ r, kx.wrap (BitVec.ofInt kx.bits a &&& BitVec.ofInt kx.bits b).toNat = r ∧ k (.int kx r)
    | .or => ∃ r, kx.wrap (BitVec.ofInt kx.bits a ||| BitVec.ofInt kx.bits b).toNat = r ∧ k (.int kx r)
    | .xor => ∃ r, kx.wrap (BitVec.ofInt kx.bits a ^^^ BitVec.ofInt kx.bits b).toNat = r ∧ k (.int kx r)
    | .andNot => ∃ r, kx.wrap (BitVec.ofInt kx.bits a &&& ~~~BitVec.ofInt kx.bits b).toNat = r ∧ k (.int kx r)
    | .eql => k (.bool (a == b))
    | .neq => k (.bool (a != b))
    | .lss => k (.bool (decide (a < b)))
    | .leq => k (.bool (decide (a ≤ b)))
    | .gtr => k (.bool (decide (a > b)))
    | .geq => k (.bool (decide (a ≥ b)))
    | _ => False
  else False

theorem cond_prop {c : Bool} {p : Prop} (h : bif c then p else False) : c = true ∧ p := by
  cases c with
  | true => exact ⟨rfl, h⟩
  | false => exact h.elim

theorem beqK {a b : IntKind} (h : (a == b) = true) : a = b := by
  cases a <;> cases b <;> first | rfl | exact absurd h (by decide)

theorem binI_run {P : Program} {op : BinOp} {kx ky : IntKind} {a b : Int} {k : Value → Prop} (h : binI op kx ky a b k) (t : TypeId) (w : World) :
    ∃ v, (binOp op t (.int kx a) (.int ky b)).run P w = .ok v w ∧ v.oneCell' = true ∧ k v := by
  cases op
  case shl =>
    obtain ⟨h0, r, rfl, hk⟩ := h
    exact ⟨_, by simp [binOp, Op.shift, Int.not_lt.2 h0], rfl, hk⟩
  case shr =>
    obtain ⟨h0, r, rfl, hk⟩ := h
    exact ⟨_, by simp [binOp, Op.shift, Int.not_lt.2 h0], rfl, hk⟩
  all_goals
    simp only [binI] at h
    obtain ⟨hc, h1⟩ := cond_prop h
    clear h
    obtain rfl := beqK hc
    clear hc
  case add =>
    cases kx <;> first | (obtain ⟨r, rfl, hk⟩ := h1; exact ⟨_, by simp [binOp, Op.intArith], rfl, hk⟩) | (rcases h1 with ⟨h1, hk⟩ | ⟨r, rfl, hk⟩; exact ⟨_, by simp [binOp, Op.intArith, h1.wrap], rfl, hk⟩; exact ⟨_, by simp [binOp, Op.intArith], rfl, hk⟩)
  case sub =>
    cases kx <;> first | (obtain ⟨r, rfl, hk⟩ := h1; exact ⟨_, by simp [binOp, Op.intArith], rfl, hk⟩) | (rcases h1 with ⟨h1, hk⟩ | ⟨r, rfl, hk⟩; exact ⟨_, by simp [binOp, Op.intArith, h1.wrap], rfl, hk⟩; exact ⟨_, by simp [binOp, Op.intArith], rfl, hk⟩)
  case mul =>
    cases kx <;> first | (obtain ⟨r, rfl, hk⟩ := h1; exact ⟨_, by simp [binOp, Op.intArith], rfl, hk⟩) | (rcases h1 with ⟨h1, hk⟩ | ⟨r, rfl, hk⟩; exact ⟨_, by simp [binOp, Op.intArith, h1.wrap], rfl, hk⟩; exact ⟨_, by simp [binOp, Op.intArith], rfl, hk⟩)
  case quo =>
    obtain ⟨h0, r, rfl, hk⟩ := h1
    exact ⟨_, by simp [binOp, Op.intDiv, h0], rfl, hk⟩
  case rem =>
    obtain ⟨h0, r, rfl, hk⟩ := h1
    exact ⟨_, by simp [binOp, Op.intDiv, h0], rfl, hk⟩
  case and =>
    obtain ⟨r, rfl, hk⟩ := h1
    exact ⟨_, by simp [binOp, Op.intBits], rfl, hk⟩
  case or =>
    obtain ⟨r, rfl, hk⟩ := h1
    exact ⟨_, by simp [binOp, Op.intBits], rfl, hk⟩
  case xor =>
    obtain ⟨r, rfl, hk⟩ := h1
    exact ⟨_, by simp [binOp, Op.intBits], rfl, hk⟩
  case andNot =>
    obtain ⟨r, rfl, hk⟩ := h1
    exact ⟨_, by simp [binOp, Op.intBits], rfl, hk⟩
  all_goals exact ⟨_, by simp [binOp, Op.intCmp], rfl, h1⟩

end Go.Cat
