/- The words of a small logic over the machine: data as trees, read off memory; what a call makes of its own memory. No condition. -/
import Derived.WalkKit
import Derived.WalkSpells
import Derived.WalkLawsBesides
import Derived.KernelRfl
import Derived.MapKept
import Derived.Test.YtkbkfcehehofnaaCatW
namespace Go.Cat
set_option linter.all false
open Go.RowKit

/-- Is it asked that what was drawn only grows? -/
class Mono where
  on : Prop
/-- It is not asked. -/
class Off [Mono] : Prop where
  off : ¬ Mono.on
abbrev Mono.yes : Mono := ⟨True⟩
abbrev Mono.no : Mono := ⟨False⟩

variable [M : Mono]

/-- Data as the logic sees it. 'v': a value of one cell that holds no memory; 's': a slice that nobody writes, by its rows; 'p': a pointer to cells that nobody writes; 'a': a struct's or array's cells; 't': results;
'c': a function value; 'b': a pointer into a box of the call's own; 'o': a slice of the call's own; 'e': a pointer into such a slice; 'w': what is left of such a slice from row d on; 'junk': nothing is known. -/
inductive AV where
  | v (x : Value)
  | s (rows : List (List AV))
  | p (cells : List AV)
  | a (cells : List AV)
  | t (vs : List AV)
  | c (fn : Fn) (first captured : List AV)
  | b (id off : Nat)
  | o (id : Nat)
  | e (id k i j : Nat)
  | w (id k d : Nat)
  | m (id : Nat)
  | junk

instance : Inhabited AV := ⟨.junk⟩

/-- x reads as the tree, from blocks of F alone. -/
inductive RdI (w : World) (F : Nat → Prop) : AV → Value → Prop where
  | v {x : Value} (h : x.oneCell' = true ∨ x = undef) : RdI w F (.v x) x
  | s0 {a : Option Addr} : RdI w F (.s []) (.slice a 0 0)
  | s {rows : List (List AV)} {b off c k : Nat} {u : Nat → Nat → Value}
      (hb : F b) (hc : rows.length ≤ c) (hm : c ≤ maxLen)
      (hk : ∀ i, i < rows.length → (rows.getD i []).length = k)
      (hcell : ∀ i j, i < rows.length → j < k → w.cell? ⟨b, off + (i * k + j), none⟩ = some (u i j))
      (hone : ∀ i j, i < rows.length → j < k → (u i j).oneCell' = true)
      (hrd : ∀ i j, i < rows.length → j < k → RdI w F ((rows.getD i []).getD j .junk) (u i j)) :
      RdI w F (.s rows) (.slice (some ⟨b, off, none⟩) rows.length c)
  | p {cells : List AV} {b off : Nat} {u : Nat → Value}
      (hb : F b)
      (hcell : ∀ j, j < cells.length → w.cell? ⟨b, off + j, none⟩ = some (u j))
      (hone : ∀ j, j < cells.length → (u j).oneCell' = true)
      (hrd : ∀ j, j < cells.length → RdI w F (cells.getD j .junk) (u j)) :
      RdI w F (.p cells) (.pointer (some ⟨b, off, none⟩))
  | a {cells : List AV} {us : Array Value} (hs : us.size = cells.length)
      (hone : ∀ i, i < cells.length → (us.getD i undef).oneCell' = true)
      (h : ∀ i, i < cells.length → RdI w F (cells.getD i .junk) (us.getD i undef)) : RdI w F (.a cells) (.agg us)
  | t {cells : List AV} {us : Array Value} (hs : us.size = cells.length)
      (h : ∀ i, i < cells.length → RdI w F (cells.getD i .junk) (us.getD i undef)) : RdI w F (.t cells) (.tuple us)
  | c {fn : Fn} {fs cs : List AV} {us vs : Array Value} (hs : us.size = fs.length) (hs' : vs.size = cs.length)
      (h : ∀ i, i < fs.length → RdI w F (fs.getD i .junk) (us.getD i undef))
      (h' : ∀ i, i < cs.length → RdI w F (cs.getD i .junk) (vs.getD i undef)) : RdI w F (.c fn fs cs) (.func fn us vs)

/-- The same, where labels of the call's own memory may stand: β says what they are. -/
inductive Rd (w : World) (F : Nat → Prop) (β : Nat → Value) : AV → Value → Prop where
  | i {x : AV} {u : Value} (h : RdI w F x u) : Rd w F β x u
  | junk {u : Value} : Rd w F β .junk u
  | b {id off blk : Nat} (h : β id = .pointer (some ⟨blk, 0, none⟩)) : Rd w F β (.b id off) (.pointer (some ⟨blk, off, none⟩))
  | o {id n c : Nat} {a : Option Addr} (h : β id = .slice a n c) : Rd w F β (.o id) (.slice a n c)
  | e {id k i j g n c : Nat} (h : β id = .slice (some ⟨g, 0, none⟩) n c) : Rd w F β (.e id k i j) (.pointer (some ⟨g, i * k + j, none⟩))
  | m {id b : Nat} (h : β id = .map (some b)) : Rd w F β (.m id) (.map (some b))
  | w {id k d n c : Nat} {a a' : Option Addr} (h : β id = .slice a n c) (hd : d ≤ n) (ha : d < c → a' = a.map (·.add (d * k))) : Rd w F β (.w id k d) (.slice a' (n - d) (c - d))
  | a {cells : List AV} {us : Array Value} (hs : us.size = cells.length)
      (hone : ∀ i, i < cells.length → (us.getD i undef).oneCell' = true)
      (h : ∀ i, i < cells.length → Rd w F β (cells.getD i .junk) (us.getD i undef)) : Rd w F β (.a cells) (.agg us)
  | t {cells : List AV} {us : Array Value} (hs : us.size = cells.length)
      (h : ∀ i, i < cells.length → Rd w F β (cells.getD i .junk) (us.getD i undef)) : Rd w F β (.t cells) (.tuple us)
  | c {fn : Fn} {fs cs : List AV} {us vs : Array Value} (hs : us.size = fs.length) (hs' : vs.size = cs.length)
      (h : ∀ i, i < fs.length → Rd w F β (fs.getD i .junk) (us.getD i undef))
      (h' : ∀ i, i < cs.length → Rd w F β (cs.getD i .junk) (vs.getD i undef)) : Rd w F β (.c fn fs cs) (.func fn us vs)

/-- Two worlds hold the same in the blocks of F. -/
def Agree (F : Nat → Prop) (w w' : World) : Prop := ∀ b, F b → w'.heap[b]? = w.heap[b]?

theorem Agree.cell {F : Nat → Prop} {w w' : World} (h : Agree F w w') {b o : Nat} (hb : F b) : w'.cell? ⟨b, o, none⟩ = w.cell? ⟨b, o, none⟩ :=
  World.cell?_of_block (w := w) (h b hb)

theorem RdI.frame {w w' : World} {F F' : Nat → Prop} (ha : Agree F w w') (hF : ∀ b, F b → F' b) {x : AV} {u : Value} (h : RdI w F x u) : RdI w' F' x u := by
  induction h with
  | v h => exact .v h
  | s0 => exact .s0
  | s hb hc hm hk hcell hone hrd ih => exact .s (hF _ hb) hc hm hk (fun i j hi hj => by rw [ha.cell hb]; exact hcell i j hi hj) hone ih
  | p hb hcell hone hrd ih => exact .p (hF _ hb) (fun j hj => by rw [ha.cell hb]; exact hcell j hj) hone ih
  | a hs hone h ih => exact .a hs hone ih
  | t hs h ih => exact .t hs ih
  | c hs hs' h h' ih ih' => exact .c hs hs' ih ih'

theorem Rd.frame {w w' : World} {F F' : Nat → Prop} {β : Nat → Value} (ha : Agree F w w') (hF : ∀ b, F b → F' b) {x : AV} {u : Value} (h : Rd w F β x u) : Rd w' F' β x u := by
  induction h with
  | i h => exact .i (h.frame ha hF)
  | junk => exact .junk
  | b h => exact .b h
  | o h => exact .o h
  | e h => exact .e h
  | w h hd ha => exact .w h hd ha
  | m h => exact .m h
  | a hs hone h ih => exact .a hs hone ih
  | t hs h ih => exact .t hs ih
  | c hs hs' h h' ih ih' => exact .c hs hs' ih ih'

/-! Opening a reading by the tree's shape. -/
section
variable {w : World} {F : Nat → Prop} {β : Nat → Value} {u : Value}

theorem Rd.v_inv {x : Value} (h : Rd w F β (.v x) u) : u = x := by
  cases h with
  | i h => cases h; rfl

theorem Rd.a_inv {cells : List AV} (h : Rd w F β (.a cells) u) : ∃ us : Array Value, u = .agg us ∧ us.size = cells.length ∧ (∀ i, i < cells.length → (us.getD i undef).oneCell' = true) ∧
    ∀ i, i < cells.length → Rd w F β (cells.getD i .junk) (us.getD i undef) := by
  cases h with
  | i h => cases h with | a hs hone h => exact ⟨_, rfl, hs, hone, fun i hi => .i (h i hi)⟩
  | a hs hone h => exact ⟨_, rfl, hs, hone, h⟩

theorem Rd.t_inv {cells : List AV} (h : Rd w F β (.t cells) u) : ∃ us : Array Value, u = .tuple us ∧ us.size = cells.length ∧
    ∀ i, i < cells.length → Rd w F β (cells.getD i .junk) (us.getD i undef) := by
  cases h with
  | i h => cases h with | t hs h => exact ⟨_, rfl, hs, fun i hi => .i (h i hi)⟩
  | t hs h => exact ⟨_, rfl, hs, h⟩

theorem Rd.c_inv {fn : Fn} {fs cs : List AV} (h : Rd w F β (.c fn fs cs) u) : ∃ us vs : Array Value, u = .func fn us vs ∧ us.size = fs.length ∧ vs.size = cs.length ∧
    (∀ i, i < fs.length → Rd w F β (fs.getD i .junk) (us.getD i undef)) ∧ (∀ i, i < cs.length → Rd w F β (cs.getD i .junk) (vs.getD i undef)) := by
  cases h with
  | i h => cases h with | c hs hs' h h' => exact ⟨_, _, rfl, hs, hs', fun i hi => .i (h i hi), fun i hi => .i (h' i hi)⟩
  | c hs hs' h h' => exact ⟨_, _, rfl, hs, hs', h, h'⟩

theorem Rd.s_inv {rows : List (List AV)} (h : Rd w F β (.s rows) u) : RdI w F (.s rows) u := by cases h; assumption
theorem Rd.p_inv {cells : List AV} (h : Rd w F β (.p cells) u) : RdI w F (.p cells) u := by cases h; assumption

theorem Rd.b_inv {id off : Nat} (h : Rd w F β (.b id off) u) : ∃ blk, β id = .pointer (some ⟨blk, 0, none⟩) ∧ u = .pointer (some ⟨blk, off, none⟩) := by
  cases h with
  | i h => cases h
  | b h => exact ⟨_, h, rfl⟩

theorem Rd.o_inv {id : Nat} (h : Rd w F β (.o id) u) : ∃ a n c, β id = .slice a n c ∧ u = .slice a n c := by
  cases h with
  | i h => cases h
  | o h => exact ⟨_, _, _, h, rfl⟩

theorem Rd.e_inv {id k i j : Nat} (h : Rd w F β (.e id k i j) u) : ∃ g n c, β id = .slice (some ⟨g, 0, none⟩) n c ∧ u = .pointer (some ⟨g, i * k + j, none⟩) := by
  cases h with
  | i h => cases h
  | e h => exact ⟨_, _, _, h, rfl⟩

theorem Rd.m_inv {id : Nat} (h : Rd w F β (.m id) u) : ∃ b, β id = .map (some b) ∧ u = .map (some b) := by
  cases h with
  | i h => cases h
  | m h => exact ⟨_, h, rfl⟩

theorem Rd.w_inv {id k d : Nat} (h : Rd w F β (.w id k d) u) : ∃ a a' n c, β id = .slice a n c ∧ d ≤ n ∧ (d < c → a' = a.map (·.add (d * k))) ∧ u = .slice a' (n - d) (c - d) := by
  cases h with
  | i h => cases h
  | w h hd ha => exact ⟨_, _, _, _, h, hd, ha, rfl⟩
end

/-- May the tree stand in one cell? -/
def isCell : AV → Bool
  | .v (.agg _) | .v (.tuple _) | .a _ | .t _ | .junk => false
  | _ => true

theorem isCell_one {w : World} {F : Nat → Prop} {β : Nat → Value} {x : AV} {u : Value} (hx : isCell x = true) (h : Rd w F β x u) : u.oneCell' = true := by
  cases h with
  | i h =>
    cases h with
    | v h =>
      rcases h with h | rfl
      · exact h
      · simp [isCell, undef] at hx
    | s0 => rfl
    | s => rfl
    | p => rfl
    | a => simp [isCell] at hx
    | t => simp [isCell] at hx
    | c => rfl
  | junk => simp [isCell] at hx
  | b => rfl
  | o => rfl
  | e => rfl
  | w => rfl
  | m => rfl
  | a => simp [isCell] at hx
  | t => simp [isCell] at hx
  | c => rfl

/-- The call's own memory: a box; a slice that the call made and alone may write (its element type, the cells of an element, its rows). -/
inductive Chunk where
  | box (cells : List AV)
  | own (E k : Nat) (rows : List (List AV))
  | mp (ag : Bool) (rows : List (Int × List AV))

abbrev Hp := List (Nat × Chunk)

def blkOf : Value → Option Nat
  | .pointer (some a) => some a.block
  | .slice (some a) _ c => bif Nat.beq c 0 then none else some a.block
  | .map (some b) => some b
  | _ => none

/-- A value's tree out of its cells' trees. -/
def vOf (ag : Bool) (cells : List AV) : AV := bif ag then .a cells else cells.getD 0 .junk

def Chunk.holds (w : World) (F : Nat → Prop) (β : Nat → Value) (id : Nat) : Chunk → Prop
  | .box cells => ∃ b c e, β id = .pointer (some ⟨b, 0, none⟩) ∧ w.heap[b]? = some (.cells c e (0, 0)) ∧ c.size = cells.length ∧
      (∀ i, i < cells.length → (c.getD i undef).oneCell' = true) ∧ ∀ i, i < cells.length → Rd w F β (cells.getD i .junk) (c.getD i undef)
  | .own E k rows => (rows = [] ∧ ∃ a, β id = .slice a 0 0) ∨ ∃ g cap cur, β id = .slice (some ⟨g, 0, none⟩) rows.length cap ∧ 0 < cap ∧ w.heap[g]? = some (.cells cur E (0, 0)) ∧ rows.length ≤ cap ∧ cap ≤ maxLen ∧
      cur.size = cap * k ∧ (∀ i, i < rows.length → (rows.getD i []).length = k) ∧
      ∀ i j, i < rows.length → j < k → (cur.getD (i * k + j) undef).oneCell' = true ∧ RdI w F ((rows.getD i []).getD j .junk) (cur.getD (i * k + j) undef)
  | .mp ag rows => ∃ b es ck, β id = .map (some b) ∧ w.heap[b]? = some (.map es ck) ∧ Go.MapKept.Stamped es ck ∧ es.size = rows.length ∧ es.size ≤ 140737488355328 ∧
      ∀ (i : Nat) (r : Int × List AV), rows[i]? = some r → ∃ e : MapEntry, es[i]? = some e ∧ e.key = .int .i64 r.1 ∧ InI64 r.1 ∧ RdI w F (vOf ag r.2) e.val

/-- Block b is one of the call's own. -/
def Owned (β : Nat → Value) (H : Hp) (b : Nat) : Prop := ∃ id c, (id, c) ∈ H ∧ blkOf (β id) = some b

structure Inv (w : World) (F : Nat → Prop) (β : Nat → Value) (H : Hp) : Prop where
  fsize : ∀ b, F b → b < w.heap.size
  holds : ∀ id c, (id, c) ∈ H → c.holds w F β id
  keys : (H.map (·.1)).Nodup
  apart : ∀ b, Owned β H b → ¬ F b
  disj : ∀ id c id' c' b, (id, c) ∈ H → (id', c') ∈ H → blkOf (β id) = some b → blkOf (β id') = some b → id = id'

theorem blk_lt_of_heap {w : World} {b : Nat} {o : Obj} (h : w.heap[b]? = some o) : b < w.heap.size := (Array.getElem?_eq_some_iff.1 h).1

theorem holds_lt {w : World} {F : Nat → Prop} {β : Nat → Value} {id : Nat} {c : Chunk} (h : c.holds w F β id) {b : Nat} (hb : blkOf (β id) = some b) : b < w.heap.size := by
  cases c with
  | box cells =>
    obtain ⟨b', c', e, hβ, hh, _⟩ := h
    rw [hβ] at hb; simp [blkOf] at hb; subst hb
    exact blk_lt_of_heap hh
  | mp ag rows =>
    obtain ⟨b', es, ck, hβ, hh, _⟩ := h
    rw [hβ] at hb; simp [blkOf] at hb; subst hb
    exact blk_lt_of_heap hh
  | own E k rows =>
    rcases h with ⟨_, a, hv⟩ | ⟨g, cap, cur, hv, hc, hg, _⟩
    · rw [hv] at hb; cases a <;> simp [blkOf] at hb
    · have h0 : Nat.beq cap 0 = false := by cases cap <;> first | rfl | omega
      rw [hv] at hb; simp [blkOf, h0] at hb; subst hb
      exact blk_lt_of_heap hg

theorem Inv.owned_lt {w : World} {F : Nat → Prop} {β : Nat → Value} {H : Hp} (h : Inv w F β H) {b : Nat} (hb : Owned β H b) : b < w.heap.size := by
  obtain ⟨id, c, hm, hk⟩ := hb
  exact holds_lt (h.holds id c hm) hk

/-- The state: what each slot reads as; the call's own memory. -/
structure ASt where
  f : Nat → AV
  H : Hp

def noSlots : Nat → AV := fun _ => .junk

/-- The same tape; where it is asked, what was drawn of it only grows. -/
def SameT [Mono] (w w' : World) : Prop := w'.tape = w.tape ∧ (Mono.on → w.drawn ≤ w'.drawn)
theorem SameT.refl (w : World) : SameT w w := ⟨rfl, fun _ => Nat.le_refl _⟩
theorem SameT.trans {w w' w'' : World} (h : SameT w w') (h' : SameT w' w'') : SameT w w'' := ⟨h'.1.trans h.1, fun m => Nat.le_trans (h.2 m) (h'.2 m)⟩

/-- Nothing below B has turned; what was drawn only grows. -/
structure Below (B : Nat) (w w' : World) : Prop where
  os : w'.os = w.os
  tape : SameT w w'
  output : w'.output = w.output
  size : w.heap.size ≤ w'.heap.size
  block : ∀ k, k < B → w'.heap[k]? = w.heap[k]?
theorem Below.old {B : Nat} {w w' : World} (h : Below B w w') : Go.RowKit.Below B w w' := ⟨h.os, h.tape.1, h.output, h.size, h.block⟩
theorem Below.refl (B : Nat) (w : World) : Below B w w := ⟨rfl, SameT.refl _, rfl, Nat.le_refl _, fun _ _ => rfl⟩
theorem Below.trans {B : Nat} {a b c : World} (h : Below B a b) (k : Below B b c) : Below B a c :=
  ⟨k.os.trans h.os, h.tape.trans k.tape, k.output.trans h.output, Nat.le_trans h.size k.size, fun i hi => (k.block i hi).trans (h.block i hi)⟩
theorem Below.drew {B : Nat} {a w : World} (h : Below B a w) : Below B a w.drew := ⟨h.os, ⟨h.tape.1, fun m => Nat.le_succ_of_le (h.tape.2 m)⟩, h.output, h.size, h.block⟩
theorem Below.alloc {B : Nat} {a w : World} (h : Below B a w) (hB : B ≤ w.heap.size) (o : Obj) : Below B a (w.alloc o) :=
  ⟨h.os, h.tape, h.output, (h.old.alloc hB o).size, (h.old.alloc hB o).block⟩

structure Ext (w : World) (F : Nat → Prop) (β : Nat → Value) (st : ASt) (w' : World) (F' : Nat → Prop) (β' : Nat → Value) (st' : ASt) : Prop where
  os : w'.os = w.os
  tape : SameT w w'
  output : w'.output = w.output
  size : w.heap.size ≤ w'.heap.size
  block : ∀ b, b < w.heap.size → ¬ Owned β st.H b → w'.heap[b]? = w.heap[b]?
  mono : ∀ b, F b → F' b
  new : ∀ b, F' b → F b ∨ w.heap.size ≤ b ∨ Owned β st.H b
  owned : ∀ b, Owned β' st'.H b → w.heap.size ≤ b ∨ Owned β st.H b
  keep : ∀ t u, Rd w F β (st.f t) u → Rd w' F' β' (st'.f t) u
  inv : Inv w' F' β' st'.H
  lab : ∀ i, 1000 ≤ i → β' i = β i

theorem Ext.refl {w : World} {F : Nat → Prop} {β : Nat → Value} {st : ASt} (h : Inv w F β st.H) : Ext w F β st w F β st :=
  ⟨rfl, SameT.refl _, rfl, Nat.le_refl _, fun _ _ _ => rfl, fun _ h => h, fun _ h => .inl h, fun _ h => .inr h, fun _ _ h => h, h, fun _ _ => rfl⟩

theorem Ext.trans {w : World} {F : Nat → Prop} {β : Nat → Value} {st : ASt} {w' : World} {F' : Nat → Prop} {β' : Nat → Value} {st' : ASt} {w'' : World} {F'' : Nat → Prop} {β'' : Nat → Value} {st'' : ASt}
    (h : Ext w F β st w' F' β' st') (h' : Ext w' F' β' st' w'' F'' β'' st'') : Ext w F β st w'' F'' β'' st'' where
  os := h'.os.trans h.os
  tape := h.tape.trans h'.tape
  output := h'.output.trans h.output
  size := Nat.le_trans h.size h'.size
  block b hb hn := by
    have h1 : ¬ Owned β' st'.H b := fun ho => (h.owned b ho).elim (fun hge => absurd hb (Nat.not_lt.2 hge)) hn
    rw [h'.block b (Nat.lt_of_lt_of_le hb h.size) h1, h.block b hb hn]
  mono b hb := h'.mono b (h.mono b hb)
  new b hb := by
    rcases h'.new b hb with h1 | h1 | h1
    · exact h.new b h1
    · exact .inr (.inl (Nat.le_trans h.size h1))
    · exact (h.owned b h1).elim (fun x => .inr (.inl x)) (fun x => .inr (.inr x))
  owned b hb := by
    rcases h'.owned b hb with h1 | h1
    · exact .inl (Nat.le_trans h.size h1)
    · exact h.owned b h1
  keep t u hu := h'.keep t u (h.keep t u hu)
  inv := h'.inv
  lab i hi := (h'.lab i hi).trans (h.lab i hi)

end Go.Cat
