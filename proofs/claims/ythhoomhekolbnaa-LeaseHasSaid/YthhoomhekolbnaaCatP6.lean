/- The logic that the walks are in, piece P6. No condition. -/
import Derived.Test.YthhoomhekolbnaaCatP5
import Derived.Laws.AppendOwn
import Derived.Shelf.SlIterI.Nil
import Derived.Shelf.SortM.Plain
import Derived.Shelf.SortM.SortNone
import Derived.Test.YthhoomhekolbnaaCatP1
import Derived.RangeFuncBox
import Derived.RangeFuncWrites
import Derived.RangeFuncLeaves
/- What is left of a slice of one's own, from a row on. No condition. -/
set_option linter.all false
namespace Go.Cat
open Go.RowKit
variable [M : Mono]

section
variable {P : Program}

theorem Fz.w {H : Hp} {id E K d : Nat} {rows : List (List AV)} (h : findC id H = some (.own E K rows)) : Fz H (.w id K d) (.s (rows.drop d)) := fun w F β u hI hr => by
  obtain ⟨a, a', n, c, hβ, hd, ha, rfl⟩ := hr.w_inv
  have hm := findC_mem h
  rcases hI.holds _ _ hm with ⟨rfl, a2, hv⟩ | ⟨g, cap, cur, hv, hc, hg, hn, hmx, hs, hK, hr⟩
  · rw [hβ] at hv
    cases hv
    have : d = 0 := by omega
    subst this
    exact .s0
  · rw [hβ] at hv
    cases hv
    have h0 : Nat.beq c 0 = false := by cases c <;> first | rfl | omega
    have hcell := (own_cell (hI.holds _ _ hm) hβ).2.2.2
    obtain ⟨u, hu⟩ := hcell
    have hlen : (rows.drop d).length = rows.length - d := by simp
    by_cases hdc : d < c
    · have ha := ha hdc
      subst ha
      have e : (Option.map (·.add (d * K)) (some (⟨g, 0, none⟩ : Addr))) = some ⟨g, d * K, none⟩ := by simp [Addr.add_lit]
      rw [e, ← hlen]
      have hrow : ∀ i, i < (rows.drop d).length → (rows.drop d).getD i [] = rows.getD (d + i) [] := fun i hi => by simp [List.getD, List.getElem?_drop]
      refine .s (off := d * K) (k := K) (u := fun i j => u (d + i) j) (.inr ⟨id, _, hm, by rw [hβ]; simp [blkOf, h0]⟩) (by omega) (by omega) (fun i hi => ?_) (fun i j hi hj => ?_) (fun i j hi hj => ?_) fun i j hi hj => ?_
      · rw [hrow i hi]; exact hK _ (by omega)
      · have := (hu (d + i) j (by omega) hj).1
        rw [← this]
        congr 2
        rw [Nat.add_mul]; omega
      · exact (hu (d + i) j (by omega) hj).2.1
      · rw [hrow i hi]
        exact (hu (d + i) j (by omega) hj).2.2.frame (fun _ _ => rfl) fun _ h => .inl h
    · have hd1 : rows.length - d = 0 := by omega
      have hc1 : c - d = 0 := by omega
      have : rows.drop d = [] := List.eq_nil_of_length_eq_zero (by omega)
      rw [hd1, hc1, this]
      exact .s0

theorem idx_drop {α : Type} {l : List α} {d : Nat} {i : Int} {x : α} (h : idx (l.drop d) i = some x) : l[d + i.toNat]? = some x := by
  have := idx_get h
  rwa [List.getElem?_drop] at this
theorem idx_rowd {α : Type} {f : α → List AV} {l : List α} {d : Nat} {i : Int} {x : α} (h : idx (l.drop d) i = some x) : (l.map f)[d + i.toNat]? = some (f x) := by
  rw [List.getElem?_map, idx_drop h]; rfl
theorem idx_ltd {α : Type} {f : α → List AV} {l : List α} {d : Nat} {i : Int} {x : α} (h : idx (l.drop d) i = some x) : d + i.toNat < (l.map f).length := by
  rw [List.length_map]; exact (List.getElem?_eq_some_iff.1 (idx_drop h)).1
theorem wlen {α : Type} {f : α → List AV} (l : List α) (d : Nat) : (l.map f).length - d = (l.drop d).length := by simp
end
end Go.Cat

/- The numbers of a map, in order: the library's iterator over a map's keys, and its sort of what an iterator gives, as calls. No condition. -/
set_option linter.all false
namespace Go.Cat
open Go.RowKit
variable [M : Mono]

section
variable {P : Program}

/-- What the library says of its iterator over a map's keys: the map is boxed. -/
def KeysSays (P : Program) (g k1 : Nat) : Prop := ∀ (b : Nat) (w : World),
  Calls P g #[.map (some b)] w fun e w' => e = .returned (.func (.func k1) #[] #[.pointer (some ⟨w.heap.size, 0, none⟩)]) ∧ ∃ T, w' = w.alloc (.cells #[.map (some b)] T)

/-- What the library says of its sort of what that iterator gives. -/
def SortedSays (P : Program) (g k1 E : Nat) : Prop := ∀ (w : World) (Bm b : Nat) (es : Array MapEntry) (ck : Nat) (ks : List Int), w.cell? ⟨Bm, 0, none⟩ = some (.map (some b)) → Bm < w.heap.size →
  w.heap[b]? = some (.map es ck) → Go.MapKept.Stamped es ck → es.toList.map (·.key) = ks.map (Value.int .i64) → (∀ n, n ∈ ks → InI64 n) → ks.length * 8 ≤ 140737488355328 →
  Calls P g #[.func (.func k1) #[] #[.pointer (some ⟨Bm, 0, none⟩)]] w fun e w' => ∃ v, e = .returned v ∧
    w'.ownsRow w.heap.size E 1 v ks.length ((ks.mergeSort fun x y => decide (x ≤ y)).map (Value.int .i64)) ∧ Go.RowKit.Below w.heap.size w w'

theorem CallOk.keys {g k1 id D : Nat} {ag : Bool} {rows : List (Int × List AV)} {st : ASt} {k : AV → ASt → Prop} (hS : KeysSays P g k1) (hE : Entered P g) (hc : findC id st.H = some (.mp ag rows)) (hD : Nat.blt D 1000 = true) (hne : Nat.beq id D = false)
    (hk : k (.c (.func k1) [] [.b D 0]) (bindSt st D (.box [.m id]))) : CallOk P g [.m id] st k := by
  refine ⟨hE, fun w F β vs hI hs hv => ?_⟩
  have hidD : id ≠ D := fun e => by rw [e, Nat.beq_refl] at hne; cases hne
  obtain ⟨b, hβ, hv0⟩ := (hv 0 (by simp)).m_inv
  have hvs : vs = #[.map (some b)] := by
    apply Array.ext
    · simpa using hs
    · intro i h1 h2
      have h2 : i < 1 := h2
      have : i = 0 := by omega
      subst this
      simpa [Array.getD, h1] using hv0
  subst hvs
  refine (hS b w).mono ?_
  rintro e w' ⟨rfl, T, rfl⟩
  have hb := below_alloc w (.cells #[.map (some b)] T)
  have hnew : (w.alloc (.cells #[.map (some b)] T)).heap[w.heap.size]? = some (.cells #[.map (some b)] T) := (Go.MapKept.heap_alloc w _).1
  refine ⟨_, rfl, _, _, F, fun q => if q = D then .pointer (some ⟨w.heap.size, 0, none⟩) else β q, hk, .c rfl rfl (fun i hi => by simp at hi) (fun i hi => ?_), ext_bind (v := .pointer (some ⟨w.heap.size, 0, none⟩)) (by simpa using hD) hI hb.os hb.tape hb.output hb.size (fun b hb' _ => hb.block b hb')
    (fun i c' b _ hm hb' => hb.block b (hI.owned_lt ⟨i, c', hm, hb'⟩)) (fun b hb' => .inl ?_) ?_⟩
  · have hi : i < 1 := by simpa using hi
    have : i = 0 := by omega
    subst this
    exact .b (by simp)
  · simp [blkOf] at hb'; omega
  · refine ⟨w.heap.size, #[.map (some b)], T, by simp, hnew, rfl, fun i hi => ?_, fun i hi => ?_⟩
    · have hi : i < 1 := by simpa using hi
      have : i = 0 := by omega
      subst this
      rfl
    · have hi : i < 1 := by simpa using hi
      have : i = 0 := by omega
      subst this
      exact .m (by simp [hidD, hβ])

end
end Go.Cat

/- What the library says of a map's keys, and of their sort, out of how the program holds it. No condition. -/
set_option linter.all false
namespace Go.Cat
open Go.RowKit Go.Proofs Go.Shelf Go.Maps Go.Sort
open Go.WideElems (Fit rg)

def konst (_ : Value) : Option (DataW Unit × List MemPlace) := some (.lit (.bool false), [])

end Go.Cat

/- Rows with slices of nothing, read as rows with empty slices. No condition. -/
set_option linter.all false
namespace Go.Cat
variable [M : Mono]
end Go.Cat

/- Calls that are handed things of one's own, whichever, and hand back such: the general rule. No condition. -/
set_option linter.all false
namespace Go.Cat
open Go.RowKit
variable [M : Mono]

/-- A label by a table. -/
def at? : List (Nat × Nat) → Nat → Option Nat
  | [], _ => none
  | (i, j) :: r, x => bif Nat.beq x i then some j else at? r x

theorem at_mem {i j : Nat} : ∀ {m : List (Nat × Nat)}, at? m i = some j → (i, j) ∈ m
  | [], h => by cases h
  | (a, b) :: r, h => by
    simp only [at?] at h
    cases hb : Nat.beq i a with
    | true => rw [hb] at h; cases h; rw [Nat.eq_of_beq_eq_true hb]; simp
    | false => rw [hb] at h; exact List.mem_cons_of_mem _ (at_mem h)

theorem at_of {i j : Nat} : ∀ {m : List (Nat × Nat)}, (m.map (·.1)).Nodup → (i, j) ∈ m → at? m i = some j
  | [], _, h => by cases h
  | (a, b) :: r, hn, h => by
    simp only [List.map_cons, List.nodup_cons] at hn
    simp only [at?]
    rcases List.mem_cons.1 h with h | h
    · cases h; rw [Nat.beq_refl]; rfl
    · have : Nat.beq i a = false := by
        cases hb : Nat.beq i a with
        | false => rfl
        | true => exact absurd (List.mem_map.2 ⟨_, h, Nat.eq_of_beq_eq_true hb⟩) hn.1
      rw [this]; exact at_of hn.2 h

/-- The tree in other labels; what has none is not known. -/
def rl (φ : Nat → Option Nat) : Nat → AV → AV
  | n, x => match x with
    | .b i o => match φ i with
      | some j => .b j o
      | none => .junk
    | .o i => match φ i with
      | some j => .o j
      | none => .junk
    | .e i K m o => match φ i with
      | some j => .e j K m o
      | none => .junk
    | .w i K d => match φ i with
      | some j => .w j K d
      | none => .junk
    | .m i => match φ i with
      | some j => .m j
      | none => .junk
    | .a cs => match n with
      | 0 => .junk
      | n + 1 => .a (cs.map (rl φ n))
    | .t cs => match n with
      | 0 => .junk
      | n + 1 => .t (cs.map (rl φ n))
    | .c fn fs cs => match n with
      | 0 => .junk
      | n + 1 => .c fn (fs.map (rl φ n)) (cs.map (rl φ n))
    | .v x => .v x
    | .s r => .s r
    | .p c => .p c
    | .z => .z
    | .junk => .junk

def rlC (φ : Nat → Option Nat) : Chunk → Chunk
  | .box cells => .box (cells.map (rl φ 2))
  | .own E k rows => .own E k rows
  | .mp ag rows => .mp ag rows

def rlH (φ : Nat → Option Nat) : Hp → Hp
  | [] => []
  | (i, c) :: r => match φ i with
    | some j => (j, rlC φ c) :: rlH φ r
    | none => rlH φ r

section
variable {P : Program} {T : TT} {w : World} {F : Nat → Prop} {β β' : Nat → Value}

theorem rl_rd {φ : Nat → Option Nat} (hβ : ∀ i j, φ i = some j → β' j = β i) : ∀ (n : Nat) {x : AV} {u : Value}, Rd w F β x u → Rd w F β' (rl φ n x) u := by
  have one : ∀ {i : Nat} {f : Nat → AV} {u : Value}, (∀ j, φ i = some j → Rd w F β' (f j) u) → Rd w F β' (match φ i with | some j => f j | none => .junk) u := fun h => by
    split
    · exact h _ (by assumption)
    · exact .junk
  have leaf : ∀ {n : Nat} {x : AV} {u : Value}, Rd w F β x u → (∀ cs, x ≠ .a cs) → (∀ cs, x ≠ .t cs) → (∀ g fs cs, x ≠ .c g fs cs) → Rd w F β' (rl φ n x) u := by
    intro n x u h h1 h2 h3
    cases x with
    | v x => cases h with | i h => cases h; cases n <;> exact .i (.v (by assumption))
    | s r => cases n <;> exact .i h.s_inv
    | p c => cases n <;> exact .i h.p_inv
    | z => obtain ⟨a, rfl⟩ := h.z_inv; cases n <;> exact .i .z
    | junk => cases n <;> exact .junk
    | a cs => exact absurd rfl (h1 cs)
    | t cs => exact absurd rfl (h2 cs)
    | c g fs cs => exact absurd rfl (h3 g fs cs)
    | b i o =>
      obtain ⟨blk, hb, rfl⟩ := h.b_inv
      cases n <;> exact one fun j hj => .b ((hβ i j hj).trans hb)
    | o i =>
      obtain ⟨a, k, c, hb, rfl⟩ := h.o_inv
      cases n <;> exact one fun j hj => .o ((hβ i j hj).trans hb)
    | e i K m o =>
      obtain ⟨g, k, c, hb, rfl⟩ := h.e_inv
      cases n <;> exact one fun j hj => .e ((hβ i j hj).trans hb)
    | w i K d =>
      obtain ⟨a, a', k, c, hb, hd, ha, rfl⟩ := h.w_inv
      cases n <;> exact one fun j hj => .w ((hβ i j hj).trans hb) hd ha
    | m i =>
      obtain ⟨b, hb, rfl⟩ := h.m_inv
      cases n <;> exact one fun j hj => .m ((hβ i j hj).trans hb)
  intro n
  induction n with
  | zero =>
    intro x u h
    cases x with
    | a cs => exact .junk
    | t cs => exact .junk
    | c g fs cs => exact .junk
    | _ => exact leaf h (by simp) (by simp) (by simp)
  | succ n ih =>
    have get : ∀ (l : List AV) (i : Nat), i < l.length → (l.map (rl φ n)).getD i .junk = rl φ n (l.getD i .junk) := fun l i hi => by simp [List.getD, hi]
    intro x u h
    cases x with
    | a cs =>
      show Rd w F β' (.a (cs.map (rl φ n))) u
      obtain ⟨us, rfl, hs, h1, hr⟩ := h.a_inv
      refine .a (by simpa using hs) (fun i hi => h1 i (by simpa using hi)) fun i hi => ?_
      have hi : i < cs.length := by simpa using hi
      rw [get cs i hi]; exact ih (hr i hi)
    | t cs =>
      show Rd w F β' (.t (cs.map (rl φ n))) u
      obtain ⟨us, rfl, hs, hr⟩ := h.t_inv
      refine .t (by simpa using hs) fun i hi => ?_
      have hi : i < cs.length := by simpa using hi
      rw [get cs i hi]; exact ih (hr i hi)
    | c g fs cs =>
      show Rd w F β' (.c g (fs.map (rl φ n)) (cs.map (rl φ n))) u
      obtain ⟨us, vs, rfl, hs, hs', hr, hr'⟩ := h.c_inv
      refine .c (by simpa using hs) (by simpa using hs') (fun i hi => ?_) fun i hi => ?_
      · have hi : i < fs.length := by simpa using hi
        rw [get fs i hi]; exact ih (hr i hi)
      · have hi : i < cs.length := by simpa using hi
        rw [get cs i hi]; exact ih (hr' i hi)
    | _ => exact leaf h (by simp) (by simp) (by simp)

theorem rlC_holds {φ : Nat → Option Nat} (hβ : ∀ i j, φ i = some j → β' j = β i) {i j : Nat} (hij : φ i = some j) {c : Chunk} (h : c.holds w F β i) : (rlC φ c).holds w F β' j := by
  cases c with
  | box cells =>
    obtain ⟨b, cs, e, hb, hh, hs, h1, hr⟩ := h
    refine ⟨b, cs, e, (hβ i j hij).trans hb, hh, by simpa using hs, fun q hq => h1 q (by simpa using hq), fun q hq => ?_⟩
    have hq : q < cells.length := by simpa using hq
    have : (cells.map (rl φ 2)).getD q .junk = rl φ 2 (cells.getD q .junk) := by simp [List.getD, hq]
    rw [this]
    exact rl_rd hβ 2 (hr q hq)
  | own E k rows => exact holds_imm (c := .own E k rows) rfl (fun _ h => h) (hβ i j hij) h
  | mp ag rows => exact holds_imm (c := .mp ag rows) rfl (fun _ h => h) (hβ i j hij) h

theorem rlH_mem {φ : Nat → Option Nat} {j : Nat} {c : Chunk} : ∀ {H : Hp}, (j, c) ∈ rlH φ H → ∃ i c0, (i, c0) ∈ H ∧ φ i = some j ∧ c = rlC φ c0
  | [], h => by cases h
  | (i, c0) :: r, h => by
    simp only [rlH] at h
    split at h
    · rename_i j' hj
      rcases List.mem_cons.1 h with h | h
      · cases h; exact ⟨i, c0, by simp, hj, rfl⟩
      · obtain ⟨i', c', h1, h2⟩ := rlH_mem h
        exact ⟨i', c', List.mem_cons_of_mem _ h1, h2⟩
    · obtain ⟨i', c', h1, h2⟩ := rlH_mem h
      exact ⟨i', c', List.mem_cons_of_mem _ h1, h2⟩

/-! A tree of the caller's, as the callee sees it, by a table of labels: the callee's, the caller's. -/
def Ln (m : List (Nat × Nat)) (x y : AV) : Prop := ∀ (w : World) (F : Nat → Prop) (β β1 : Nat → Value) (u : Value), (∀ i j, at? m i = some j → β1 i = β j) → Rd w F β x u → Rd w F β1 y u

inductive LnL (m : List (Nat × Nat)) : List AV → List AV → Prop where
  | nil : LnL m [] []
  | cons {x y : AV} {xs ys : List AV} (h : Ln m x y) (t : LnL m xs ys) : LnL m (x :: xs) (y :: ys)

theorem LnL.spec {m : List (Nat × Nat)} {xs ys : List AV} (h : LnL m xs ys) : xs.length = ys.length ∧ ∀ i, i < xs.length → Ln m (xs.getD i .junk) (ys.getD i .junk) := by
  induction h with
  | nil => exact ⟨rfl, fun i hi => by simp at hi⟩
  | cons h t ih =>
    refine ⟨by simp [ih.1], fun i hi => ?_⟩
    cases i with
    | zero => simpa using h
    | succ i => simpa using ih.2 i (by simpa using hi)

section
variable {m : List (Nat × Nat)}
theorem Ln.imm {x : AV} (h : imm1 x = true) : Ln m x x := fun _ _ _ _ _ _ hr => .i (imm1_rd h hr)
theorem Ln.junk {x : AV} : Ln m x .junk := fun _ _ _ _ _ _ _ => .junk
theorem Ln.nil : Ln m (.v (.slice none 0 0)) (.s []) := fun _ _ _ _ _ _ hr => by rw [hr.v_inv]; exact .i .s0
theorem Ln.z : Ln m .z (.s []) := fun _ _ _ _ _ _ hr => by obtain ⟨a, rfl⟩ := hr.z_inv; exact .i .s0
theorem Ln.b {i j off : Nat} (h : at? m i = some j) : Ln m (.b j off) (.b i off) := fun _ _ _ _ _ hβ hr => by
  obtain ⟨blk, h1, rfl⟩ := hr.b_inv; exact .b ((hβ i j h).trans h1)
theorem Ln.o {i j : Nat} (h : at? m i = some j) : Ln m (.o j) (.o i) := fun _ _ _ _ _ hβ hr => by
  obtain ⟨a, n, c, h1, rfl⟩ := hr.o_inv; exact .o ((hβ i j h).trans h1)
theorem Ln.a {xs ys : List AV} (h : LnL m xs ys) : Ln m (.a xs) (.a ys) := fun _ _ _ _ _ hβ hr => by
  obtain ⟨us, rfl, hs, h1, hu⟩ := hr.a_inv
  obtain ⟨hl, hz⟩ := h.spec
  exact .a (by omega) (fun i hi => h1 i (by omega)) fun i hi => hz i (by omega) _ _ _ _ _ hβ (hu i (by omega))
theorem Ln.t {xs ys : List AV} (h : LnL m xs ys) : Ln m (.t xs) (.t ys) := fun _ _ _ _ _ hβ hr => by
  obtain ⟨us, rfl, hs, hu⟩ := hr.t_inv
  obtain ⟨hl, hz⟩ := h.spec
  exact .t (by omega) fun i hi => hz i (by omega) _ _ _ _ _ hβ (hu i (by omega))
theorem Ln.c {fn : Fn} {fs fs' cs cs' : List AV} (h : LnL m fs fs') (h' : LnL m cs cs') : Ln m (.c fn fs cs) (.c fn fs' cs') := fun _ _ _ _ _ hβ hr => by
  obtain ⟨us, vs, rfl, hs, hs', hu, hv⟩ := hr.c_inv
  obtain ⟨hl, hz⟩ := h.spec
  obtain ⟨hl', hz'⟩ := h'.spec
  exact .c (by omega) (by omega) (fun i hi => hz i (by omega) _ _ _ _ _ hβ (hu i (by omega))) fun i hi => hz' i (by omega) _ _ _ _ _ hβ (hv i (by omega))
end

/-- A piece of memory of the caller's, as the callee sees it. -/
inductive Cn (m : List (Nat × Nat)) : Chunk → Chunk → Prop where
  | refl {c : Chunk} (h : chunkImm c = true) : Cn m c c
  | box {a b : List AV} (h : LnL m a b) : Cn m (.box a) (.box b)

theorem Cn.holds {m : List (Nat × Nat)} {c c0 : Chunk} {i j : Nat} (h : Cn m c c0) (hβ : ∀ i j, at? m i = some j → β' i = β j) (hij : at? m i = some j) (hc : c.holds w F β j) : c0.holds w F β' i := by
  cases h with
  | refl h => exact holds_imm h (fun _ h => h) (hβ i j hij) hc
  | box h =>
    obtain ⟨b, cs, e, hb, hh, hs, h1, hr⟩ := hc
    obtain ⟨hl, hz⟩ := h.spec
    exact ⟨b, cs, e, (hβ i j hij).trans hb, hh, by omega, fun q hq => h1 q (by omega), fun q hq => hz q (by omega) _ _ _ _ _ hβ (hr q (by omega))⟩

def HasN (m : List (Nat × Nat)) (H : Hp) : Hp → Prop
  | [] => True
  | (i, c0) :: r => (∃ j c, at? m i = some j ∧ findC j H = some c ∧ Cn m c c0) ∧ HasN m H r

theorem HasN.mem {m : List (Nat × Nat)} {H : Hp} : ∀ {H0 : Hp}, HasN m H H0 → ∀ i c0, (i, c0) ∈ H0 → ∃ j c, at? m i = some j ∧ (j, c) ∈ H ∧ Cn m c c0
  | [], _, _, _, h => by cases h
  | (i, c0) :: r, hh, i', c', h => by
    rcases List.mem_cons.1 h with h | h
    · cases h
      obtain ⟨j, c, h1, h2, h3⟩ := hh.1
      exact ⟨j, c, h1, findC_mem h2, h3⟩
    · exact hh.2.mem i' c' h

/-! The caller's things afterwards. -/
def erL : List (Nat × Nat) → AV → AV
  | [], x => x
  | p :: r, x => erL r (er 2 p.2 x)
def erCL : List (Nat × Nat) → Chunk → Chunk
  | [], c => c
  | p :: r, c => erCL r (erC p.2 c)
def restH (m n : List (Nat × Nat)) : Hp → Hp
  | [] => []
  | (i, c) :: r => bif (m.any fun p => Nat.beq p.2 i) || (n.any fun p => Nat.beq p.2 i) then restH m n r else (i, erCL n c) :: restH m n r

theorem erL_rd : ∀ {n : List (Nat × Nat)} {β : Nat → Value}, (∀ j, (∀ p, p ∈ n → p.2 ≠ j) → β' j = β j) → ∀ {x : AV} {u : Value}, Rd w F β x u → Rd w F β' (erL n x) u
  | [], β, hβ, x, u, h => by
    have : β' = β := funext fun j => hβ j fun p hp => by cases hp
    rw [this]; exact h
  | p :: r, β, hβ, x, u, h => by
    refine erL_rd (n := r) (x := er 2 p.2 x) (β := fun j => if j = p.2 then β' j else β j) (fun j hj => ?_) (er_rd (id := p.2) (fun i hi => if_neg hi) 2 h)
    show _ = if j = p.2 then β' j else β j
    by_cases hjp : j = p.2
    · rw [if_pos hjp]
    · rw [if_neg hjp]; exact hβ j fun q hq => by
        rcases List.mem_cons.1 hq with rfl | hq
        · exact fun e => hjp e.symm
        · exact hj q hq

theorem erCL_holds {i : Nat} : ∀ {n : List (Nat × Nat)} {β : Nat → Value}, (∀ j, (∀ p, p ∈ n → p.2 ≠ j) → β' j = β j) → (∀ p, p ∈ n → p.2 ≠ i) → ∀ {c : Chunk}, c.holds w F β i → (erCL n c).holds w F β' i
  | [], β, hβ, _, c, h => by
    have : β' = β := funext fun j => hβ j fun p hp => by cases hp
    rw [this]; exact h
  | p :: r, β, hβ, hi, c, h => by
    refine erCL_holds (n := r) (c := erC p.2 c) (β := fun j => if j = p.2 then β' j else β j) (fun j hj => ?_) (fun q hq => hi q (List.mem_cons_of_mem _ hq)) (holds_er (id := p.2) (fun e => hi p (by simp) e.symm) (fun i hi => if_neg hi) h)
    show _ = if j = p.2 then β' j else β j
    by_cases hjp : j = p.2
    · rw [if_pos hjp]
    · rw [if_neg hjp]; exact hβ j fun q hq => by
        rcases List.mem_cons.1 hq with rfl | hq
        · exact fun e => hjp e.symm
        · exact hj q hq

theorem restH_mem {m n : List (Nat × Nat)} {i : Nat} {c : Chunk} : ∀ {H : Hp}, (i, c) ∈ restH m n H → ∃ c0, (i, c0) ∈ H ∧ c = erCL n c0 ∧ (∀ p, p ∈ m → p.2 ≠ i) ∧ ∀ p, p ∈ n → p.2 ≠ i
  | [], h => by cases h
  | (k, c0) :: r, h => by
    simp only [restH] at h
    cases hb : ((m.any fun p => Nat.beq p.2 k) || (n.any fun p => Nat.beq p.2 k)) with
    | true =>
      rw [hb] at h
      obtain ⟨c1, h1, h2⟩ := restH_mem (H := r) h
      exact ⟨c1, List.mem_cons_of_mem _ h1, h2⟩
    | false =>
      rw [hb] at h
      rcases List.mem_cons.1 h with h | h
      · cases h
        simp only [Bool.or_eq_false_iff, List.any_eq_false] at hb
        refine ⟨c0, by simp, rfl, fun p hp e => ?_, fun p hp e => ?_⟩
        · exact hb.1 p hp (by rw [e]; exact Nat.beq_refl _)
        · exact hb.2 p hp (by rw [e]; exact Nat.beq_refl _)
      · obtain ⟨c1, h1, h2⟩ := restH_mem (H := r) h
        exact ⟨c1, List.mem_cons_of_mem _ h1, h2⟩

def ndB : List Nat → Bool
  | [] => true
  | x :: r => !(r.any fun y => Nat.beq y x) && ndB r
theorem ndB_nodup : ∀ {l : List Nat}, ndB l = true → l.Nodup
  | [], _ => List.nodup_nil
  | x :: r, h => by
    simp only [ndB, Bool.and_eq_true, Bool.not_eq_true', List.any_eq_false] at h
    rw [List.nodup_cons]
    exact ⟨fun hm => h.1 x hm (Nat.beq_refl _), ndB_nodup h.2⟩

/-- The tables' own check: m: labels of the callee's from 1000 on, each the caller's; n: what the callee made, each by a new label of the caller's. -/
def tabN (m n : List (Nat × Nat)) : Bool :=
  (m.all fun p => Nat.ble 1000 p.1) && (ndB (m.map (·.1)) && (ndB (m.map (·.2)) && ((n.all fun p => Nat.blt p.2 1000) && ndB (n.map (·.2)))))

/-- The caller's labels afterwards, by the callee's. -/
def qOf (m n : List (Nat × Nat)) : List (Nat × Nat) := (m.filter fun p => !(n.any fun q => Nat.beq q.2 p.2)) ++ n

theorem snd_inj {i i' j : Nat} : ∀ {m : List (Nat × Nat)}, (m.map (·.2)).Nodup → (i, j) ∈ m → (i', j) ∈ m → i = i'
  | [], _, h, _ => by cases h
  | p :: r, hm, h1, h2 => by
    simp only [List.map_cons, List.nodup_cons] at hm
    rcases List.mem_cons.1 h1 with h1 | h1 <;> rcases List.mem_cons.1 h2 with h2 | h2
    · rw [← h2] at h1; cases h1; rfl
    · exact absurd (List.mem_map.2 ⟨_, h2, by rw [← h1]⟩) hm.1
    · exact absurd (List.mem_map.2 ⟨_, h1, by rw [← h2]⟩) hm.1
    · exact snd_inj hm.2 h1 h2

theorem CallOk.gen {g : FuncId} {xs ys : List AV} {st : ASt} {H0 H1 : Hp} {r : AV} {k : AV → ASt → Prop} {m n : List (Nat × Nat)} (h : CallOk P g ys ⟨noSlots, H0⟩ fun x s => x = r ∧ s.H = H1)
    (hx : LnL m xs ys) (hH : HasN m st.H H0) (hk0 : keysOk H0 = true) (ht : tabN m n = true) (hk1 : keysOk (rlH (at? (qOf m n)) H1 ++ restH m n st.H) = true)
    (hk : k (rl (at? (qOf m n)) 3 r) ⟨fun t => erL n (st.f t), rlH (at? (qOf m n)) H1 ++ restH m n st.H⟩) : CallOk P g xs st k := by
  obtain ⟨hl, hz⟩ := hx.spec
  simp only [tabN, Bool.and_eq_true, List.all_eq_true] at ht
  obtain ⟨hm0, hm1, hm2, hn0, hn2⟩ := ht
  have hm1 := ndB_nodup hm1
  have hm2 := ndB_nodup hm2
  have hn2 := ndB_nodup hn2
  refine ⟨h.1, fun w F β vs hI hs hv => ?_⟩
  -- the callee's labels
  obtain ⟨β1, hβ1⟩ : ∃ β1 : Nat → Value, ∀ i j, at? m i = some j → β1 i = β j := by
    refine ⟨fun i => match at? m i with | some j => β j | none => undef, fun i j hij => ?_⟩
    simp only [hij]
  have hmem := fun i c0 hm => hH.mem i c0 hm
  have hown : ∀ b, Owned β1 H0 b → ∃ i c0 j c, (i, c0) ∈ H0 ∧ at? m i = some j ∧ (j, c) ∈ st.H ∧ blkOf (β j) = some b := by
    rintro b ⟨i, c0, h1, hb⟩
    obtain ⟨j, c, h2, h3, _⟩ := hmem i c0 h1
    exact ⟨i, c0, j, c, h1, h2, h3, by rw [← hβ1 i j h2]; exact hb⟩
  have hownO : ∀ b, Owned β1 H0 b → Owned β st.H b := fun b hb => by
    obtain ⟨_, _, j, c, _, _, h3, h4⟩ := hown b hb
    exact ⟨j, c, h3, h4⟩
  have hinj : ∀ i i' j, at? m i = some j → at? m i' = some j → i = i' := fun i i' j h1 h2 => snd_inj hm2 (at_mem h1) (at_mem h2)
  have hI1 : Inv w F β1 H0 := by
    refine ⟨hI.fsize, fun i c0 h1 => ?_, keysOk_nodup hk0, fun b hb => hI.apart b (hownO b hb), fun i c i' c' b h1 h2 hb hb' => ?_⟩
    · obtain ⟨j, c, h2, h3, h4⟩ := hmem i c0 h1
      exact h4.holds hβ1 h2 (hI.holds j c h3)
    · obtain ⟨j, c, h3, h4, _⟩ := hmem i c h1
      obtain ⟨j', c', h5, h6, _⟩ := hmem i' c' h2
      rw [hβ1 i j h3] at hb
      rw [hβ1 i' j' h5] at hb'
      have := hI.disj j _ j' _ b h4 h6 hb hb'
      subst this
      exact hinj i i' j h3 h5
  refine (h.2 w F β1 vs hI1 (by omega) fun i hi => hz i (by omega) w F β β1 _ hβ1 (hv i (by omega))).mono ?_
  rintro e w' ⟨v, rfl, x, s, F', β', ⟨rfl, hsH⟩, hr, he⟩
  have he : Ext w F β1 ⟨noSlots, H0⟩ w' F' β' ⟨s.f, H1⟩ := by rw [← hsH]; exact he
  -- the caller's labels afterwards
  obtain ⟨β2, hnew2, hold2⟩ : ∃ β2 : Nat → Value, (∀ i j, (i, j) ∈ n → β2 j = β' i) ∧ ∀ j, (∀ p, p ∈ n → p.2 ≠ j) → β2 j = β j := by
    refine ⟨fun j => match at? (n.map fun p => (p.2, p.1)) j with | some i => β' i | none => β j, fun i j hij => ?_, fun j hj => ?_⟩
    · have : at? (n.map fun p => (p.2, p.1)) j = some i := at_of (by rw [List.map_map]; exact hn2) (List.mem_map.2 ⟨_, hij, rfl⟩)
      simp only [this]
    · cases ha : at? (n.map fun p => (p.2, p.1)) j with
      | none => simp only [ha]
      | some i =>
        obtain ⟨p, hp, e⟩ := List.mem_map.1 (at_mem ha)
        cases e
        exact absurd rfl (hj p hp)
  have hq : ∀ i j, at? (qOf m n) i = some j → β2 j = β' i := fun i j hij => by
    have hij := at_mem hij
    simp only [qOf, List.mem_append, List.mem_filter, Bool.not_eq_true', List.any_eq_false] at hij
    rcases hij with ⟨h1, h2⟩ | h1
    · have h3 : 1000 ≤ i := by simpa using hm0 _ h1
      rw [he.lab i h3, hβ1 i j (at_of hm1 h1)]
      exact hold2 j fun p hp e => h2 p hp (by rw [e]; exact Nat.beq_refl _)
    · exact hnew2 i j h1
  have hblk : ∀ b, b < w.heap.size → (∀ i c0 j c, (i, c0) ∈ H0 → at? m i = some j → (j, c) ∈ st.H → blkOf (β j) ≠ some b) → w'.heap[b]? = w.heap[b]? := fun b hb hno => he.block b hb fun ho => by
    obtain ⟨i, c0, j, c, h1, h2, h3, h4⟩ := hown b ho
    exact hno i c0 j c h1 h2 h3 h4
  have hF : Agree F w w' := fun b hb => hblk b (hI.fsize b hb) fun i c0 j c _ _ h3 h4 => hI.apart b ⟨j, c, h3, h4⟩ hb
  -- what is not handed on
  have hrest : ∀ j c, (j, c) ∈ restH m n st.H → ∃ c0, (j, c0) ∈ st.H ∧ c = erCL n c0 ∧ (∀ i, at? m i ≠ some j) ∧ β2 j = β j ∧ ∀ p, p ∈ n → p.2 ≠ j := fun j c hc => by
    obtain ⟨c0, h1, h2, h3, h4⟩ := restH_mem hc
    exact ⟨c0, h1, h2, fun i hi => h3 _ (at_mem hi) rfl, hold2 j h4, h4⟩
  have hown1 : ∀ b, Owned β' H1 b → w.heap.size ≤ b ∨ Owned β1 H0 b := fun b hb => he.owned b hb
  have hown2 : ∀ b, Owned β2 (rlH (at? (qOf m n)) H1 ++ restH m n st.H) b → Owned β' H1 b ∨ ∃ j c0, (j, c0) ∈ st.H ∧ (∀ i, at? m i ≠ some j) ∧ blkOf (β j) = some b := by
    rintro b ⟨j, c, hc, hb⟩
    rcases List.mem_append.1 hc with hc | hc
    · obtain ⟨i, c0, h1, h2, _⟩ := rlH_mem hc
      exact .inl ⟨i, c0, h1, by rw [← hq i j h2]; exact hb⟩
    · obtain ⟨c0, h1, _, h2, h3, _⟩ := hrest j c hc
      exact .inr ⟨j, c0, h1, h2, by rw [← h3]; exact hb⟩
  refine ⟨v, rfl, rl (at? (qOf m n)) 3 x, _, F', β2, hk, rl_rd hq 3 hr, ?_⟩
  refine ⟨he.os, he.tape, he.output, he.size, fun b hb hno => he.block b hb fun ho => hno (hownO b ho), he.mono, fun b hb => (he.new b hb).imp id fun h => h.imp id (hownO b), fun b hb => ?_, fun t u hu => ?_, ?_, fun i hi => hold2 i fun p hp e => ?_⟩
  · rcases hown2 b hb with h1 | ⟨j, c0, h1, _, h2⟩
    · exact (hown1 b h1).imp id (hownO b)
    · exact .inr ⟨j, c0, h1, h2⟩
  · exact erL_rd hold2 (hu.frame hF he.mono)
  · refine ⟨he.inv.fsize, fun j c hc => ?_, keysOk_nodup hk1, fun b hb hFb => ?_, fun j c j' c' b hc hc' hb hb' => ?_⟩
    · rcases List.mem_append.1 hc with hc | hc
      · obtain ⟨i, c0, h1, h2, rfl⟩ := rlH_mem hc
        exact rlC_holds hq h2 (he.inv.holds i c0 h1)
      · obtain ⟨c0, h1, rfl, h2, h3, h4⟩ := hrest j c hc
        exact erCL_holds hold2 h4 (holds_frame hF he.mono (fun b hb => hblk b (hI.owned_lt ⟨j, c0, h1, hb⟩) fun i c0' j' c' h5 h6 h7 h8 => by
          have := hI.disj j _ j' _ b h1 h7 hb h8
          subst this
          exact h2 i h6) (hI.holds j c0 h1))
    · rcases hown2 b hb with h1 | ⟨j, c0, h1, h2, h3⟩
      · exact he.inv.apart b h1 hFb
      · rcases he.new b hFb with h4 | h4 | h4
        · exact hI.apart b ⟨j, c0, h1, h3⟩ h4
        · exact absurd (hI.owned_lt ⟨j, c0, h1, h3⟩) (Nat.not_lt.2 h4)
        · obtain ⟨i, _, j', c', _, h6, h7, h8⟩ := hown b h4
          have := hI.disj j _ j' _ b h1 h7 h3 h8
          subst this
          exact h2 i h6
    · have cross : ∀ i c0 j c1, (i, c0) ∈ H1 → blkOf (β' i) = some b → (j, c1) ∈ st.H → (∀ i, at? m i ≠ some j) → blkOf (β j) = some b → False := fun i c0 j c1 h1 h2 h3 h4 h5 => by
        rcases hown1 b ⟨i, c0, h1, h2⟩ with h6 | h6
        · exact absurd (hI.owned_lt ⟨j, c1, h3, h5⟩) (Nat.not_lt.2 h6)
        · obtain ⟨i', _, j', c', _, h7, h8, h9⟩ := hown b h6
          have := hI.disj j _ j' _ b h3 h8 h5 h9
          subst this
          exact h4 i' h7
      rcases List.mem_append.1 hc with hc | hc <;> rcases List.mem_append.1 hc' with hc' | hc'
      · obtain ⟨i, c0, h1, h2, _⟩ := rlH_mem hc
        obtain ⟨i', c0', h1', h2', _⟩ := rlH_mem hc'
        rw [hq i j h2] at hb
        rw [hq i' j' h2'] at hb'
        have := he.inv.disj i _ i' _ b h1 h1' hb hb'
        subst this
        rw [h2] at h2'; exact Option.some.inj h2'
      · obtain ⟨i, c0, h1, h2, _⟩ := rlH_mem hc
        obtain ⟨c1, h3, _, h4, h5, _⟩ := hrest j' c' hc'
        rw [hq i j h2] at hb
        rw [h5] at hb'
        exact (cross i c0 j' c1 h1 hb h3 h4 hb').elim
      · obtain ⟨i, c0, h1, h2, _⟩ := rlH_mem hc'
        obtain ⟨c1, h3, _, h4, h5, _⟩ := hrest j c hc
        rw [hq i j' h2] at hb'
        rw [h5] at hb
        exact (cross i c0 j c1 h1 hb' h3 h4 hb).elim
      · obtain ⟨c1, h3, _, h4, h5, _⟩ := hrest j c hc
        obtain ⟨c1', h3', _, h4', h5', _⟩ := hrest j' c' hc'
        rw [h5] at hb
        rw [h5'] at hb'
        exact hI.disj j _ j' _ b h3 h3' hb hb'
  · have : p.2 < 1000 := by simpa [Nat.blt_eq] using hn0 p hp
    omega

/-! A body's contract, with whatever it is handed and leaves. -/
theorem pgen_of_ok {g n : Nat} {fn : Func} {c : Code} {args : List AV} {H0 H1 : Hp} {r : AV} (hT : TOk P T) (hfn : P.funcs[g]? = some fn) (hnm : (fn.name == "runtime.NumGoroutine") = false) (hb : fn.body = some c) (hn : fn.ntmps = n) (hle : args.length ≤ n)
    (h : Ok P n c ⟨initf args, H0⟩ (fpost T fn.results.toList fun x s => Wk ⟨upd noSlots 0 x, s.H⟩ ⟨Cat.tab [(0, r)], H1⟩)) : CallOk P g args ⟨noSlots, H0⟩ fun x s => x = r ∧ s.H = H1 := by
  refine ⟨⟨fn, c, hfn, hnm, hb⟩, fun w F β vs hI hs hv => ?_⟩
  refine (calls_of_ok hT hfn hb hn hle h hI hs hv).mono ?_
  rintro e w' ⟨v, rfl, x, st, F', β', hW, hx, he⟩
  obtain ⟨F2, β2, _, _, hf, h2⟩ := hW ⟨w, F, β, H0, 1⟩ { tmps := #[v], defers := [] } w' ⟨F', β', rfl, rfl, fun t => by
    show Rd w' F' β' (bif Nat.beq t 0 then x else noSlots t) _
    cases t with
    | zero => exact hx
    | succ t => exact .junk, he⟩
  exact ⟨v, rfl, r, ⟨noSlots, H1⟩, F2, β2, ⟨rfl, rfl⟩, hf 0, h2⟩

/-! Labels moved; slices of nothing in boxes. -/
/-- Label d names from now on what i named. -/
def mvF (i d : Nat) : Nat → Option Nat := fun x => bif Nat.beq x i then some d else bif Nat.beq x d then none else some x

theorem Wk.mv {st : ASt} {i d : Nat} (hd : Nat.blt d 1000 = true) (hne : Nat.beq d i = false) (hk : keysOk (rlH (mvF i d) st.H) = true) : Wk st ⟨fun t => rl (mvF i d) 2 (st.f t), rlH (mvF i d) st.H⟩ := fun C a w hr => by
  obtain ⟨F, β, hs, hdf, hf, he⟩ := hr
  have hd : d < 1000 := by simpa [Nat.blt_eq] using hd
  have hne : d ≠ i := fun e => by rw [e, Nat.beq_refl] at hne; cases hne
  let β' : Nat → Value := fun x => if x = d then β i else β x
  have hβ : ∀ x y, mvF i d x = some y → β' y = β x := fun x y h => by
    unfold mvF at h
    cases h1 : Nat.beq x i with
    | true => rw [h1] at h; cases h; rw [Nat.eq_of_beq_eq_true h1]; exact if_pos rfl
    | false =>
      rw [h1] at h
      cases h2 : Nat.beq x d with
      | true => rw [h2] at h; cases h
      | false =>
        rw [h2] at h; cases h
        exact if_neg fun e => by rw [e, Nat.beq_refl] at h2; cases h2
  have hinj : ∀ x x' y, mvF i d x = some y → mvF i d x' = some y → x = x' := fun x x' y h h' => by
    unfold mvF at h h'
    cases h1 : Nat.beq x i <;> cases h1' : Nat.beq x' i <;> rw [h1] at h <;> rw [h1'] at h' <;> simp only [cond_true, cond_false] at h h'
    · cases h2 : Nat.beq x d <;> cases h2' : Nat.beq x' d <;> rw [h2] at h <;> rw [h2'] at h' <;> simp_all
    · cases h2 : Nat.beq x d <;> rw [h2] at h <;> simp_all
    · cases h2' : Nat.beq x' d <;> rw [h2'] at h' <;> simp_all
    · rw [Nat.eq_of_beq_eq_true h1, Nat.eq_of_beq_eq_true h1']
  have hown : ∀ b, Owned β' (rlH (mvF i d) st.H) b → Owned β st.H b := by
    rintro b ⟨j, c, hc, hb⟩
    obtain ⟨x, c0, h1, h2, _⟩ := rlH_mem hc
    exact ⟨x, c0, h1, by rw [← hβ x j h2]; exact hb⟩
  refine ⟨F, β', hs, hdf, fun t => rl_rd hβ 2 (hf t), he.os, he.tape, he.output, he.size, he.block, he.mono, he.new, fun b hb => he.owned b (hown b hb), fun _ _ _ => .junk, ?_, fun x hx => ?_⟩
  · refine ⟨he.inv.fsize, fun j c hc => ?_, keysOk_nodup hk, fun b hb => he.inv.apart b (hown b hb), fun j c j' c' b hc hc' hb hb' => ?_⟩
    · obtain ⟨x, c0, h1, h2, rfl⟩ := rlH_mem hc
      exact rlC_holds hβ h2 (he.inv.holds x c0 h1)
    · obtain ⟨x, c0, h1, h2, _⟩ := rlH_mem hc
      obtain ⟨x', c0', h1', h2', _⟩ := rlH_mem hc'
      rw [hβ x j h2] at hb
      rw [hβ x' j' h2'] at hb'
      have := he.inv.disj x _ x' _ b h1 h1' hb hb'
      subst this
      rw [h2] at h2'; exact Option.some.inj h2'
  · rw [← he.lab x hx]
    exact if_neg (by omega)

end
end Go.Cat

/- The library's sort of numbers, as a call that changes one slice of the caller's own. No condition. -/
set_option linter.all false
namespace Go.Cat
open Go.RowKit Go.Sort Go.Proofs Go.Shelf
section
variable {P : Program}

def SortISays (P : Program) (f : Nat) : Prop :=
  (∀ (p : Option Addr) (cap : Nat) (w : World), Calls P f #[.slice p 0 cap] w fun e w' => e = .returned (.tuple #[]) ∧ w' = w) ∧
  ∀ (blk off cap : Nat) (zs : List Int) (w : World), Holds (Value.int .i64) w blk off zs.toArray → blk < w.heap.size → zs.length < 4611686018427387904 →
    Calls P f #[.slice (some ⟨blk, off, none⟩) zs.length cap] w fun e w' => e = .returned (.tuple #[]) ∧ ∃ n os, w' = grow (putRow (Value.int .i64) (Sort.ahead w n) blk off (zs.mergeSort fun x y => decide (x ≤ y)).toArray) os

theorem sortISays_of {ρ : Ren} (L : SlLaysM.n5 P ρ) : SortISays P (ρ.f 5) :=
  ⟨fun p cap w => AnyM.slices_Sort_int_none L p cap w, fun blk off cap zs w h1 h2 h3 => AnyM.slices_Sort_int L blk off cap zs w h1 h2 h3⟩

end
variable [M : Mono]
section
variable {P : Program}
theorem arr1 {vs : Array Value} (h : vs.size = 1) : vs = #[vs.getD 0 undef] := by
  apply Array.ext
  · simp [h]
  · intro i h1 h2
    have : i = 0 := by simp at h2; omega
    subst this; simp [h]

end
end Go.Cat

/- Numbers put in order, by a program that may be reckoned through. No condition. -/
set_option linter.all false
namespace Go.Cat
def insI (x : Int) : List Int → List Int
  | [] => [x]
  | y :: r => if x ≤ y then x :: y :: r else y :: insI x r
def sortJ (l : List Int) : List Int := l.foldr insI []
def keysJ {α : Type} (l : List (Int × α)) : List Int := sortJ (l.map (·.1))
end Go.Cat

/- The library's sort of what an iterator over a slice gives: against an iterator that reads memory which the rounds leave alone. No condition. -/
set_option linter.all false
namespace Go.CatSeq
open Go Go.RowKit Go.Proofs Go.Shelf Go.Maps Go.Sort

set_option maxRecDepth 100000 in
set_option maxHeartbeats 2000000 in
theorem appendStops_in {P : Program} {ρ : Ren} (L : SlLaysZI.n11 P ρ) (F : Fence) (n : Nat) (h11 : F.fn (ρ.f 11)) (hro : F.round = none) (hn : 2 ≤ n) (g : Nat) (lb : Array Value) (hFg : F.fn g) (eg : ∀ args w, (callFunc g args).run P w = .ok (.enter g args) w)
    (zs : List Int) (hN : zs.length ≤ maxLen) (hNb : zs.length * 8 ≤ 140737488355328) (w : World) {Sp : List Int → Prop} (hseq : SeqStopsK F (n - 1) P g lb (fun x : Int => #[encZ x]) (Below w.heap.size) (fun ys => ys = zs) Sp zs.length w) :
    CallsIn F n P (ρ.f 11) #[.slice none 0 0, .func (.func g) #[] lb] w fun e w' => ∃ v : Value, e = .returned v ∧ w'.ownsRow w.heap.size (ρ.t 26) 1 v zs.length (zs.map encZ) ∧ Below w.heap.size w w' := by
  have h1 : 1 ≤ n := by omega
  have mixed := L.mixed; have t0 := L.t0; have a0 := L.a0; have z0 := L.z0; have v0 := L.v0; have t24 := L.t24; have a24 := L.a24; have z24 := L.z24; have v24 := L.v24; have t26 := L.t26; have a26 := L.a26; have z26 := L.z26; have v26 := L.v26; have t28 := L.t28; have a28 := L.a28; have z28 := L.z28; have v28 := L.v28
  have hne : ρ.t 24 ≠ ρ.t 26 := fun e => by have h := L.t24; rw [e, L.t26] at h; cases h
  have u0 := run_underlying L.t0; have u24 := run_underlying L.t24; have u26 := run_underlying L.t26; have u28 := run_underlying L.t28
  obtain ⟨i0, hi, hz0, hz1, hz2⟩ := info_parts L.i26
  obtain ⟨_, _, FG⟩ := L.f11
  refine callsIn_of_wp_marks FG rfl h11 ?_ hro
  simp only [SlBodyZ.n11_ntmps ρ, List.size_toArray, List.length_cons, List.length_nil, Nat.reduceAdd, Nat.reduceSub, Array.replicate_succ, Array.replicate_zero, List.push_toArray, List.append_toArray, List.nil_append, List.cons_append]
  gi_wp2
  have bB := Boxed.new w (ρ.t 24) (.slice none 0 0)
  have hB0 : Below w.heap.size w (w.alloc (.cells #[.slice none 0 0] (ρ.t 24))) := (Below.refl _ w).alloc (Nat.le_refl _) _
  refine wpIn_rangeFunc_ownG hro h1 (gf := g) (lb := lb) rfl hFg eg hseq belowK_t (belowK_b (by simp)) hB0 (fun _ => rfl)
    (fun ss W => (∃ v, Boxed W w.heap.size (ρ.t 24) v ∧ W.ownsRow w.heap.size (ρ.t 26) 1 v ss.length (ss.map encZ) ∧ True) ∧ Below w.heap.size w W)
    (fun _ _ _ => False)
    (OwnFrom.and ((holdsRow_own w.heap.size w.heap.size (ρ.t 24) (ρ.t 26) 1 List.length (fun ss => ss.map encZ) (fun _ _ => True)).from _) (ownFrom_below (Nat.le_refl _) (by simp)))
    (fun _ _ _ _ _ hs _ _ => hs)
    ⟨⟨_, bB, ⟨rfl, .inl ⟨rfl, rfl⟩⟩, trivial⟩, hB0⟩
    (fun x => { tmps := #[.slice none 0 0, .func (.func g) #[] lb, .pointer (some ⟨w.heap.size, 0, none⟩), undef, .slice none 0 0, encZ x, .func (.func g) #[] lb, encZ x, undef, undef, undef, undef, undef], defers := [] }) ?assign ?body ?done ?stop
  case assign =>
    intro l x W K hK
    gi_wp2_with gi_round_op_a
    exact hK
  case body =>
    rintro l pre x W ⟨⟨v, hv, hrow, -⟩, hB⟩ hlt
    have hc := hv.cell
    have hf := hv.frozen
    have hsz := hB.size
    gi_wp2_with (first
      | (gi_at_builtin; refine wpListIn_append_own _ rfl _ _ (ρ.t 24) rfl w.heap.size (ρ.t 26) i0 (.int .i64 0) 1 8 L.t24 hi hz0 hz1 hz2 rfl (by decide) _ _ _ rfl (hrow.alloc _) ⟨W.heap.size, 0, none⟩ 1 1 [encZ x] rfl rfl (cell_one_new _ _ _) (by simp [Value.oneCell', encZ]) (by omega) (by omega) (by simp; omega) ?_; intro v' w3 hown' hg3 hnil3
         obtain ⟨g', cap', rfl⟩ := ownsRow_succ hown'
         obtain ⟨b1, b2, b3, b4, b5⟩ := hv.appended hne hrow hsz (Nat.le_refl _) hown' hg3
         have hc3 := b1.cell
         have hf3 := b1.frozen
         go_frame)
      | gi_round_op_a)
    exact ⟨b4.from _, b5, ⟨⟨_, b2, by simpa using b3, trivial⟩, hB.trans b5⟩⟩
  case done =>
    rintro D ys W hD rfl ⟨⟨v, hv, hrow, -⟩, hB⟩ hK
    have hc := hv.cell
    have hf := hv.frozen
    gi_wp2
    refine ⟨by simp, .inl ⟨_, _, rfl, run_takeDeferred hK, ?_⟩⟩
    exact ⟨_, results_tmp rfl _ _ _, v, rfl, ownsRow_putObj hrow _ hK rfl, hB.trans (belowK_b (w := w) (Nat.le_refl _) W D _ _ (by simp at hD; omega) hK rfl rfl)⟩
  case stop =>
    rintro D c pre W _ _ h _
    exact h.elim

set_option maxHeartbeats 1000000 in
theorem collectStops_in {P : Program} {ρ : Ren} (L : SlLaysZI.n8 P ρ) (F : Fence) (n : Nat) (h8 : F.fn (ρ.f 8)) (h11 : F.fn (ρ.f 11)) (hro : F.round = none) (hn : 3 ≤ n) (g : Nat) (lb : Array Value) (hFg : F.fn g) (eg : ∀ args w, (callFunc g args).run P w = .ok (.enter g args) w)
    (zs : List Int) (hN : zs.length ≤ maxLen) (hNb : zs.length * 8 ≤ 140737488355328) (w : World) {Sp : List Int → Prop} (hseq : SeqStopsK F (n - 1 - 1) P g lb (fun x : Int => #[encZ x]) (Below w.heap.size) (fun ys => ys = zs) Sp zs.length w) :
    CallsIn F n P (ρ.f 8) #[.func (.func g) #[] lb] w fun e w' => ∃ v : Value, e = .returned v ∧ w'.ownsRow w.heap.size (ρ.t 26) 1 v zs.length (zs.map encZ) ∧ Below w.heap.size w w' := by
  have h1 : 1 ≤ n := by omega
  have e11 : ∀ args w, (callFunc (ρ.f 11) args).run P w = .ok (.enter (ρ.f 11) args) w := L.f11.enters rfl
  have mixed := L.mixed; have t0 := L.t0; have a0 := L.a0; have z0 := L.z0; have v0 := L.v0; have t24 := L.t24; have a24 := L.a24; have z24 := L.z24; have v24 := L.v24; have t26 := L.t26; have a26 := L.a26; have z26 := L.z26; have v26 := L.v26; have t28 := L.t28; have a28 := L.a28; have z28 := L.z28; have v28 := L.v28
  have u0 := run_underlying L.t0; have u24 := run_underlying L.t24; have u26 := run_underlying L.t26; have u28 := run_underlying L.t28
  obtain ⟨_, _, FG⟩ := L.f8
  refine callsIn_of_wp FG rfl h8 ?_ hro
  simp only [SlBodyZ.n8_ntmps ρ, List.size_toArray, List.length_cons, List.length_nil, Nat.reduceAdd, Nat.reduceSub, Array.replicate_succ, Array.replicate_zero, List.push_toArray, List.append_toArray, List.nil_append, List.cons_append]
  gi_wp2_with (gi_at_fn (ρ.f 11); refine (appendStops_in { L with } F (n - 1) h11 hro (by omega) g lb hFg eg zs hN hNb _ hseq).mono ?_; rintro e w' ⟨v, rfl, hrow, hb⟩)
  go_ret
  exact ⟨v, rfl, hrow, hb⟩

set_option maxRecDepth 100000 in
set_option maxHeartbeats 2000000 in
theorem sortedStops_in {P : Program} {ρ : Ren} (L : SlLaysZI.n6 P ρ) (F : Fence) (n : Nat) (h6 : F.fn (ρ.f 6)) (h8 : F.fn (ρ.f 8)) (h9 : F.fn (ρ.f 9)) (h11 : F.fn (ρ.f 11)) (hro : F.round = none) (hn : 4 ≤ n) (hsort : AnyZI.SortsIn P ρ F (n - 1)) (e9 : ∀ args w, (callFunc (ρ.f 9) args).run P w = .ok (.enter (ρ.f 9) args) w)
    (g : Nat) (lb : Array Value) (hFg : F.fn g) (eg : ∀ args w, (callFunc g args).run P w = .ok (.enter g args) w)
    (zs : List Int) (hN : zs.length ≤ maxLen) (hNb : zs.length * 8 ≤ 140737488355328) (w : World) {Sp : List Int → Prop} (hseq : SeqStopsK F (n - 1 - 1 - 1) P g lb (fun x : Int => #[encZ x]) (Below w.heap.size) (fun ys => ys = zs) Sp zs.length w) :
    CallsIn F n P (ρ.f 6) #[.func (.func g) #[] lb] w fun e w' => ∃ v : Value, e = .returned v ∧
      w'.ownsRow w.heap.size (ρ.t 26) 1 v zs.length ((zs.mergeSort (fun x y => decide (x ≤ y))).map encZ) ∧ Below w.heap.size w w' := by
  have h1 : 1 ≤ n := by omega
  have e8 : ∀ args w, (callFunc (ρ.f 8) args).run P w = .ok (.enter (ρ.f 8) args) w := L.f8.enters rfl
  have mixed := L.mixed; have t0 := L.t0; have a0 := L.a0; have z0 := L.z0; have v0 := L.v0; have t24 := L.t24; have a24 := L.a24; have z24 := L.z24; have v24 := L.v24; have t26 := L.t26; have a26 := L.a26; have z26 := L.z26; have v26 := L.v26; have t28 := L.t28; have a28 := L.a28; have z28 := L.z28; have v28 := L.v28
  have u0 := run_underlying L.t0; have u24 := run_underlying L.t24; have u26 := run_underlying L.t26; have u28 := run_underlying L.t28
  obtain ⟨_, _, FG⟩ := L.f6
  refine callsIn_of_wp FG rfl h6 ?_ hro
  simp only [SlBodyZ.n6_ntmps ρ, List.size_toArray, List.length_cons, List.length_nil, Nat.reduceAdd, Nat.reduceSub, Array.replicate_succ, Array.replicate_zero, List.push_toArray, List.append_toArray, List.nil_append, List.cons_append]
  gi_wp2_with (gi_at_fn (ρ.f 8); refine (collectStops_in { L with } F (n - 1) h8 h11 hro (by omega) g lb hFg eg zs hN hNb _ hseq).mono ?_; rintro e W ⟨v, rfl, hrow, hb⟩)
  rcases hrow.2 with ⟨rfl, hz⟩ | ⟨gb, cap, cur, rfl, hbase, hgb, r1, r2, r3, r4⟩
  · obtain rfl : zs = [] := List.eq_nil_of_length_eq_zero hz
    gi_wp2_with (gi_at_fn (ρ.f 9); refine (hsort.2 none 0 W).mono ?_; rintro e w' ⟨rfl, rfl⟩)
    go_ret
    exact ⟨.slice none 0 0, rfl, by simpa using hrow, hb⟩
  · have hH : Holds encZ W gb 0 zs.toArray := holds_of_block_i hgb (by simpa using r4)
    have hgl : gb < W.heap.size := (Array.getElem?_eq_some_iff.1 hgb).1
    have cS := hsort.1 gb 0 cap zs W hH hgl (by omega)
    gi_wp2_with (gi_at_fn (ρ.f 9); refine cS.mono ?_; rintro e w' ⟨rfl, nn, os, rfl⟩)
    go_ret
    exact ⟨_, rfl, ownsRow_sorted_i (by simp) hbase hgb r1 r2 r3, hb.grown (grownBy_sorted_i _) hb.size (fun j hj => by cases hj; exact hbase)⟩
end Go.CatSeq

namespace Go.Cat
open Go.RowKit Go.Proofs Go.Shelf Go.Maps Go.Sort
/-- A slice value holds these numbers. -/
def IntsIn (w : World) (sv : Value) (zs : List Int) : Prop :=
  (∃ a c, sv = .slice a 0 c ∧ zs = []) ∨ ∃ b off cap, sv = .slice (some ⟨b, off, none⟩) zs.length cap ∧ b < w.heap.size ∧ ∀ j, j < zs.length → w.cell? ⟨b, off + j, none⟩ = some (.int .i64 (zs[j]?.getD 0))
/-- What the library's iterator over a slice of numbers gives: all of them, in order, to rounds that leave memory alone. -/
def ValsStops (P : Program) (k1 : Nat) : Prop := ∀ (Bs : Nat) (sv : Value) (zs : List Int) (w : World), zs.length * 8 ≤ 140737488351232 → Bs < w.heap.size → w.cell? ⟨Bs, 0, none⟩ = some sv → IntsIn w sv zs →
  SeqStopsK Fence.wide 2 P k1 #[.pointer (some ⟨Bs, 0, none⟩)] (fun x : Int => #[encZ x]) (Go.RowKit.Below w.heap.size) (fun ys => ys = zs) (fun pre => pre <+: zs) zs.length w
/-- What the library says of its sort of what that iterator gives. -/
def SortedVals (P : Program) (g k1 E : Nat) : Prop := ∀ (w : World) (Bm : Nat) (sv : Value) (zs : List Int), w.cell? ⟨Bm, 0, none⟩ = some sv → Bm < w.heap.size → IntsIn w sv zs → zs.length * 8 ≤ 140737488351232 →
  Calls P g #[.func (.func k1) #[] #[.pointer (some ⟨Bm, 0, none⟩)]] w fun e w' => ∃ v, e = .returned v ∧
    w'.ownsRow w.heap.size E 1 v zs.length ((zs.mergeSort fun x y => decide (x ≤ y)).map (Value.int .i64)) ∧ Go.RowKit.Below w.heap.size w w'
theorem sortedVals_of {P : Program} {ρs : Ren} {k1 : Nat} (Ls : SlLaysZI.n6 P ρs) (hsort : AnyZI.SortsIn P ρs Fence.wide 4)
    (e9 : ∀ args w, (callFunc (ρs.f 9) args).run P w = .ok (.enter (ρs.f 9) args) w) (eg : ∀ args w, (callFunc k1 args).run P w = .ok (.enter k1 args) w) (hv : ValsStops P k1) : SortedVals P (ρs.f 6) k1 (ρs.t 26) := fun w Bm sv zs hc hB hI h8 => by
  have hm : maxLen = 2 ^ 63 - 1 := rfl
  exact callsIn_wide.1 (CatSeq.sortedStops_in Ls Fence.wide 5 trivial trivial trivial trivial rfl (by omega) hsort e9 k1 #[.pointer (some ⟨Bm, 0, none⟩)] trivial eg zs (by omega) (by omega) w (hv Bm sv zs w h8 hB hc hI))

variable [M : Mono] {P : Program}
theorem intsIn_of {w : World} {F : Nat → Prop} {rows : List Int} {u : Value} (h : RdI w F (.s (rows.map encI)) u) : IntsIn w u rows := by
  generalize hr : rows.map encI = r at h
  cases h with
  | s0 => exact .inl ⟨_, _, rfl, List.map_eq_nil_iff.1 hr⟩
  | s hb hc hm hk hcell hone hrd =>
    rename_i b off c k v
    have hl : r.length = rows.length := by rw [← hr, List.length_map]
    rcases Nat.eq_zero_or_pos rows.length with h0 | h0
    · have : rows = [] := List.length_eq_zero_iff.1 h0
      subst this
      simp at hr; subst hr
      exact .inl ⟨_, _, rfl, rfl⟩
    · have h1 : ∀ i, i < rows.length → r.getD i [] = encI (rows[i]?.getD 0) := fun i hi => by
        rw [← hr, List.getD_eq_getElem?_getD, List.getElem?_map, List.getElem?_eq_getElem hi]; rfl
      have hk1 : k = 1 := by have := hk 0 (by omega); rw [h1 0 h0] at this; exact this.symm
      subst hk1
      have hx : ∀ i, i < rows.length → w.cell? ⟨b, off + i, none⟩ = some (.int .i64 (rows[i]?.getD 0)) := fun i hi => by
        have e := hcell i 0 (by omega) (by omega)
        have hd := hrd i 0 (by omega) (by omega)
        rw [h1 i hi] at hd
        have : v i 0 = .int .i64 (rows[i]?.getD 0) := by
          generalize v i 0 = q at hd
          cases hd
          rfl
        rw [this] at e
        simpa using e
      refine .inr ⟨b, off, c, by rw [hl], ?_, hx⟩
      have := hx 0 h0
      exact Classical.byContradiction fun hn => by
        simp [World.cell?, Array.getElem?_eq_none (Nat.le_of_not_lt hn)] at this

/-- Numbers of a slice, rising. -/
theorem CallOk.sortedVals [Off] {g k1 E D D2 : Nat} {rows xs : List Int} {st : ASt} {k : AV → ASt → Prop} (hS : SortedVals P g k1 E) (hE : Entered P g) (hb : findC D st.H = some (.box [.s (rows.map encI)]))
    (h8 : rows.length * 8 ≤ 140737488351232) (hx : rows.mergeSort (fun x y => decide (x ≤ y)) = xs) (hD : Nat.blt D2 1000 = true) (hk : k (.o D2) (bindSt st D2 (.own E 1 (xs.map encI)))) : CallOk P g [.c (.func k1) [] [.b D 0]] st k := by
  refine ⟨hE, fun w F β vs hI hs hv => ?_⟩
  obtain ⟨us, ws, hv0, hus, hws, _, hw⟩ := Rd.c_inv (fn := .func k1) (fs := []) (cs := [.b D 0]) (hv 0 (by simp))
  have hus0 : us = #[] := Array.eq_empty_of_size_eq_zero (by simpa using hus)
  subst hus0
  obtain ⟨blk, hβ, hw0⟩ := Rd.b_inv (hw 0 (by simp))
  have hws1 : ws = #[.pointer (some ⟨blk, 0, none⟩)] := by
    apply Array.ext
    · simpa using hws
    · intro i h1 h2
      have h2 : i < 1 := h2
      have : i = 0 := by omega
      subst this
      simpa [Array.getD, h1] using hw0
  subst hws1
  have hvs : vs = #[.func (.func k1) #[] #[.pointer (some ⟨blk, 0, none⟩)]] := by
    apply Array.ext
    · simpa using hs
    · intro i h1 h2
      have h2 : i < 1 := h2
      have : i = 0 := by omega
      subst this
      simpa [Array.getD, h1] using hv0
  subst hvs
  obtain ⟨blk', cs, T, hβ', hh, hcs, _, hr⟩ := hI.holds D _ (findC_mem hb)
  rw [hβ] at hβ'; cases hβ'
  have hr0 : Rd w F β (.s (rows.map encI)) (cs.getD 0 undef) := hr 0 (by simp)
  have hints := intsIn_of hr0.s_inv
  have hcell : w.cell? ⟨blk, 0, none⟩ = some (cs.getD 0 undef) := by
    rw [cell_of_row w blk _ cs T (0, 0) hh]
    have h0 : 0 < cs.size := by rw [hcs]; simp
    simp [Array.getD, h0]
  have hbl : blk < w.heap.size := blk_lt_of_heap hh
  refine (hS w blk _ rows hcell hbl hints h8).mono ?_
  rintro e w' ⟨v, rfl, hrow, hbelow⟩
  rw [hx] at hrow
  have hb2 : Below w.heap.size w w' := ⟨hbelow.os, ⟨hbelow.tape, fun m => (Off.off m).elim⟩, hbelow.output, hbelow.size, hbelow.block⟩
  obtain ⟨hlen, hrow⟩ := hrow
  have hxl : xs.length = rows.length := by simpa using hlen
  have hholds : Chunk.holds w' F (fun _ => v) 0 (.own E 1 (xs.map encI)) ∧ (∃ a n c, v = .slice a n c) ∧ ∀ b, blkOf v = some b → w.heap.size ≤ b := by
    rcases hrow with ⟨rfl, h0⟩ | ⟨g', cap, cur, rfl, hbase, hg, hn, hmx', hcur, htake⟩
    · refine ⟨.inl ⟨?_, none, rfl⟩, ⟨_, _, _, rfl⟩, fun b hb' => by simp [blkOf] at hb'⟩
      rw [List.length_eq_zero_iff.1 (show xs.length = 0 by omega)]; rfl
    · refine ⟨?_, ⟨_, _, _, rfl⟩, fun b hb' => ?_⟩
      · rcases Nat.eq_zero_or_pos cap with h0 | h0
        · refine .inl ⟨?_, some ⟨g', 0, none⟩, ?_⟩
          · rw [List.length_eq_zero_iff.1 (show xs.length = 0 by omega)]; rfl
          · subst h0
            have : rows.length = 0 := by omega
            rw [this]
        · refine .inr ⟨g', cap, cur, by simp only [List.length_map]; rw [hxl], h0, hg, by simp only [List.length_map]; omega, hmx', by simpa using hcur, fun i hi => ?_, fun i j hi hj => ?_⟩
          · have hi : i < xs.length := by simpa using hi
            simp [List.getD, hi, encI]
          · have hi : i < xs.length := by simpa using hi
            have hj0 : j = 0 := by omega
            subst hj0
            have hci : cur[i]? = some (.int .i64 xs[i]) := by
              have : (cur.toList.take (rows.length * 1))[i]? = some (.int .i64 xs[i]) := by rw [htake, List.getElem?_map]; simp [hi]
              rw [List.getElem?_take, if_pos (by omega)] at this
              simpa using this
            have e1 : cur.getD (i * 1 + 0) undef = .int .i64 xs[i] := by
              rw [Nat.mul_one, Nat.add_zero, Array.getD_eq_getD_getElem?, hci]; rfl
            have e2 : ((xs.map encI).getD i []).getD 0 .junk = .v (.int .i64 xs[i]) := by simp [List.getD, hi, encI]
            rw [e1, e2]
            exact ⟨rfl, .v (.inl rfl)⟩
      · change (bif Nat.beq cap 0 then none else some g') = some b at hb'
        cases hc0 : Nat.beq cap 0 with
        | true => rw [hc0] at hb'; cases hb'
        | false => rw [hc0] at hb'; cases hb'; exact hbase
  obtain ⟨h3, ⟨a, m, c, rfl⟩, h4⟩ := hholds
  exact ⟨_, rfl, .o D2, _, F, _, hk, .o (by simp), ext_bindF (by simpa using hD) hI hb2 (fun _ h => h) (fun _ h => .inl h) (fun b hb' => ⟨h4 b hb', fun hF => absurd (hI.fsize b hF) (Nat.not_lt.2 (h4 b hb'))⟩) (own_any h3 _ _ (by simp))⟩
end Go.Cat
