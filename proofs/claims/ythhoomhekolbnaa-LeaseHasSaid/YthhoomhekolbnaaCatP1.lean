/- The logic that the walks are in, piece P1. No condition. -/
import GoSem.Core.View
import Derived.Sort.AssemblyPlain
import Derived.Lib.BitFns
/- The words of the plain programs: what a loop, an index, a check hands back; no machine in sight. No condition. -/
set_option linter.all false
namespace Go.Cat

def InI64 (n : Int) : Prop := -9223372036854775808 ≤ n ∧ n ≤ 9223372036854775807
instance (n : Int) : Decidable (InI64 n) := inferInstanceAs (Decidable (_ ∧ _))

/-- What stands behind a check. -/
def chk (p : Prop) [Decidable p] {ρ : Type} (x : Option ρ) : Option ρ := if p then x else none

theorem chk_some {p : Prop} [Decidable p] {ρ : Type} {x : Option ρ} {r : ρ} (h : chk p x = some r) : p ∧ x = some r := by
  unfold chk at h; split at h
  · exact ⟨‹_›, h⟩
  · cases h
theorem chk_pos {p : Prop} [Decidable p] {ρ : Type} {x : Option ρ} (h : p) : chk p x = x := if_pos h

/-- The element at a place. -/
def idx {α : Type} (l : List α) (i : Int) : Option α := if 0 ≤ i then l[i.toNat]? else none

theorem idx_nat {α : Type} {l : List α} {i : Int} {x : α} (h : idx l i = some x) : i = (i.toNat : Int) := by
  unfold idx at h; split at h
  · omega
  · cases h
theorem idx_get {α : Type} {l : List α} {i : Int} {x : α} (h : idx l i = some x) : l[i.toNat]? = some x := by
  unfold idx at h; split at h
  · exact h
  · cases h
theorem idx_lt {α : Type} {l : List α} {i : Int} {x : α} (h : idx l i = some x) : i.toNat < l.length := (List.getElem?_eq_some_iff.1 (idx_get h)).1
theorem idx_of_nat {α : Type} {l : List α} {n : Nat} : idx l (n : Int) = l[n]? := by simp [idx]

theorem bindS {α β : Type} {o : Option α} {f : α → Option β} {r : β} (h : o.bind f = some r) : ∃ x, o = some x ∧ f x = some r := Option.bind_eq_some_iff.1 h

/-! Loops. -/
def loopN {σ ρ : Type} (B : σ → Option (σ ⊕ ρ)) : Nat → σ → Option ρ
  | 0, _ => none
  | n + 1, s => match B s with
    | none => none
    | some (.inl s') => loopN B n s'
    | some (.inr r) => some r

theorem loopN_mono {σ ρ : Type} {B : σ → Option (σ ⊕ ρ)} {r : ρ} : ∀ {n m : Nat} {s : σ}, loopN B n s = some r → n ≤ m → loopN B m s = some r
  | 0, _, _, h, _ => by cases h
  | n + 1, 0, _, _, hm => by omega
  | n + 1, m + 1, s, h, hm => by
    simp only [loopN] at h ⊢
    cases hB : B s with
    | none => rw [hB] at h; cases h
    | some x =>
      rw [hB] at h
      cases x with
      | inl s' => exact loopN_mono h (by omega)
      | inr r' => exact h

open Classical in
noncomputable def loop {σ ρ : Type} (B : σ → Option (σ ⊕ ρ)) (s : σ) : Option ρ := if h : ∃ r n, loopN B n s = some r then some h.choose else none

theorem loop_of {σ ρ : Type} {B : σ → Option (σ ⊕ ρ)} {s : σ} {r : ρ} {n : Nat} (h : loopN B n s = some r) : loop B s = some r := by
  have hex : ∃ r n, loopN B n s = some r := ⟨r, n, h⟩
  unfold loop
  rw [dif_pos hex]
  obtain ⟨m, hm⟩ := hex.choose_spec
  have h1 := loopN_mono h (Nat.le_max_left n m)
  have h2 := loopN_mono hm (Nat.le_max_right n m)
  rw [h1] at h2
  exact h2.symm

theorem loop_some {σ ρ : Type} {B : σ → Option (σ ⊕ ρ)} {s : σ} {r : ρ} (h : loop B s = some r) : ∃ n, loopN B n s = some r := by
  unfold loop at h
  split at h
  · rename_i hex
    cases h
    exact hex.choose_spec
  · cases h

theorem loop_none {σ ρ : Type} {B : σ → Option (σ ⊕ ρ)} {s : σ} (h : ∀ n r, loopN B n s ≠ some r) : loop B s = none := by
  cases hl : loop B s with
  | none => rfl
  | some r => obtain ⟨n, hn⟩ := loop_some hl; exact (h n r hn).elim

/-- One round. -/
theorem loop_eq {σ ρ : Type} (B : σ → Option (σ ⊕ ρ)) (s : σ) : loop B s = (B s).bind fun x => match x with | .inl s' => loop B s' | .inr r => some r := by
  cases hB : B s with
  | none =>
    refine loop_none fun n r h => ?_
    cases n with
    | zero => cases h
    | succ n => simp [loopN, hB] at h
  | some x =>
    cases x with
    | inr r => exact loop_of (n := 1) (by simp [loopN, hB])
    | inl s' =>
      simp only [Option.bind_some]
      cases hl : loop B s' with
      | some r =>
        obtain ⟨n, hn⟩ := loop_some hl
        exact loop_of (n := n + 1) (by simp [loopN, hB, hn])
      | none =>
        refine loop_none fun n r h => ?_
        cases n with
        | zero => cases h
        | succ n =>
          simp only [loopN, hB] at h
          rw [loop_of h] at hl; cases hl

theorem loop_inl {σ ρ : Type} {B : σ → Option (σ ⊕ ρ)} {s s' : σ} (h : B s = some (.inl s')) : loop B s = loop B s' := by rw [loop_eq, h]; rfl
theorem loop_inr {σ ρ : Type} {B : σ → Option (σ ⊕ ρ)} {s : σ} {r : ρ} (h : B s = some (.inr r)) : loop B s = some r := by rw [loop_eq, h]; rfl

/-- A way out of a loop. -/
def out {σ ρ : Type} (x : Option ρ) : Option (σ ⊕ ρ) := x.map .inr

theorem out_some {σ ρ : Type} {x : Option ρ} {y : σ ⊕ ρ} (h : out x = some y) : ∃ r, x = some r ∧ y = .inr r := by
  unfold out at h
  cases x with
  | none => cases h
  | some r => cases h; exact ⟨r, rfl, rfl⟩

/-- Whichever of the rows a library's sort may hand back. -/
noncomputable def anyOf {α ρ : Type} (S : α → Prop) (f : α → Option ρ) : Option ρ := by
  classical exact if h : ∃ r, ∀ x, S x → f x = some r then some h.choose else none

/-! What the one program says, the other says, too: for a program with a bound on its rounds. -/
def Le0 {α : Type} (x y : Option α) : Prop := ∀ r, x = some r → y = some r

theorem Le0.refl {α : Type} (x : Option α) : Le0 x x := fun _ h => h
theorem Le0.bind {α β : Type} {x y : Option α} {f g : α → Option β} (h : Le0 x y) (hf : ∀ a, Le0 (f a) (g a)) : Le0 (x.bind f) (y.bind g) := fun r hr => by
  obtain ⟨a, ha, hb⟩ := bindS hr
  rw [h a ha]; exact hf a r hb
theorem Le0.chk {α : Type} {p : Prop} [Decidable p] {x y : Option α} (h : Le0 x y) : Le0 (Cat.chk p x) (Cat.chk p y) := fun r hr => by
  obtain ⟨hp, hx⟩ := chk_some hr
  rw [chk_pos hp]; exact h r hx
theorem Le0.ite {α : Type} {p : Prop} [Decidable p] {x y x' y' : Option α} (h : Le0 x y) (h' : Le0 x' y') : Le0 (if p then x else x') (if p then y else y') := by
  split
  · exact h
  · exact h'
theorem Le0.out {σ ρ : Type} {x y : Option ρ} (h : Le0 x y) : Le0 (Cat.out (σ := σ) x) (Cat.out y) := fun r hr => by
  obtain ⟨a, ha, rfl⟩ := out_some hr
  rw [h a ha]; rfl
theorem Le0.loop {σ ρ : Type} {B B' : σ → Option (σ ⊕ ρ)} (h : ∀ s, Le0 (B s) (B' s)) : ∀ (n : Nat) (s : σ), Le0 (loopN B n s) (Cat.loop B' s)
  | 0, _ => fun _ hr => by cases hr
  | n + 1, s => fun r hr => by
    simp only [loopN] at hr
    rw [loop_eq]
    cases hB : B s with
    | none => rw [hB] at hr; cases hr
    | some x =>
      rw [hB] at hr
      rw [h s x hB]
      cases x with
      | inl s' => exact Le0.loop h n s' r hr
      | inr r' => exact hr
/-! A map by numbers, as a row: what stands there, what is put. -/
def mget {α : Type} (n : Int) : List (Int × α) → Option α
  | [] => none
  | (k, c) :: r => if k = n then some c else mget n r
def mset {α : Type} (n : Int) (v : α) : List (Int × α) → List (Int × α)
  | [] => [(n, v)]
  | (k, c) :: r => if k = n then (k, v) :: r else (k, c) :: mset n v r
/-- Where a number stands. -/
theorem mget_at {α : Type} (n : Int) (v : α) : ∀ l : List (Int × α), (mget n l = none ∧ mset n v l = l ++ [(n, v)] ∧ ∀ p, p ∈ l → p.1 ≠ n) ∨
    ∃ (j : Nat) (c : α), l[j]? = some (n, c) ∧ mget n l = some c ∧ mset n v l = l.set j (n, v) ∧ ∀ (i : Nat) p, i < j → l[i]? = some p → p.1 ≠ n
  | [] => .inl ⟨rfl, rfl, fun _ h => by cases h⟩
  | (k, c) :: r => by
    simp only [mget, mset]
    split
    · rename_i h; subst h
      exact .inr ⟨0, c, rfl, rfl, rfl, fun i p hi => by omega⟩
    · rename_i h
      rcases mget_at n v r with ⟨h1, h2, h3⟩ | ⟨j, c', h1, h2, h3, h4⟩
      · refine .inl ⟨h1, by rw [h2]; rfl, fun p hp => ?_⟩
        rcases List.mem_cons.1 hp with rfl | hp
        · exact h
        · exact h3 p hp
      · refine .inr ⟨j + 1, c', h1, h2, by rw [h3]; rfl, fun i p hi hp => ?_⟩
        cases i with
        | zero => simp at hp; rw [← hp]; exact h
        | succ i => exact h4 i p (by omega) (by simpa using hp)

/-! Numbers. -/
def quoK (k : IntKind) (a b : Int) : Int := k.wrap (a.tdiv b)
def shlK (k : IntKind) (a b : Int) : Int := k.wrap (a * 2 ^ (min b.toNat k.bits))
def shrK (k : IntKind) (a b : Int) : Int := a.fdiv (2 ^ (min b.toNat k.bits))
def andK (k : IntKind) (a b : Int) : Int := k.wrap (BitVec.ofInt k.bits a &&& BitVec.ofInt k.bits b).toNat
def orK (k : IntKind) (a b : Int) : Int := k.wrap (BitVec.ofInt k.bits a ||| BitVec.ofInt k.bits b).toNat
def xorK (k : IntKind) (a b : Int) : Int := k.wrap (BitVec.ofInt k.bits a ^^^ BitVec.ofInt k.bits b).toNat
def andNotK (k : IntKind) (a b : Int) : Int := k.wrap (BitVec.ofInt k.bits a &&& ~~~BitVec.ofInt k.bits b).toNat
/-- A number as a byte. -/
def toU8 (n : Int) : UInt8 := UInt8.ofNat (n % 256).toNat

theorem toU8_toNat (n : Int) : ((toU8 n).toNat : Int) = n % 256 := by
  unfold toU8
  rw [UInt8.toNat_ofNat']
  have := Int.emod_nonneg n (by decide : (256 : Int) ≠ 0)
  have := Int.emod_lt_of_pos n (by decide : (0 : Int) < 256)
  omega

/-- A row's piece, by its bounds. -/
def sub {α : Type} (l : List α) (a b : Int) : List α := (l.take b.toNat).drop a.toNat

end Go.Cat

/- What a plain program comes to: rules. No condition. -/
set_option linter.all false
namespace Go.Cat

/-- It comes to an end, with such a thing. -/
def Tot {α : Type} (x : Option α) (Q : α → Prop) : Prop := ∃ r, x = some r ∧ Q r

theorem Tot.ret {α : Type} {a : α} {Q : α → Prop} (h : Q a) : Tot (some a) Q := ⟨a, rfl, h⟩
theorem Tot.mono {α : Type} {x : Option α} {Q R : α → Prop} (h : Tot x Q) (hm : ∀ a, Q a → R a) : Tot x R := let ⟨r, e, q⟩ := h; ⟨r, e, hm r q⟩
theorem Tot.bind {α β : Type} {x : Option α} {f : α → Option β} {R : α → Prop} {Q : β → Prop} (h : Tot x R) (hf : ∀ a, R a → Tot (f a) Q) : Tot (x.bind f) Q := by
  obtain ⟨a, rfl, ha⟩ := h
  exact hf a ha
theorem Tot.bindeq {α β : Type} {x : Option α} {f : α → Option β} {a : α} {Q : β → Prop} (h : x = some a) (hf : Tot (f a) Q) : Tot (x.bind f) Q := by
  subst h; exact hf
theorem Tot.chk {α : Type} {p : Prop} [Decidable p] {x : Option α} {Q : α → Prop} (hp : p) (h : Tot x Q) : Tot (Cat.chk p x) Q := by rw [chk_pos hp]; exact h
theorem Tot.ite {α : Type} {p : Prop} [Decidable p] {x y : Option α} {Q : α → Prop} (h : p → Tot x Q) (h' : ¬ p → Tot y Q) : Tot (if p then x else y) Q := by
  split
  · exact h ‹_›
  · exact h' ‹_›

/-- What one round comes to. -/
def RdP {σ ρ : Type} (P : σ → Prop) (Q : ρ → Prop) : σ ⊕ ρ → Prop
  | .inl s => P s
  | .inr r => Q r

theorem Tot.out {σ ρ : Type} {x : Option ρ} {P : σ → Prop} {Q : ρ → Prop} (h : Tot x Q) : Tot (Cat.out x) (RdP P Q) := by
  obtain ⟨a, rfl, ha⟩ := h
  exact ⟨.inr a, rfl, ha⟩
theorem Tot.inl {σ ρ : Type} {s : σ} {P : σ → Prop} {Q : ρ → Prop} (h : P s) : Tot (some (.inl s)) (RdP P Q) := ⟨_, rfl, h⟩

theorem Tot.loop {σ ρ : Type} {B : σ → Option (σ ⊕ ρ)} {Q : ρ → Prop} (P : σ → Prop) (m : σ → Nat)
    (hB : ∀ s, P s → Tot (B s) (RdP (fun s' => P s' ∧ m s' < m s) Q)) : ∀ s, P s → Tot (Cat.loop B s) Q := by
  have : ∀ n s, m s < n → P s → Tot (Cat.loop B s) Q := by
    intro n
    induction n with
    | zero => intro s h; omega
    | succ n ih =>
      intro s hn hs
      obtain ⟨y, hy, hq⟩ := hB s hs
      cases y with
      | inl s' => rw [loop_inl hy]; exact ih s' (by have := hq.2; omega) hq.1
      | inr r => rw [loop_inr hy]; exact ⟨r, rfl, hq⟩
  exact fun s hs => this _ s (Nat.lt_succ_self _) hs

theorem Tot.idx {α : Type} {l : List α} {i : Int} {Q : α → Prop} (h0 : 0 ≤ i) (h1 : i < l.length) (h : ∀ x, l[i.toNat]? = some x → Q x) : Tot (Cat.idx l i) Q := by
  have hl : i.toNat < l.length := by omega
  refine ⟨l[i.toNat], ?_, h _ (List.getElem?_eq_getElem hl)⟩
  unfold Cat.idx
  rw [if_pos h0, List.getElem?_eq_getElem hl]
theorem Tot.eq {α : Type} {x : Option α} {a : α} (h : Tot x (· = a)) : x = some a := by
  obtain ⟨r, e, q⟩ := h
  rw [e, q]
theorem Tot.of {α : Type} {x : Option α} {a : α} (h : x = some a) : Tot x (· = a) := ⟨a, h, rfl⟩

/-! What is told, and when. -/
def Tells (P : Prop) (b : Bool) : Prop := b = true ↔ P
theorem Tot.andI {a : Bool} {P Q : Prop} {y : Option Bool} (h : a = true ↔ P) (hy : P → Tot y (Tells Q)) : Tot (if a = true then y else some false) (Tells (P ∧ Q)) :=
  Tot.ite (fun ha => (hy (h.1 ha)).mono fun _ hb => ⟨fun e => ⟨h.1 ha, hb.1 e⟩, fun e => hb.2 e.2⟩) (fun ha => Tot.ret ⟨fun e => (by cases e), fun e => (ha (h.2 e.1)).elim⟩)
theorem Tot.orI {a : Bool} {P Q : Prop} {y : Option Bool} (h : a = true ↔ P) (hy : ¬ P → Tot y (Tells Q)) : Tot (if a = true then some true else y) (Tells (P ∨ Q)) :=
  Tot.ite (fun ha => Tot.ret ⟨fun _ => .inl (h.1 ha), fun _ => rfl⟩) (fun ha => (hy fun hp => ha (h.2 hp)).mono fun _ hb => ⟨fun e => .inr (hb.1 e), fun e => e.elim (fun hp => (ha (h.2 hp)).elim) hb.2⟩)
theorem Tot.dec {p : Prop} [Decidable p] {P : Prop} (h : p ↔ P) : Tot (some (decide p)) (Tells P) := Tot.ret (decide_eq_true_iff.trans h)
theorem Tot.is {b : Bool} {P : Prop} (h : b = true ↔ P) : Tot (some b) (Tells P) := Tot.ret h

/-! A loop that goes through a row. -/
theorem idx_some {β : Type} {b : List β} {n : Nat} {x : β} (h : b[n]? = some x) : idx b (n : Int) = some x := by rw [idx_of_nat, h]

/-! Numbers. -/
end Go.Cat

/- Words for maps by numbers: their numbers in order, what is read. No condition. -/
set_option linter.all false
namespace Go.Cat
/-- The numbers of a map, in order. -/
def keysI {α : Type} (l : List (Int × α)) : List Int := (l.map (·.1)).mergeSort fun x y => decide (x ≤ y)
/-- Numbers, rising. -/
def sortI (l : List Int) : List Int := l.mergeSort fun x y => decide (x ≤ y)
end Go.Cat

/- What a sort by a comparison hands back, as a word of the plain programs: the library's own plain twin; a permutation, in order. No condition. -/
set_option linter.all false
namespace Go.Cat
open Go.Sort

/-- The comparison c is the whole function cf, and 'cf x y < 0' is a strict weak order. -/
def CmpIs {α : Type} (c : α → α → Option Int) (cf : α → α → Int) : Prop := (∀ x y, c x y = some (cf x y)) ∧ SWO (fun x y => decide (cf x y < 0))

theorem CmpIs.uniq {α : Type} {c : α → α → Option Int} {cf cf' : α → α → Int} (h : CmpIs c cf) (h' : CmpIs c cf') : cf = cf' :=
  funext fun x => funext fun y => Option.some.inj ((h.1 x y).symm.trans (h'.1 x y))

/-- The library's row, sorted. -/
def sortBy {α : Type} [Inhabited α] (cf : α → α → Int) (l : List α) : List α := (pdq (fun x y => decide (cf x y < 0)) l.toArray 0 l.length (Lib.bitLen l.length) true true).toList

open Classical in
/-- A row sorted by a comparison. -/
noncomputable def sortF {α : Type} [Inhabited α] (c : α → α → Option Int) (l : List α) : Option (List α) := chk (l.length ≤ 140737488355328) (if h : ∃ cf, CmpIs c cf then some (sortBy h.choose l) else none)

theorem sortF_eq {α : Type} [Inhabited α] {c : α → α → Option Int} {cf : α → α → Int} (h : CmpIs c cf) {l : List α} (hl : l.length ≤ 140737488355328) : sortF c l = some (sortBy cf l) := by
  unfold sortF
  rw [chk_pos hl]
  have hex : ∃ cf, CmpIs c cf := ⟨cf, h⟩
  rw [dif_pos hex, hex.choose_spec.uniq h]

theorem sortF_some {α : Type} [Inhabited α] {c : α → α → Option Int} {l r : List α} (h : sortF c l = some r) : l.length ≤ 140737488355328 ∧ ∃ cf, CmpIs c cf ∧ r = sortBy cf l := by
  unfold sortF at h
  obtain ⟨hl, h⟩ := chk_some h
  refine ⟨hl, ?_⟩
  split at h
  · rename_i hex; cases h; exact ⟨_, hex.choose_spec, rfl⟩
  · cases h

theorem sortBy_spec {α : Type} [Inhabited α] {cf : α → α → Int} (h : SWO (fun x y => decide (cf x y < 0))) (l : List α) : (sortBy cf l).Perm l ∧ (sortBy cf l).Pairwise (fun x y => ¬ cf y x < 0) := by
  have hs := pdq_sorts (fun x y => decide (cf x y < 0)) h l.toArray 0 l.length (Lib.bitLen l.length) true true (Nat.zero_le _) (by simp) (Or.inl rfl)
  obtain ⟨⟨hsz, _, hp⟩, ho⟩ := hs
  unfold sortBy
  generalize pdq (fun x y => decide (cf x y < 0)) l.toArray 0 l.length (Lib.bitLen l.length) true true = d at *
  have hd : d.size = l.length := by simpa using hsz
  refine ⟨?_, ?_⟩
  · have e1 : d.extract 0 l.length = d := by rw [← hd]; simp
    have e2 : l.toArray.extract 0 l.length = l.toArray := by simp
    rw [e1, e2] at hp
    simpa using hp
  · rw [List.pairwise_iff_getElem]
    intro i j hi hj hij
    have hj' : j < l.length := by simpa [hd] using hj
    have := ho i j (Nat.zero_le _) hij hj'
    have gi : d[i]! = d.toList[i] := by rw [getElem!_pos d i (by omega)]; simp
    have gj : d[j]! = d.toList[j] := by rw [getElem!_pos d j (by omega)]; simp
    rw [gi, gj] at this
    simpa using this

/-- What the sort hands back: a permutation, in order. -/
theorem sortF_ok {α : Type} [Inhabited α] {c : α → α → Option Int} {cf : α → α → Int} (h : CmpIs c cf) {l : List α} (hl : l.length ≤ 140737488355328) : ∃ r, sortF c l = some r ∧ r.Perm l ∧ r.Pairwise (fun x y => ¬ cf y x < 0) :=
  ⟨_, sortF_eq h hl, sortBy_spec h.2 l⟩
end Go.Cat
