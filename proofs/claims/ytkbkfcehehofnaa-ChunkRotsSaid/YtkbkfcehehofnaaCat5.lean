/- Readings of rows: rules. No condition. -/
import Derived.Test.YtkbkfcehehofnaaCatZ
namespace Go.Cat
set_option linter.all false

theorem getR {α : Type} {l : List α} {n : Nat} {x : α} (h : l[n]? = some x) : n < l.length ∧ x ∈ l := ⟨(List.getElem?_eq_some_iff.1 h).1, List.mem_of_getElem? h⟩
theorem memR {α : Type} {l : List α} {x : α} (h : x ∈ l) : ∃ n : Nat, l[n]? = some x := List.mem_iff_getElem?.1 h
theorem getLt {α : Type} {l : List α} {n : Nat} (h : n < l.length) : l[n]? = some l[n] := List.getElem?_eq_getElem h

/-- A search: it goes on over what is not so; what comes of it. -/
theorem Tot.search {α ρ : Type} {l : List α} {B : Int → Option (Int ⊕ ρ)} {Q : ρ → Prop} (R : α → Prop)
    (hB : ∀ (n : Nat) (x : α), l[n]? = some x → (∀ (j : Nat) y, j < n → l[j]? = some y → ¬ R y) → Tot (B n) (fun y => (R x ∧ ∃ r, y = .inr r ∧ Q r) ∨ (¬ R x ∧ y = .inl ((n : Int) + 1))))
    (hE : (∀ x, x ∈ l → ¬ R x) → Tot (B l.length) (fun y => ∃ r, y = .inr r ∧ Q r)) : Tot (Cat.loop B 0) Q := by
  refine Tot.loop (fun s : Int => ∃ n : Nat, s = n ∧ n ≤ l.length ∧ ∀ (j : Nat) x, j < n → l[j]? = some x → ¬ R x) (fun s : Int => l.length - s.toNat) ?_ 0 ⟨0, rfl, by omega, fun j x hj => by omega⟩
  rintro s ⟨n, rfl, hn, hno⟩
  rcases Nat.lt_or_ge n l.length with hlt | hge
  · refine (hB n _ (getLt hlt) hno).mono ?_
    rintro y (⟨hr, r, rfl, hq⟩ | ⟨hr, rfl⟩)
    · exact hq
    · refine ⟨⟨n + 1, rfl, by omega, fun j x hj hj' => ?_⟩, by omega⟩
      rcases Nat.lt_or_ge j n with h | h
      · exact hno j x h hj'
      · have : j = n := by omega
        subst this
        rw [getLt hlt] at hj'; cases hj'; exact hr
  · have : n = l.length := by omega
    subst this
    refine (hE fun x hx hr => ?_).mono ?_
    · obtain ⟨j, hj⟩ := memR hx
      exact hno j x (getR hj).1 hj hr
    · rintro y ⟨r, rfl, hq⟩; exact hq

/-- One step of a search, told by a test. -/
theorem Tot.found {ρ : Type} {n : Nat} {b : Bool} {R : Prop} {Q : ρ → Prop} {x : Option ρ} (hn : n < 1000000000000) (hb : b = true ↔ R) (hx : R → Tot x Q) :
    Tot (if b = true then Cat.out x else Cat.chk (InI64 ((n : Int) + 1)) (some (.inl ((n : Int) + 1)))) (fun y => (R ∧ ∃ r, y = .inr r ∧ Q r) ∨ (¬ R ∧ y = .inl ((n : Int) + 1))) :=
  Tot.ite (fun h => by obtain ⟨r, rfl, hq⟩ := hx (hb.1 h); exact ⟨_, rfl, .inl ⟨hb.1 h, r, rfl, hq⟩⟩) (fun h => Tot.chk (by unfold InI64; omega) ⟨_, rfl, .inr ⟨fun hr => h (hb.2 hr), rfl⟩⟩)
theorem Tot.done {σ ρ : Type} {Q : ρ → Prop} {x : Option ρ} (hx : Tot x Q) : Tot (Cat.out (σ := σ) x) (fun y => ∃ r, y = .inr r ∧ Q r) := by
  obtain ⟨r, rfl, hq⟩ := hx; exact ⟨_, rfl, r, rfl, hq⟩
theorem Tot.cond {α : Type} {p : Prop} [Decidable p] {x y : Option α} {Q : α → Prop} (hp : p) (h : Tot x Q) : Tot (if p then x else y) Q := by rw [if_pos hp]; exact h
theorem Tot.ncond {α : Type} {p : Prop} [Decidable p] {x y : Option α} {Q : α → Prop} (hp : ¬ p) (h : Tot y Q) : Tot (if p then x else y) Q := by rw [if_neg hp]; exact h

theorem Tells.ex {α : Type} {l : List α} {R : α → Prop} {x : α} (hx : x ∈ l) (h : R x) : Tells (∃ s, s ∈ l ∧ R s) true := ⟨fun _ => ⟨x, hx, h⟩, fun _ => rfl⟩
theorem Tells.yes {P : Prop} (h : P) : Tells P true := ⟨fun _ => h, fun _ => rfl⟩
theorem Tells.no {P : Prop} (h : ¬ P) : Tells P false := ⟨fun e => (by cases e), fun p => (h p).elim⟩
theorem Tells.iff {P Q : Prop} {b : Bool} (h : Tells P b) (e : P ↔ Q) : Tells Q b := h.trans e
theorem Tells.not {P : Prop} {b : Bool} (h : Tells P b) : Tells (¬ P) (!b) := by
  unfold Tells at *; cases b <;> simp_all
theorem Tells.eq {P Q : Prop} {a b : Bool} (h : Tells P a) (h' : Tells Q b) (e : P ↔ Q) : a = b := by
  unfold Tells at *; cases a <;> cases b <;> simp_all
theorem Tells.beq {P Q : Prop} {a b : Bool} (h : Tells P a) (h' : Tells Q b) : Tells (P ↔ Q) (a == b) := by
  unfold Tells at *; cases a <;> cases b <;> simp_all
theorem Tells.dec {P : Prop} [Decidable P] : Tells P (decide P) := decide_eq_true_iff
end Go.Cat
