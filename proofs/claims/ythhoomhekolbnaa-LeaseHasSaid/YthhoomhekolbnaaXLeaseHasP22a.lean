/- Spans, plain: places, order, how many places. No condition. -/
import Derived.Test.YthhoomhekolbnaaXLeaseHasTw
import Derived.Test.YthhoomhekolbnaaCatP1
namespace Go.Proofs
set_option linter.all false
open Go Go.Cat

theorem span_ext {a b : api_Span} (h : a.From = b.From) (h' : a.To = b.To) : a = b := by
  cases a; cases b; simp_all

def InS (s : api_Span) (p : Int) : Prop := s.From ≤ p ∧ p < s.To ∧ 0 ≤ p ∧ p < 1099511627776
instance InS_dec (s : api_Span) (p : Int) : Decidable (InS s p) := inferInstanceAs (Decidable (_ ∧ _))
def In (l : List api_Span) (p : Int) : Prop := ∃ s, s ∈ l ∧ InS s p

theorem In_nil (p : Int) : ¬ In [] p := fun ⟨_, h, _⟩ => by cases h
theorem In_cons {s : api_Span} {l : List api_Span} {p : Int} : In (s :: l) p ↔ InS s p ∨ In l p := by
  unfold In
  constructor
  · rintro ⟨t, h, hp⟩
    rcases List.mem_cons.1 h with rfl | h
    · exact .inl hp
    · exact .inr ⟨t, h, hp⟩
  · rintro (h | ⟨t, h, hp⟩)
    · exact ⟨s, by simp, h⟩
    · exact ⟨t, by simp [h], hp⟩
theorem In_append {a b : List api_Span} {p : Int} : In (a ++ b) p ↔ In a p ∨ In b p := by
  induction a with
  | nil => simp [In_nil]
  | cons s a ih => rw [List.cons_append, In_cons, In_cons, ih, or_assoc]
instance In_dec : (l : List api_Span) → (p : Int) → Decidable (In l p)
  | [], p => isFalse (In_nil p)
  | s :: l, p => @decidable_of_iff _ _ In_cons.symm (@instDecidableOr _ _ _ (In_dec l p))
theorem In_range {l : List api_Span} {p : Int} (h : In l p) : 0 ≤ p ∧ p < 1099511627776 := by
  obtain ⟨s, _, h⟩ := h; unfold InS at h; omega

def okS (s : api_Span) : Prop := 0 ≤ s.From ∧ s.From < s.To ∧ s.To ≤ 1099511627776
def OrdS (l : List api_Span) : Prop := (∀ s, s ∈ l → okS s) ∧ l.Pairwise (fun s t => s.To < t.From)

theorem OrdS_nil : OrdS [] := ⟨fun _ h => (by cases h), List.Pairwise.nil⟩
theorem OrdS_cons {s : api_Span} {l : List api_Span} : OrdS (s :: l) ↔ okS s ∧ (∀ t, t ∈ l → s.To < t.From) ∧ OrdS l := by
  unfold OrdS
  rw [List.pairwise_cons]
  constructor
  · rintro ⟨h1, h2, h3⟩; exact ⟨h1 s (by simp), h2, fun t ht => h1 t (by simp [ht]), h3⟩
  · rintro ⟨h1, h2, h3, h4⟩
    exact ⟨fun t ht => by (rcases List.mem_cons.1 ht with e | ht; (rw [e]; exact h1); exact h3 t ht), h2, h4⟩
theorem OrdS_snoc {s : api_Span} {l : List api_Span} : OrdS (l ++ [s]) ↔ OrdS l ∧ okS s ∧ ∀ t, t ∈ l → t.To < s.From := by
  unfold OrdS
  rw [List.pairwise_append]
  constructor
  · rintro ⟨h1, h2, _, h4⟩
    exact ⟨⟨fun t ht => h1 t (by simp [ht]), h2⟩, h1 s (by simp), fun t ht => h4 t ht s (by simp)⟩
  · rintro ⟨⟨h1, h2⟩, h3, h4⟩
    refine ⟨fun t ht => ?_, h2, by simp, fun a ha b hb => ?_⟩
    · rcases List.mem_append.1 ht with ht | ht
      · exact h1 t ht
      · rw [List.mem_singleton.1 ht]; exact h3
    · rw [List.mem_singleton.1 hb]; exact h4 a ha

theorem In_from {s : api_Span} (h : okS s) : InS s s.From := by unfold okS at h; unfold InS; omega

/-- What is in order is told by its places. -/
theorem OrdS_uniq : ∀ {a b : List api_Span}, OrdS a → OrdS b → (∀ p, In a p ↔ In b p) → a = b
  | [], [], _, _, _ => rfl
  | [], s :: b, _, hb, h => ((In_nil _).elim ((h s.From).2 ⟨s, by simp, In_from (OrdS_cons.1 hb).1⟩))
  | s :: a, [], ha, _, h => ((In_nil _).elim ((h s.From).1 ⟨s, by simp, In_from (OrdS_cons.1 ha).1⟩))
  | s :: a, t :: b, ha, hb, h => by
    obtain ⟨hs, hsa, ha'⟩ := OrdS_cons.1 ha
    obtain ⟨ht, htb, hb'⟩ := OrdS_cons.1 hb
    have low : ∀ {s : api_Span} {a : List api_Span}, okS s → (∀ t, t ∈ a → s.To < t.From) → ∀ p, In a p → s.To < p := fun _ ho p ⟨x, hx, hp⟩ => by
      have := ho x hx; unfold InS at hp; omega
    have hf : s.From = t.From := by
      have h1 := (h s.From).1 (In_cons.2 (.inl (In_from hs)))
      have h2 := (h t.From).2 (In_cons.2 (.inl (In_from ht)))
      have g1 : t.From ≤ s.From := by
        rcases In_cons.1 h1 with h1 | h1
        · exact h1.1
        · have := low ht htb _ h1; unfold okS at ht; omega
      have g2 : s.From ≤ t.From := by
        rcases In_cons.1 h2 with h2 | h2
        · exact h2.1
        · have := low hs hsa _ h2; unfold okS at hs; omega
      omega
    have hto : s.To = t.To := by
      unfold okS at hs ht
      rcases Int.lt_trichotomy s.To t.To with hlt | heq | hgt
      · have h1 := (h s.To).2 (In_cons.2 (.inl (by unfold InS; omega)))
        rcases In_cons.1 h1 with h1 | h1
        · unfold InS at h1; omega
        · have := low hs hsa _ h1; omega
      · exact heq
      · have h1 := (h t.To).1 (In_cons.2 (.inl (by unfold InS; omega)))
        rcases In_cons.1 h1 with h1 | h1
        · unfold InS at h1; omega
        · have := low ht htb _ h1; omega
    have hst := span_ext hf hto
    subst hst
    have hab : ∀ p, In a p ↔ In b p := fun p => by
      constructor
      · intro hp
        have hlt := low hs hsa p hp
        rcases In_cons.1 ((h p).1 (In_cons.2 (.inr hp))) with h1 | h1
        · unfold InS at h1; omega
        · exact h1
      · intro hp
        have hlt := low ht htb p hp
        rcases In_cons.1 ((h p).2 (In_cons.2 (.inr hp))) with h1 | h1
        · unfold InS at h1; omega
        · exact h1
    rw [OrdS_uniq ha' hb' hab]

theorem OrdS_empty {a : List api_Span} (h : OrdS a) (hp : ∀ p, ¬ In a p) : a = [] := OrdS_uniq h OrdS_nil fun p => ⟨fun h => (hp p h).elim, fun h => (In_nil p h).elim⟩

/-! How many places. -/
def sizeL (l : List api_Span) : Int := (l.map fun s => s.To - s.From).sum
/-- How many of the first n places are so. -/
def cntP (P : Int → Bool) : Nat → Nat
  | 0 => 0
  | n + 1 => cntP P n + (if P (n : Int) then 1 else 0)
end Go.Proofs
