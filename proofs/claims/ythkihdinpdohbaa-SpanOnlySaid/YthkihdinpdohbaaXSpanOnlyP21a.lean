/- Spans, plain: places, order, how many places. No condition. -/
import Derived.Test.YthkihdinpdohbaaXSpanOnlySp
import Derived.Test.YthkihdinpdohbaaCatZ
namespace Go.Proofs
set_option linter.all false
open Go Go.Cat

theorem span_ext {a b : api_Span} (h : a.From = b.From) (h' : a.To = b.To) : a = b := by
  cases a; cases b; simp_all

def InS (s : api_Span) (p : Int) : Prop := s.From ≤ p ∧ p < s.To ∧ 0 ≤ p ∧ p < 1099511627776
instance InS_dec (s : api_Span) (p : Int) : Decidable (InS s p) := inferInstanceAs (Decidable (_ ∧ _))
def In (l : List api_Span) (p : Int) : Prop := ∃ s, s ∈ l ∧ InS s p

theorem In_nil (p : Int) : ¬ In [] p := fun ⟨_, h, _⟩ => by cases h
theorem In_cons {s : api_Span} {l : List api_Span} {p : Int} : In (s :: l) p ↔ InS s p ∨ In l p := by
  unfold In
  constructor
  · rintro ⟨t, h, hp⟩
    rcases List.mem_cons.1 h with rfl | h
    · exact .inl hp
    · exact .inr ⟨t, h, hp⟩
  · rintro (h | ⟨t, h, hp⟩)
    · exact ⟨s, by simp, h⟩
    · exact ⟨t, by simp [h], hp⟩
theorem In_append {a b : List api_Span} {p : Int} : In (a ++ b) p ↔ In a p ∨ In b p := by
  induction a with
  | nil => simp [In_nil]
  | cons s a ih => rw [List.cons_append, In_cons, In_cons, ih, or_assoc]
instance In_dec : (l : List api_Span) → (p : Int) → Decidable (In l p)
  | [], p => isFalse (In_nil p)
  | s :: l, p => @decidable_of_iff _ _ In_cons.symm (@instDecidableOr _ _ _ (In_dec l p))
theorem In_perm {a b : List api_Span} (h : a.Perm b) (p : Int) : In a p ↔ In b p := ⟨fun ⟨s, hs, hp⟩ => ⟨s, h.mem_iff.1 hs, hp⟩, fun ⟨s, hs, hp⟩ => ⟨s, h.mem_iff.2 hs, hp⟩⟩
theorem In_range {l : List api_Span} {p : Int} (h : In l p) : 0 ≤ p ∧ p < 1099511627776 := by
  obtain ⟨s, _, h⟩ := h; unfold InS at h; omega

def okS (s : api_Span) : Prop := 0 ≤ s.From ∧ s.From < s.To ∧ s.To ≤ 1099511627776
def OrdS (l : List api_Span) : Prop := (∀ s, s ∈ l → okS s) ∧ l.Pairwise (fun s t => s.To < t.From)

theorem OrdS_nil : OrdS [] := ⟨fun _ h => (by cases h), List.Pairwise.nil⟩
theorem OrdS_cons {s : api_Span} {l : List api_Span} : OrdS (s :: l) ↔ okS s ∧ (∀ t, t ∈ l → s.To < t.From) ∧ OrdS l := by
  unfold OrdS
  rw [List.pairwise_cons]
  constructor
  · rintro ⟨h1, h2, h3⟩; exact ⟨h1 s (by simp), h2, fun t ht => h1 t (by simp [ht]), h3⟩
  · rintro ⟨h1, h2, h3, h4⟩
    exact ⟨fun t ht => by (rcases List.mem_cons.1 ht with e | ht; (rw [e]; exact h1); exact h3 t ht), h2, h4⟩
theorem OrdS_snoc {s : api_Span} {l : List api_Span} : OrdS (l ++ [s]) ↔ OrdS l ∧ okS s ∧ ∀ t, t ∈ l → t.To < s.From := by
  unfold OrdS
  rw [List.pairwise_append]
  constructor
  · rintro ⟨h1, h2, _, h4⟩
    exact ⟨⟨fun t ht => h1 t (by simp [ht]), h2⟩, h1 s (by simp), fun t ht => h4 t ht s (by simp)⟩
  · rintro ⟨⟨h1, h2⟩, h3, h4⟩
    refine ⟨fun t ht => ?_, h2, by simp, fun a ha b hb => ?_⟩
    · rcases List.mem_append.1 ht with ht | ht
      · exact h1 t ht
      · rw [List.mem_singleton.1 ht]; exact h3
    · rw [List.mem_singleton.1 hb]; exact h4 a ha

theorem In_from {s : api_Span} (h : okS s) : InS s s.From := by unfold okS at h; unfold InS; omega

/-- What is in order is told by its places. -/
theorem OrdS_uniq : ∀ {a b : List api_Span}, OrdS a → OrdS b → (∀ p, In a p ↔ In b p) → a = b
  | [], [], _, _, _ => rfl
  | [], s :: b, _, hb, h => ((In_nil _).elim ((h s.From).2 ⟨s, by simp, In_from (OrdS_cons.1 hb).1⟩))
  | s :: a, [], ha, _, h => ((In_nil _).elim ((h s.From).1 ⟨s, by simp, In_from (OrdS_cons.1 ha).1⟩))
  | s :: a, t :: b, ha, hb, h => by
    obtain ⟨hs, hsa, ha'⟩ := OrdS_cons.1 ha
    obtain ⟨ht, htb, hb'⟩ := OrdS_cons.1 hb
    have low : ∀ {s : api_Span} {a : List api_Span}, okS s → (∀ t, t ∈ a → s.To < t.From) → ∀ p, In a p → s.To < p := fun _ ho p ⟨x, hx, hp⟩ => by
      have := ho x hx; unfold InS at hp; omega
    have hf : s.From = t.From := by
      have h1 := (h s.From).1 (In_cons.2 (.inl (In_from hs)))
      have h2 := (h t.From).2 (In_cons.2 (.inl (In_from ht)))
      have g1 : t.From ≤ s.From := by
        rcases In_cons.1 h1 with h1 | h1
        · exact h1.1
        · have := low ht htb _ h1; unfold okS at ht; omega
      have g2 : s.From ≤ t.From := by
        rcases In_cons.1 h2 with h2 | h2
        · exact h2.1
        · have := low hs hsa _ h2; unfold okS at hs; omega
      omega
    have hto : s.To = t.To := by
      unfold okS at hs ht
      rcases Int.lt_trichotomy s.To t.To with hlt | heq | hgt
      · have h1 := (h s.To).2 (In_cons.2 (.inl (by unfold InS; omega)))
        rcases In_cons.1 h1 with h1 | h1
        · unfold InS at h1; omega
        · have := low hs hsa _ h1; omega
      · exact heq
      · have h1 := (h t.To).1 (In_cons.2 (.inl (by unfold InS; omega)))
        rcases In_cons.1 h1 with h1 | h1
        · unfold InS at h1; omega
        · have := low ht htb _ h1; omega
    have hst := span_ext hf hto
    subst hst
    have hab : ∀ p, In a p ↔ In b p := fun p => by
      constructor
      · intro hp
        have hlt := low hs hsa p hp
        rcases In_cons.1 ((h p).1 (In_cons.2 (.inr hp))) with h1 | h1
        · unfold InS at h1; omega
        · exact h1
      · intro hp
        have hlt := low ht htb p hp
        rcases In_cons.1 ((h p).2 (In_cons.2 (.inr hp))) with h1 | h1
        · unfold InS at h1; omega
        · exact h1
    rw [OrdS_uniq ha' hb' hab]

theorem OrdS_empty {a : List api_Span} (h : OrdS a) (hp : ∀ p, ¬ In a p) : a = [] := OrdS_uniq h OrdS_nil fun p => ⟨fun h => (hp p h).elim, fun h => (In_nil p h).elim⟩

/-! How many places. -/
def sizeL (l : List api_Span) : Int := (l.map fun s => s.To - s.From).sum
theorem sizeL_cons (s : api_Span) (l : List api_Span) : sizeL (s :: l) = (s.To - s.From) + sizeL l := by simp [sizeL]
/-- How many of the first n places are so. -/
def cntP (P : Int → Bool) : Nat → Nat
  | 0 => 0
  | n + 1 => cntP P n + (if P (n : Int) then 1 else 0)
theorem cntP_congr {P Q : Int → Bool} : ∀ {n : Nat}, (∀ k : Nat, k < n → P k = Q k) → cntP P n = cntP Q n
  | 0, _ => rfl
  | n + 1, h => by simp only [cntP]; rw [cntP_congr (fun k hk => h k (by omega)), h n (by omega)]
theorem cntP_add {P Q R S : Int → Bool} : ∀ {n : Nat}, (∀ k : Nat, k < n → (if P k then 1 else 0) + (if Q k then 1 else 0) = (if R k then 1 else 0) + (if S k then (1 : Nat) else 0)) → cntP P n + cntP Q n = cntP R n + cntP S n
  | 0, _ => rfl
  | n + 1, h => by
    have := cntP_add (n := n) (fun k hk => h k (by omega))
    have := h n (by omega)
    simp only [cntP]; omega
theorem cntP_false {P : Int → Bool} : ∀ {n : Nat}, (∀ k : Nat, k < n → P k = false) → cntP P n = 0
  | 0, _ => rfl
  | n + 1, h => by simp only [cntP]; rw [cntP_false (fun k hk => h k (by omega)), h n (by omega)]; rfl
theorem cntP_le {P : Int → Bool} : ∀ n : Nat, cntP P n ≤ n
  | 0 => Nat.le_refl _
  | n + 1 => by simp only [cntP]; have := cntP_le (P := P) n; split <;> omega
theorem cntP_piece {f t : Int} (h0 : 0 ≤ f) (h1 : f ≤ t) : ∀ n : Nat, (cntP (fun p => decide (f ≤ p ∧ p < t)) n : Int) = min (max ((n : Int) - f) 0) (t - f)
  | 0 => by simp [cntP]; omega
  | n + 1 => by
    have := cntP_piece h0 h1 n
    simp only [cntP, Int.natCast_add]
    rw [this]
    by_cases h : f ≤ (n : Int) ∧ (n : Int) < t
    · simp [h]; omega
    · simp [h]; omega

theorem sizeL_cnt : ∀ {l : List api_Span}, OrdS l → sizeL l = cntP (fun p => decide (In l p)) 1099511627776
  | [], _ => by rw [cntP_false (fun k _ => decide_eq_false (In_nil _))]; rfl
  | s :: l, h => by
    obtain ⟨hs, hsl, hl⟩ := OrdS_cons.1 h
    rw [sizeL_cons, sizeL_cnt hl]
    unfold okS at hs
    have h1 := cntP_piece (f := s.From) (t := s.To) hs.1 (by omega) 1099511627776
    have h2 := cntP_add (P := fun p => decide (s.From ≤ p ∧ p < s.To)) (Q := fun p => decide (In l p)) (R := fun p => decide (In (s :: l) p)) (S := fun _ => false) (n := 1099511627776) (fun k hk => by
      by_cases hin : s.From ≤ (k : Int) ∧ (k : Int) < s.To
      · have hn : ¬ In l k := fun ⟨x, hx, hp⟩ => by have := hsl x hx; unfold InS at hp; omega
        have hy : In (s :: l) k := In_cons.2 (.inl (by unfold InS; omega))
        simp [hin, hn, hy]
      · by_cases hl : In l k
        · have hy : In (s :: l) k := In_cons.2 (.inr hl)
          simp [hin, hl, hy]
        · have hn : ¬ In (s :: l) k := fun h => (In_cons.1 h).elim (fun h => hin ⟨h.1, h.2.1⟩) hl
          simp [hin, hl, hn])
    rw [cntP_false (P := fun _ => false) (fun _ _ => rfl)] at h2
    have h3 : (cntP (fun p => decide (s.From ≤ p ∧ p < s.To)) 1099511627776 : Int) = s.To - s.From := by rw [h1]; omega
    omega
theorem sizeL_bnd {l : List api_Span} (h : OrdS l) : 0 ≤ sizeL l ∧ sizeL l ≤ 1099511627776 := by
  rw [sizeL_cnt h]; have := cntP_le (P := fun p => decide (In l p)) 1099511627776; omega
theorem sizeL_zero : ∀ {l : List api_Span}, OrdS l → (sizeL l = 0 ↔ l = [])
  | [], _ => by simp [sizeL]
  | s :: l, h => by
    obtain ⟨hs, _, hl⟩ := OrdS_cons.1 h
    rw [sizeL_cons]
    have := (sizeL_bnd hl).1
    unfold okS at hs
    simp; omega
/-- Of four rows in order: what the first two have is what the other two have. -/
theorem sizeL_add {a b c d : List api_Span} (ha : OrdS a) (hb : OrdS b) (hc : OrdS c) (hd : OrdS d)
    (h1 : ∀ p, In a p ∨ In b p ↔ In c p ∨ In d p) (h2 : ∀ p, In a p ∧ In b p ↔ In c p ∧ In d p) : sizeL a + sizeL b = sizeL c + sizeL d := by
  rw [sizeL_cnt ha, sizeL_cnt hb, sizeL_cnt hc, sizeL_cnt hd]
  have := cntP_add (P := fun p => decide (In a p)) (Q := fun p => decide (In b p)) (R := fun p => decide (In c p)) (S := fun p => decide (In d p)) (n := 1099511627776) (fun k _ => by
    have g1 := h1 k; have g2 := h2 k
    by_cases ha : In a k <;> by_cases hb : In b k <;> by_cases hc : In c k <;> by_cases hd : In d k <;> simp_all)
  omega
end Go.Proofs
