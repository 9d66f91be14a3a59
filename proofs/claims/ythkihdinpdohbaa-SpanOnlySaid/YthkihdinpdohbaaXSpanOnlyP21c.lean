/- Spans, plain: the reference's sums, differences, what meets. No condition. -/
import Derived.Test.YthkihdinpdohbaaXSpanOnlyP21b
namespace Go.Proofs
set_option linter.all false
open Go Go.Cat

def IncL (l : List Int) : Prop := l.Pairwise (· < ·)
theorem IncL_lt {l : List Int} (h : IncL l) {i j : Nat} {x y : Int} (hi : l[i]? = some x) (hj : l[j]? = some y) (hij : i < j) : x < y := by
  have h' := List.pairwise_iff_getElem.1 h
  obtain ⟨hi1, rfl⟩ := List.getElem?_eq_some_iff.1 hi
  obtain ⟨hj1, rfl⟩ := List.getElem?_eq_some_iff.1 hj
  exact h' i j hi1 hj1 hij
theorem IncL_gap {l : List Int} (h : IncL l) {n : Nat} {x y z : Int} (hx : l[n]? = some x) (hy : l[n + 1]? = some y) (hz : z ∈ l) : z ≤ x ∨ y ≤ z := by
  obtain ⟨j, hj⟩ := memR hz
  rcases Nat.lt_trichotomy j n with h1 | h1 | h1
  · exact .inl (Int.le_of_lt (IncL_lt h hj hx h1))
  · subst h1; rw [hx] at hj; cases hj; exact .inl (Int.le_refl _)
  · rcases Nat.lt_or_ge j (n + 1) with h2 | h2
    · omega
    · rcases Nat.lt_or_eq_of_le h2 with h3 | h3
      · exact .inr (Int.le_of_lt (IncL_lt h hy hj h3))
      · subst h3; rw [hy] at hj; cases hj; exact .inr (Int.le_refl _)

theorem t_into_loop (l : List Int) (n : Int) (hlen : l.length ≤ 1000000000) : Tot (ref21_into_L1 l n 0) (fun k => ∃ m : Nat, k = m ∧ m ≤ l.length ∧ (∀ (j : Nat) x, j < m → l[j]? = some x → x < n) ∧ ∀ x, l[m]? = some x → n ≤ x) := by
  unfold ref21_into_L1
  refine Tot.loop (fun s : Int => ∃ m : Nat, s = m ∧ m ≤ l.length ∧ (∀ (j : Nat) x, j < m → l[j]? = some x → x < n)) (fun s : Int => l.length - s.toNat) ?_ 0 ⟨0, rfl, by omega, fun j x hj => by omega⟩
  rintro s ⟨m, rfl, hm, hno⟩
  unfold ref21_into_B1
  refine Tot.bind (R := Tells ((m : Int) < l.length ∧ ∀ x, l[m]? = some x → x < n)) ?_ fun b hb => ?_
  · refine Tot.bind (Tot.andI (P := (m : Int) < l.length) (by simp) fun hlt => ?_) fun c h => Tot.ret h
    refine Tot.bind (Tot.idx (by omega) hlt fun x hx => hx) fun x hx => ?_
    have hx : l[m]? = some x := by simpa using hx
    exact Tot.dec ⟨fun h y hy => by rw [hx] at hy; cases hy; exact h, fun h => h x hx⟩
  · refine Tot.ite (fun h => ?_) (fun h => ?_)
    · obtain ⟨h1, h2⟩ := hb.1 h
      refine Tot.chk (by unfold InI64; omega) (Tot.inl ⟨⟨m + 1, rfl, by omega, fun j x hj hx => ?_⟩, by omega⟩)
      rcases Nat.lt_or_ge j m with hj' | hj'
      · exact hno j x hj' hx
      · have : j = m := by omega
        subst this
        exact h2 x hx
    · refine Tot.out (Tot.ret ⟨m, rfl, hm, hno, fun x hx => ?_⟩)
      have hlt := (getR hx).1
      rcases Int.lt_or_le x n with h1 | h1
      · exact (h (hb.2 ⟨by omega, fun y hy => by rw [hx] at hy; cases hy; exact h1⟩)).elim
      · exact h1

theorem t_into (l : List Int) (n : Int) (hl : IncL l) (hlen : l.length ≤ 1000000) : Tot (ref21_into l n) (fun r => IncL r ∧ (∀ x, x ∈ r ↔ x ∈ l ∨ (x = n ∧ 0 ≤ n ∧ n ≤ 1099511627776)) ∧ r.length ≤ l.length + 1) := by
  unfold ref21_into
  refine Tot.bind (R := Tells (n < 0 ∨ n > 1099511627776)) (Tot.bind (Tot.orI (by simp) fun _ => Tot.dec Iff.rfl) fun _ h => Tot.ret h) fun b hb => ?_
  refine Tot.ite (fun h => Tot.ret ⟨hl, fun x => ⟨.inl, fun h' => h'.elim id fun h' => ?_⟩, by omega⟩) (fun h => ?_)
  · have := hb.1 h; omega
  have hr : 0 ≤ n ∧ n ≤ 1099511627776 := by
    have : ¬ (n < 0 ∨ n > 1099511627776) := fun h' => h (hb.2 h')
    omega
  refine Tot.bind (t_into_loop l n (by omega)) ?_
  rintro k ⟨m, rfl, hm, h1, h2⟩
  refine Tot.bind (R := Tells ((m : Int) < l.length ∧ l[m]? = some n)) ?_ fun b hb => ?_
  · refine Tot.bind (Tot.andI (by simp) fun hlt => ?_) fun c h => Tot.ret h
    refine Tot.bind (Tot.idx (by omega) hlt fun x hx => hx) fun x hx => ?_
    have hx : l[m]? = some x := by simpa using hx
    refine Tot.is ?_
    rw [hx]; simp
  refine Tot.ite (fun h => Tot.ret ⟨hl, fun x => ⟨.inl, fun h' => h'.elim id fun h' => ?_⟩, by omega⟩) (fun h => ?_)
  · obtain ⟨rfl, _⟩ := h'; exact (getR (hb.1 h).2).2
  · have hne : l[m]? ≠ some n := fun e => h (hb.2 ⟨by have := (getR e).1; omega, e⟩)
    have hpw := List.pairwise_iff_getElem.1 hl
    have hlt : ∀ x, x ∈ l.take m → x < n := fun x hx => by
      obtain ⟨j, hj⟩ := memR hx
      rw [List.getElem?_take] at hj
      split at hj
      · exact h1 j x ‹_› hj
      · cases hj
    have hgt : ∀ x, x ∈ l.drop m → n < x := fun x hx => by
      obtain ⟨j, hj⟩ := memR hx
      rw [List.getElem?_drop] at hj
      have hjl := (getR hj).1
      have hml : l[m]? = some l[m] := getLt (by omega)
      have g1 := h2 _ hml
      have g2 : n ≠ l[m] := fun e => hne (by rw [hml, ← e])
      rcases Nat.eq_zero_or_pos j with h0 | h0
      · subst h0; rw [Nat.add_zero, hml] at hj; cases hj; omega
      · have := IncL_lt hl hml hj (by omega); omega
    have hl1 : (l.take m).length ≤ l.length := by simp; omega
    have hl2 : (l.drop m).length ≤ l.length := by simp
    refine Tot.chk (by omega) (Tot.chk (by simp; omega) (Tot.chk (by simp; omega) (Tot.chk (by omega) (Tot.chk (by simp; omega) (Tot.ret ?_)))))
    rw [Int.toNat_natCast, List.nil_append]
    refine ⟨?_, fun x => ?_, by simp; omega⟩
    · unfold IncL at *
      rw [List.append_assoc, List.pairwise_append]
      refine ⟨hl.sublist (List.take_sublist _ _), ?_, fun a ha b hb => ?_⟩
      · rw [List.singleton_append, List.pairwise_cons]
        exact ⟨hgt, hl.sublist (List.drop_sublist _ _)⟩
      · have ha := hlt a ha
        rcases List.mem_cons.1 hb with rfl | hb
        · exact ha
        · have := hgt b hb; omega
    · have : x ∈ l ↔ x ∈ l.take m ∨ x ∈ l.drop m := by
        conv => lhs; rw [← List.take_append_drop m l]
        exact List.mem_append
      rw [this]
      simp only [List.mem_append, List.mem_singleton]
      constructor
      · rintro ((h | h) | h)
        · exact .inl (.inl h)
        · exact .inr ⟨h, hr⟩
        · exact .inl (.inr h)
      · rintro ((h | h) | ⟨h, _⟩)
        · exact .inl (.inl h)
        · exact .inr h
        · exact .inl (.inr h)

def isB (l : List api_Span) (x : Int) : Prop := (∃ s, s ∈ l ∧ (x = s.From ∨ x = s.To)) ∧ 0 ≤ x ∧ x ≤ 1099511627776

theorem t_bounds (l : List api_Span) (hlen : l.length ≤ 10000) : Tot (ref21_bounds l) (fun r => IncL r ∧ (∀ x, x ∈ r ↔ x = 0 ∨ isB l x) ∧ r.length ≤ 2 * l.length + 1) := by
  unfold ref21_bounds ref21_bounds_L1
  refine Tot.bind (R := fun r => IncL r ∧ (∀ x, x ∈ r ↔ x = 0 ∨ isB l x) ∧ r.length ≤ 2 * l.length + 1) ?_ fun _ h => Tot.ret h
  refine Tot.loop (fun s : List Int × Int => ∃ n : Nat, s.2 = n ∧ n ≤ l.length ∧ IncL s.1 ∧ (∀ x, x ∈ s.1 ↔ x = 0 ∨ isB (l.take n) x) ∧ s.1.length ≤ 2 * n + 1) (fun s => l.length - s.2.toNat) ?_ ([0], 0) ⟨0, rfl, by omega, by simp [IncL], fun x => by simp [isB], by simp⟩
  rintro ⟨a, s⟩ ⟨n, h, hn, hi, hm, hl⟩
  dsimp only at h hi hm hl
  subst h
  unfold ref21_bounds_B1
  refine Tot.ite (fun h => ?_) (fun h => ?_)
  · have hlt : n < l.length := by simp at h; omega
    have hx := getLt hlt
    refine Tot.bindeq (idx_some hx) (Tot.bind (t_into a _ hi (by omega)) fun b ⟨hib, hmb, hlb⟩ => Tot.bindeq (idx_some hx) (Tot.bind (t_into b _ hib (by omega)) fun c ⟨hic, hmc, hlc⟩ => Tot.chk (by unfold InI64; omega) (Tot.inl ⟨⟨n + 1, rfl, by omega, hic, fun x => ?_, by dsimp only; omega⟩, by dsimp only; omega⟩)))
    have ht : isB (l.take (n + 1)) x ↔ isB (l.take n) x ∨ ((x = l[n].From ∨ x = l[n].To) ∧ 0 ≤ x ∧ x ≤ 1099511627776) := by
      unfold isB
      rw [List.take_succ_eq_append_getElem hlt]
      constructor
      · rintro ⟨⟨s, hs, he⟩, hr⟩
        rcases List.mem_append.1 hs with hs | hs
        · exact .inl ⟨⟨s, hs, he⟩, hr⟩
        · rw [List.mem_singleton.1 hs] at he; exact .inr ⟨he, hr⟩
      · rintro (⟨⟨s, hs, he⟩, hr⟩ | ⟨he, hr⟩)
        · exact ⟨⟨s, List.mem_append.2 (.inl hs), he⟩, hr⟩
        · exact ⟨⟨_, List.mem_append.2 (.inr (List.mem_singleton.2 rfl)), he⟩, hr⟩
    show x ∈ c ↔ _
    rw [hmc, hmb, hm, ht]
    constructor
    · rintro (((h | h) | ⟨rfl, h1, h2⟩) | ⟨rfl, h1, h2⟩)
      · exact .inl h
      · exact .inr (.inl h)
      · exact .inr (.inr ⟨.inl rfl, h1, h2⟩)
      · exact .inr (.inr ⟨.inr rfl, h1, h2⟩)
    · rintro (h | h | ⟨rfl | rfl, h1, h2⟩)
      · exact .inl (.inl (.inl h))
      · exact .inl (.inl (.inr h))
      · exact .inl (.inr ⟨rfl, h1, h2⟩)
      · exact .inr ⟨rfl, h1, h2⟩
  · have : n = l.length := by simp at h; omega
    subst this
    rw [List.take_length] at hm
    exact Tot.out (Tot.ret ⟨hi, hm, hl⟩)

/-- Which places count. -/
def opP (how : Int) (x y : Prop) : Prop := (how = 1 ∧ (x ∨ y)) ∨ (how = 2 ∧ x ∧ ¬ y) ∨ (how = 3 ∧ x ∧ y)
theorem opP_iff {how : Int} {x y x' y' : Prop} (h : x ↔ x') (h' : y ↔ y') : opP how x y ↔ opP how x' y' := by unfold opP; rw [h, h']
theorem opP_or {how : Int} {x y : Prop} (h : opP how x y) : x ∨ y := by
  rcases h with ⟨_, h⟩ | ⟨_, h, _⟩ | ⟨_, h, _⟩
  · exact h
  · exact .inl h
  · exact .inl h

theorem In_const {a : List api_Span} {L : List Int} (hL : IncL L) (hb : ∀ x, isB a x → x ∈ L) {n : Nat} {x y p : Int} (hx : L[n]? = some x) (hy : L[n + 1]? = some y) (h0 : 0 ≤ x) (h1 : y ≤ 1099511627776) (hp : x ≤ p) (hp' : p < y) : In a p ↔ In a x := by
  have out : ∀ s, s ∈ a → ∀ z, (z = s.From ∨ z = s.To) → 0 ≤ z → z ≤ 1099511627776 → z ≤ x ∨ y ≤ z := fun s hs z hz g1 g2 => IncL_gap hL hx hy (hb z ⟨⟨s, hs, hz⟩, g1, g2⟩)
  constructor
  · rintro ⟨s, hs, h⟩
    refine ⟨s, hs, ?_⟩
    have := out s hs s.From (.inl rfl)
    unfold InS at *; omega
  · rintro ⟨s, hs, h⟩
    refine ⟨s, hs, ?_⟩
    have := out s hs s.To (.inr rfl)
    unfold InS at *; omega

theorem set_last {α : Type} (l : List α) (t v : α) : (l ++ [t]).set l.length v = l ++ [v] := by
  induction l with
  | nil => rfl
  | cons a l ih => simp [ih]

theorem snoc_of {α : Type} {l : List α} (h : 0 < l.length) : ∃ a t, l = a ++ [t] := by
  refine ⟨l.dropLast, l.getLast (List.length_pos_iff.1 h), (List.dropLast_concat_getLast _).symm⟩

/-- A piece more. -/
theorem In_snoc {l : List api_Span} {s : api_Span} {p : Int} : In (l ++ [s]) p ↔ In l p ∨ InS s p := by
  rw [In_append, In_cons]; simp [In_nil]

theorem t_of_test (how : Int) (a b : Bool) {A B : Prop} (ha : Tells A a) (hb : Tells B b) :
    Tot ((if (how == 1) then (if a then some true else some b).bind fun c1 => some c1 else some false).bind fun c2 => (if c2 then some true else (if (how == 2) then some a else some false).bind fun c3 => (if c3 then some ((!b)) else some false).bind fun c4 => some c4).bind fun c5 => (if c5 then some true else (if (how == 3) then some a else some false).bind fun c6 => (if c6 then some b else some false).bind fun c7 => some c7).bind fun c8 => some c8) (Tells (opP how A B)) := by
  refine Tot.bind (Tot.andI (P := how = 1) (Q := A ∨ B) (by simp) fun _ => Tot.bind (Tot.orI ha fun _ => Tot.ret hb) fun _ h => Tot.ret h) fun c2 h2 => ?_
  refine Tot.bind (Tot.orI (Q := how = 2 ∧ A ∧ ¬ B) h2 fun _ => ?_) fun c5 h5 => ?_
  · refine Tot.bind (Tot.andI (P := how = 2) (Q := A) (by simp) fun _ => Tot.ret ha) fun c3 h3 => ?_
    exact Tot.bind (Tot.andI (Q := ¬ B) h3 fun _ => Tot.ret hb.not) fun c4 h4 => Tot.ret (h4.iff (by simp only [and_assoc]))
  · refine Tot.bind (Tot.orI (Q := how = 3 ∧ A ∧ B) h5 fun _ => ?_) fun c8 h8 => Tot.ret (h8.iff (by unfold opP; simp only [or_assoc]))
    refine Tot.bind (Tot.andI (P := how = 3) (Q := A) (by simp) fun _ => Tot.ret ha) fun c3 h3 => ?_
    exact Tot.bind (Tot.andI (Q := B) h3 fun _ => Tot.ret hb) fun c4 h4 => Tot.ret (h4.iff (by simp only [and_assoc]))

theorem t_rof (a b : List api_Span) (how : Int) (ha : a.length ≤ 2000) (hb : b.length ≤ 2000) :
    Tot (ref21_of a b how) (fun r => OrdS r ∧ (∀ p, In r p ↔ opP how (In a p) (In b p)) ∧ r.length ≤ 2 * (a.length + b.length) + 2) := by
  unfold ref21_of
  rw [List.nil_append]
  refine Tot.chk (by simp; omega) (Tot.chk (by omega) (Tot.bind (t_bounds (a ++ b) (by simp; omega)) fun x1 ⟨hi1, hm1, hl1⟩ => Tot.bind (t_into x1 _ hi1 (by simp at hl1; omega)) fun L ⟨hL, hmL, hlL⟩ => ?_))
  have hlen : L.length ≤ 2 * (a.length + b.length) + 2 := by simp at hl1; omega
  have h0 : (0 : Int) ∈ L := (hmL 0).2 (.inl ((hm1 0).2 (.inl rfl)))
  have hT : (1099511627776 : Int) ∈ L := (hmL _).2 (.inr ⟨rfl, by omega, by omega⟩)
  have hrange : ∀ x, x ∈ L → 0 ≤ x ∧ x ≤ 1099511627776 := fun x hx => by
    rcases (hmL x).1 hx with h | h
    · rcases (hm1 x).1 h with h | h
      · omega
      · exact h.2
    · omega
  have hba : ∀ x, isB a x → x ∈ L := fun x ⟨⟨s, hs, he⟩, hr⟩ => (hmL x).2 (.inl ((hm1 x).2 (.inr ⟨⟨s, by simp [hs], he⟩, hr⟩)))
  have hbb : ∀ x, isB b x → x ∈ L := fun x ⟨⟨s, hs, he⟩, hr⟩ => (hmL x).2 (.inl ((hm1 x).2 (.inr ⟨⟨s, by simp [hs], he⟩, hr⟩)))
  have hpos : 0 < L.length := List.length_pos_iff.2 (List.ne_nil_of_mem h0)
  have hfirst : L[0]? = some 0 := by
    obtain ⟨j, hj⟩ := memR h0
    rcases Nat.eq_zero_or_pos j with rfl | hj0
    · exact hj
    · have hg := getLt hpos
      have h1 := IncL_lt hL hg hj hj0
      have h2 := (hrange _ (getR hg).2).1
      omega
  refine Tot.bind (R := fun r => OrdS r ∧ (∀ p, In r p ↔ opP how (In a p) (In b p)) ∧ r.length ≤ 2 * (a.length + b.length) + 2) ?_ fun _ h => Tot.ret h
  unfold ref21_of_L1
  refine Tot.loop (fun s : Int × List api_Span => ∃ (n : Nat) (x : Int), s.1 = n ∧ L[n]? = some x ∧ OrdS s.2 ∧ (∀ t, t ∈ s.2 → t.To ≤ x) ∧ (∀ p, In s.2 p ↔ p < x ∧ opP how (In a p) (In b p)) ∧ s.2.length ≤ n) (fun s => L.length - s.1.toNat) ?_ (0, [])
    ⟨0, 0, rfl, hfirst, OrdS_nil, fun t ht => (by cases ht), fun p => ⟨fun h => (In_nil p h).elim, fun h => ?_⟩, by simp⟩
  · rintro ⟨s, out⟩ ⟨n, x, h, hx, ho, hto, hin, hl⟩
    dsimp only at h ho hto hin hl
    subst h
    have hn := (getR hx).1
    have hxr := hrange x (getR hx).2
    unfold ref21_of_B1
    refine Tot.chk (by unfold InI64; dsimp only; omega) (Tot.ite (fun h => ?_) (fun h => ?_))
    · have hlt : n + 1 < L.length := by simp at h; omega
      have hy := getLt hlt
      generalize L[n + 1] = y at hy
      have hyr := hrange y (getR hy).2
      have hxy := IncL_lt hL hx hy (by omega)
      have hy' : L[((n : Int) + 1).toNat]? = some y := by rw [show ((n : Int) + 1).toNat = n + 1 by omega]; exact hy
      have iy : idx L ((n : Int) + 1) = some y := by unfold idx; rw [if_pos (by omega)]; exact hy'
      refine Tot.bind (R := fun r => OrdS r ∧ (∀ t, t ∈ r → t.To ≤ y) ∧ (∀ p, In r p ↔ p < y ∧ opP how (In a p) (In b p)) ∧ r.length ≤ n + 1) ?_ fun r ⟨h1, h2, h3, h4⟩ => Tot.chk (by unfold InI64; dsimp only; omega) (Tot.inl ⟨⟨n + 1, y, rfl, hy, h1, h2, h3, h4⟩, by dsimp only; omega⟩)
      have hconst : ∀ p, x ≤ p → p < y → (opP how (In a p) (In b p) ↔ opP how (In a x) (In b x)) := fun p h1 h2 => opP_iff (In_const hL hba hx hy hxr.1 hyr.2 h1 h2) (In_const hL hbb hx hy hxr.1 hyr.2 h1 h2)
      refine Tot.bindeq (idx_some hx) (Tot.bind (t_rHas a x (by omega)) fun x4 h4 => Tot.bindeq (idx_some hx) (Tot.bind (t_rHas b x (by omega)) fun x6 h6 => Tot.bind (t_of_test how x4 x6 h4 h6) fun v hv => Tot.ite (fun hf => ?_) (fun ht => ?_)))
      · have hno : ¬ opP how (In a x) (In b x) := fun h => by have := hv.2 h; subst this; simp at hf
        refine Tot.ret ⟨ho, fun t ht => (by have := hto t ht; omega), fun p => ?_, by dsimp only; omega⟩
        rw [hin]
        constructor
        · rintro ⟨g1, g2⟩; exact ⟨by omega, g2⟩
        · rintro ⟨g1, g2⟩
          refine ⟨?_, g2⟩
          rcases Int.lt_or_le p x with h | h
          · exact h
          · exact (hno ((hconst p h g1).1 g2)).elim
      · have hyes : opP how (In a x) (In b x) := hv.1 (by simpa using ht)
        have hgrow : ∀ p, (p < x ∧ opP how (In a p) (In b p)) ∨ (x ≤ p ∧ p < y) ↔ p < y ∧ opP how (In a p) (In b p) := fun p => by
          constructor
          · rintro (⟨g1, g2⟩ | ⟨g1, g2⟩)
            · exact ⟨by omega, g2⟩
            · exact ⟨g2, (hconst p g1 g2).2 hyes⟩
          · rintro ⟨g1, g2⟩
            rcases Int.lt_or_le p x with h | h
            · exact .inl ⟨h, g2⟩
            · exact .inr ⟨h, g1⟩
        refine Tot.bind (R := Tells ((out.length : Int) > 0 ∧ ∃ i t, out = i ++ [t] ∧ t.To = x)) ?_ fun w hw => ?_
        · refine Tot.bind (Tot.andI (by simp) fun hpos' => ?_) fun c h => Tot.ret h
          obtain ⟨i, t, rfl⟩ := snoc_of (l := out) (by omega)
          have e : (((i ++ [t]).length : Int) - 1) = (i.length : Int) := by simp
          dsimp only
          rw [e]
          refine Tot.chk (by unfold InI64; simp at hl; omega) (Tot.bindeq (idx_some (x := t) (by simp)) (Tot.bindeq (idx_some hx) (Tot.is ?_)))
          simp
          exact ⟨fun h => ⟨i, t, ⟨rfl, rfl⟩, h⟩, fun ⟨_, _, ⟨_, rfl⟩, h⟩ => h⟩
        · refine Tot.ite (fun hwt => ?_) (fun hwf => ?_)
          · obtain ⟨_, i, t, rfl, rfl⟩ := hw.1 hwt
            have e : (((i ++ [t]).length : Int) - 1) = (i.length : Int) := by simp
            dsimp only
            rw [e]
            have hl' : i.length + 1 ≤ n := by simpa using hl
            refine Tot.chk (by unfold InI64; omega) (Tot.chk (by unfold InI64; omega) (Tot.bindeq iy (Tot.bindeq (idx_some (x := t) (by simp)) (Tot.ret ?_))))
            rw [Int.toNat_natCast, set_last]
            obtain ⟨ho1, ho2, ho3⟩ := OrdS_snoc.1 ho
            unfold okS at ho2
            refine ⟨OrdS_snoc.2 ⟨ho1, by unfold okS; dsimp only; omega, ho3⟩, fun u hu => ?_, fun p => ?_, by simp; omega⟩
            · rcases List.mem_append.1 hu with hu | hu
              · have := ho3 u hu; omega
              · rw [List.mem_singleton.1 hu]; exact Int.le_refl _
            · rw [← hgrow, ← hin, In_snoc, In_snoc, or_assoc]
              unfold InS; dsimp only
              constructor
              · rintro (h | h)
                · exact .inl h
                · refine .inr ?_; omega
              · rintro (h | h | h)
                · exact .inl h
                · refine .inr ?_; omega
                · refine .inr ?_; omega
          · refine Tot.bindeq (idx_some hx) (Tot.chk (by unfold InI64; omega) (Tot.bindeq iy (Tot.chk (by simp; omega) (Tot.ret ?_))))
            have hlast : ∀ t, t ∈ out → t.To < x := fun t ht => by
              obtain ⟨i, l, rfl⟩ := snoc_of (l := out) (List.length_pos_iff.2 (List.ne_nil_of_mem ht))
              have hne : l.To ≠ x := fun e => hwf (hw.2 ⟨by simp, i, l, rfl, e⟩)
              have h1 := hto l (by simp)
              obtain ⟨_, ho2, ho3⟩ := OrdS_snoc.1 ho
              rcases List.mem_append.1 ht with ht | ht
              · have := ho3 t ht; unfold okS at ho2; omega
              · rw [List.mem_singleton.1 ht]; omega
            refine ⟨OrdS_snoc.2 ⟨ho, by unfold okS; dsimp only; omega, fun t ht => hlast t ht⟩, fun u hu => ?_, fun p => ?_, by simp; omega⟩
            · rcases List.mem_append.1 hu with hu | hu
              · have := hlast u hu; omega
              · rw [List.mem_singleton.1 hu]; exact Int.le_refl _
            · rw [← hgrow, ← hin, In_snoc]
              unfold InS; dsimp only
              constructor
              · rintro (h | h)
                · exact .inl h
                · exact .inr ⟨h.1, h.2.1⟩
              · rintro (h | h)
                · exact .inl h
                · refine .inr ?_; omega
    · have hxT : x = 1099511627776 := by
        obtain ⟨j, hj⟩ := memR hT
        have hjl := (getR hj).1
        have hn' : n + 1 = L.length := by simp at h; omega
        rcases Nat.lt_or_ge j n with h1 | h1
        · have := IncL_lt hL hj hx h1; omega
        · have : j = n := by omega
          subst this
          rw [hx] at hj; cases hj; rfl
      refine Tot.out (Tot.ret ⟨ho, fun p => ?_, by dsimp only; omega⟩)
      rw [hin, hxT]
      exact ⟨fun h => h.2, fun h => ⟨(opP_or h).elim (fun h => (In_range h).2) fun h => (In_range h).2, h⟩⟩
  · have := (opP_or h.2).elim (fun h => (In_range h).1) fun h => (In_range h).1
    omega
end Go.Proofs
