/- Spans, plain: readings of rows. No condition. -/
import Derived.Test.YthkihdinpdohbaaXSpanOnlyP21a
import Derived.Test.YthkihdinpdohbaaCat5
namespace Go.Proofs
set_option linter.all false
open Go Go.Cat

theorem t_rHas (l : List api_Span) (p : Int) (hl : l.length ≤ 1000000000) : Tot (ref21_Has l p) (Tells (In l p)) := by
  unfold ref21_Has ref21_Has_L1
  refine Tot.search (l := l) (fun s => InS s p) (fun n x hx _ => ?_) (fun hno => ?_)
  · have hn := (getR hx).1
    unfold ref21_Has_B1
    refine Tot.cond (by simp; omega) (Tot.bind (R := Tells (InS x p)) ?_ fun b hb => Tot.found (by omega) hb fun hr => Tot.ret (Tells.ex (getR hx).2 hr))
    refine Tot.bindeq (idx_some hx) ?_
    refine Tot.bind (Tot.andI (P := x.From ≤ p) (Q := p < x.To) (by simp) fun _ => Tot.bindeq (idx_some hx) (Tot.dec Iff.rfl)) fun c1 h1 => ?_
    refine Tot.bind (Tot.andI (Q := 0 ≤ p) h1 fun _ => Tot.dec Iff.rfl) fun c2 h2 => ?_
    refine Tot.bind (Tot.andI (Q := p < 1099511627776) h2 fun _ => Tot.dec Iff.rfl) fun c3 h3 => Tot.ret (h3.trans ?_)
    unfold InS; simp only [and_assoc]
  · unfold ref21_Has_B1
    exact Tot.ncond (by simp) (Tot.done (Tot.ret (Tells.no fun ⟨s, hs, hr⟩ => hno s hs hr)))

theorem t_IndexFunc (l : List api_Span) (p : Int) (hl : l.length ≤ 1000000000) : Tot (slices_IndexFunc_api_Span_api_Span__span_Has_1 l p) (fun r => (0 ≤ r ↔ ∃ s, s ∈ l ∧ s.From ≤ p ∧ p < s.To)) := by
  unfold slices_IndexFunc_api_Span_api_Span__span_Has_1 slices_IndexFunc_api_Span_api_Span__span_Has_1_L1
  refine Tot.search (l := l) (fun s => s.From ≤ p ∧ p < s.To) (fun n x hx _ => ?_) (fun hno => ?_)
  · have hn := (getR hx).1
    unfold slices_IndexFunc_api_Span_api_Span__span_Has_1_B1
    refine Tot.cond (by simp; omega) (Tot.bindeq (idx_some hx) (Tot.bind (R := Tells (x.From ≤ p ∧ p < x.To)) ?_ fun b hb => Tot.found (by omega) hb fun hr => Tot.ret ⟨fun _ => ⟨x, (getR hx).2, hr⟩, fun _ => by omega⟩))
    unfold span_Has_1
    exact Tot.bind (Tot.bind (Tot.andI (by simp) fun _ => Tot.dec Iff.rfl) fun _ h => Tot.ret h) fun _ h => Tot.ret h
  · unfold slices_IndexFunc_api_Span_api_Span__span_Has_1_B1
    exact Tot.ncond (by simp) (Tot.done (Tot.ret ⟨fun h => by omega, fun ⟨s, hs, hr⟩ => (hno s hs hr).elim⟩))

theorem t_Has (l : List api_Span) (p : Int) (hl : l.length ≤ 1000000000) : Tot (span_Has l p) (Tells (In l p)) := by
  unfold span_Has
  refine Tot.bind (R := Tells ((0 ≤ p ∧ p < 1099511627776) ∧ ∃ s, s ∈ l ∧ s.From ≤ p ∧ p < s.To)) ?_ fun b hb => Tot.ret (hb.trans ?_)
  · refine Tot.bind (Tot.andI (P := 0 ≤ p) (by simp) fun _ => Tot.dec Iff.rfl) fun c1 h1 => ?_
    refine Tot.bind (Tot.andI h1 fun _ => ?_) fun c2 h2 => Tot.ret h2
    refine Tot.bind (R := Tells (∃ s, s ∈ l ∧ s.From ≤ p ∧ p < s.To)) ?_ fun _ h => Tot.ret h
    unfold slices_ContainsFunc_api_Span_api_Span__span_Has_1
    exact Tot.bind (t_IndexFunc l p hl) fun r hr => Tot.dec (by simpa using hr)
  · unfold In InS
    constructor
    · rintro ⟨⟨h1, h2⟩, s, hs, h3, h4⟩; exact ⟨s, hs, h3, h4, h1, h2⟩
    · rintro ⟨s, hs, h3, h4, h1, h2⟩; exact ⟨⟨h1, h2⟩, s, hs, h3, h4⟩

theorem t_Same (a b : List api_Span) (hl : a.length ≤ 1000000000) : Tot (ref21_Same a b) (Tells (a = b)) := by
  unfold ref21_Same
  refine Tot.ite (fun h => Tot.ret (Tells.no fun e => ?_)) (fun h => ?_)
  · subst e; simp at h
  · have hlen : a.length = b.length := by simp at h; omega
    unfold ref21_Same_L1
    refine Tot.loop (fun s : Int => ∃ n : Nat, s = n ∧ n ≤ a.length ∧ ∀ j : Nat, j < n → a[j]? = b[j]?) (fun s : Int => a.length - s.toNat) ?_ 0 ⟨0, rfl, by omega, fun j hj => by omega⟩
    rintro s ⟨n, rfl, hn, hno⟩
    unfold ref21_Same_B1
    refine Tot.ite (fun h => ?_) (fun h => ?_)
    · have hlt : n < a.length := by simp at h; omega
      have hx : a[n]? = some a[n] := List.getElem?_eq_getElem hlt
      have hy : b[n]? = some b[n] := List.getElem?_eq_getElem (by omega)
      refine Tot.bindeq (idx_some hx) (Tot.bindeq (idx_some hy) (Tot.ite (fun hne => ?_) (fun he => ?_)))
      · refine Tot.out (Tot.ret (Tells.no fun e => ?_))
        subst e
        simp at hne
      · have he' : a[n] = b[n] := by
          simp at he
          exact span_ext he.1 he.2
        refine Tot.chk (by unfold InI64; omega) (Tot.inl ⟨⟨n + 1, rfl, by omega, fun j hj => ?_⟩, by omega⟩)
        rcases Nat.lt_or_ge j n with h | h
        · exact hno j h
        · have : j = n := by omega
          subst this
          rw [hx, hy, he']
    · have : n = a.length := by simp at h; omega
      subst this
      refine Tot.out (Tot.ret (Tells.yes (List.ext_getElem? fun j => ?_)))
      rcases Nat.lt_or_ge j a.length with h | h
      · exact hno j h
      · rw [List.getElem?_eq_none (by omega), List.getElem?_eq_none (by omega)]

theorem t_Few (l : List api_Span) : Tot (ref21_Few l) (fun r => r = l.take 40) := by
  unfold ref21_Few
  refine Tot.chk (by omega) (Tot.chk (by simp; omega) (Tot.ret ?_))
  rw [List.nil_append]
  rcases Nat.le_total l.length 40 with h | h
  · rw [List.take_of_length_le (l := l) h, List.take_of_length_le (by omega)]
  · congr 1; omega
end Go.Proofs
