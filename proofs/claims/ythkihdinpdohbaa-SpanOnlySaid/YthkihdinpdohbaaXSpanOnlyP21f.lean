/- Spans, plain: order; a place about the bounds. No condition. -/
import Derived.Test.YthkihdinpdohbaaXSpanOnlyP21e
import Derived.IntWalk
namespace Go.Proofs
set_option linter.all false
open Go Go.Cat

theorem wrapi {n : Int} (h : InI64 n) : IntKind.i64.wrap n = n := IntWalk.i64_in _ h

theorem t_near (l : List api_Span) (at_ : Int) (hl : l.length ≤ 100) : Tot (law21_near l at_) (fun _ => True) := by
  unfold law21_near
  refine Tot.ite (fun _ => Tot.ret trivial) (fun h => ?_)
  have hpos : 0 < l.length := by simp at h; exact List.length_pos_iff.2 h
  have hN : IntKind.i64.wrap (6 * (l.length : Int)) = 6 * l.length := wrapi (by unfold InI64; omega)
  rw [hN]
  generalize hM : (6 * (l.length : Int)) = N
  have hNp : 0 < N := by omega
  have h1 := Int.tmod_lt_of_pos at_ hNp
  have h2 := Int.lt_tmod_of_pos at_ hNp
  have hw : IntKind.i64.wrap (Int.tmod at_ N + N) = Int.tmod at_ N + N := wrapi (by unfold InI64; omega)
  rw [hw]
  generalize hkk : Int.tmod at_ N + N = k0
  have hk0 : 0 ≤ k0 := by omega
  have h3 := Int.tmod_lt_of_pos k0 hNp
  have h4 : 0 ≤ Int.tmod k0 N := Int.tmod_nonneg N hk0
  generalize Int.tmod k0 N = k at *
  have hq : quoK .i64 k 6 = k / 6 := by
    unfold quoK; rw [Int.tdiv_eq_ediv_of_nonneg h4]; exact wrapi (by unfold InI64; omega)
  rw [hq]
  refine Tot.chk (by omega) (Tot.chk (by omega) (Tot.bind (Tot.idx (Q := fun _ => True) (by omega) (by omega) fun _ _ => trivial) fun x _ => Tot.ite (fun _ => Tot.ret trivial) (fun _ => Tot.ret trivial)))

theorem OrdS_step {l : List api_Span} {n : Nat} (h : n < l.length) : OrdS (l.take (n + 1)) ↔ OrdS (l.take n) ∧ okS l[n] ∧ ∀ m : Nat, n = m + 1 → ∀ x, l[m]? = some x → x.To < l[n].From := by
  rw [List.take_succ_eq_append_getElem h, OrdS_snoc]
  constructor
  · rintro ⟨h1, h2, h3⟩
    refine ⟨h1, h2, fun m hm x hx => h3 x ?_⟩
    have : (l.take n)[m]? = some x := by rw [List.getElem?_take, if_pos (by omega)]; exact hx
    exact (getR this).2
  · rintro ⟨h1, h2, h3⟩
    refine ⟨h1, h2, fun t ht => ?_⟩
    obtain ⟨j, hj⟩ := memR ht
    have hj' := hj
    rw [List.getElem?_take] at hj
    split at hj
    · rename_i hjn
      obtain ⟨m, rfl⟩ : ∃ m, n = m + 1 := ⟨n - 1, by omega⟩
      rcases Nat.lt_or_ge j m with hjm | hjm
      · have hm : (l.take (m + 1))[m]? = some l[m] := by rw [List.getElem?_take, if_pos (by omega)]; exact getLt (by omega)
        have hp := List.pairwise_iff_getElem.1 h1.2 j m (getR hj').1 (getR hm).1 hjm
        obtain ⟨_, e1⟩ := List.getElem?_eq_some_iff.1 hj'
        obtain ⟨_, e2⟩ := List.getElem?_eq_some_iff.1 hm
        rw [e1, e2] at hp
        have h4 := h1.1 l[m] (getR hm).2
        have h5 := h3 m rfl l[m] (getLt (by omega))
        unfold okS at h4
        omega
      · have : j = m := by omega
        subst this
        exact h3 j rfl t hj
    · cases hj

theorem t_Ordered (l : List api_Span) (hl : l.length ≤ 1000000000) : Tot (ref21_Ordered l) (Tells (OrdS l)) := by
  unfold ref21_Ordered ref21_Ordered_L1
  refine Tot.loop (fun s : Int => ∃ n : Nat, s = n ∧ n ≤ l.length ∧ OrdS (l.take n)) (fun s : Int => l.length - s.toNat) ?_ 0 ⟨0, rfl, by omega, by simpa using OrdS_nil⟩
  rintro s ⟨n, rfl, hn, ho⟩
  unfold ref21_Ordered_B1
  refine Tot.ite (fun h => ?_) (fun h => ?_)
  · have hlt : n < l.length := by simp at h; omega
    have ix := idx_some (getLt hlt)
    refine Tot.bind (R := Tells (¬ OrdS (l.take (n + 1)))) ?_ fun b hb => Tot.ite (fun h => Tot.out (Tot.ret (Tells.no fun ho' => (hb.1 h) (OrdS_sub ho' (List.take_sublist _ _))))) (fun h => Tot.chk (by unfold InI64; omega) (Tot.inl ⟨⟨n + 1, rfl, by omega, ?_⟩, by omega⟩))
    · refine Tot.bindeq ix (Tot.bind (Tot.orI (P := l[n].From < 0) (Q := l[n].To > 1099511627776) (by simp) fun _ => Tot.bindeq ix (Tot.dec Iff.rfl)) fun c1 h1 => ?_)
      refine Tot.bind (Tot.orI (Q := l[n].From ≥ l[n].To) h1 fun _ => Tot.bindeq ix (Tot.bindeq ix (Tot.dec Iff.rfl))) fun c2 h2 => ?_
      refine Tot.bind (Tot.orI (Q := ∃ m : Nat, n = m + 1 ∧ ∃ x, l[m]? = some x ∧ l[n].From ≤ x.To) h2 fun _ => ?_) fun c3 h3 => Tot.ret (h3.iff ?_)
      · refine Tot.bind (R := Tells ((n : Int) > 0 ∧ ∃ m : Nat, n = m + 1 ∧ ∃ x, l[m]? = some x ∧ l[n].From ≤ x.To)) (Tot.andI (by simp) fun hp => ?_) fun c hc => Tot.ret (hc.iff ⟨fun h => h.2, fun h => ⟨by obtain ⟨m, hm, _⟩ := h; omega, h⟩⟩)
        obtain ⟨m, rfl⟩ : ∃ m, n = m + 1 := ⟨n - 1, by omega⟩
        refine Tot.bindeq ix (Tot.chk (by unfold InI64; omega) ?_)
        rw [show (((m + 1 : Nat) : Int) - 1) = (m : Int) by omega]
        refine Tot.bindeq (idx_some (getLt (by omega))) (Tot.dec ⟨fun h => ⟨m, rfl, _, getLt (by omega), h⟩, fun ⟨q, hq, x, hx, h⟩ => ?_⟩)
        have : q = m := by omega
        subst this
        rw [getLt (by omega)] at hx
        have e := Option.some.inj hx
        rw [← e] at h; exact h
      · rw [OrdS_step hlt]
        unfold okS
        constructor
        · rintro (((h | h) | h) | ⟨m, hm, x, hx, h⟩) ⟨_, g, g'⟩
          · omega
          · omega
          · omega
          · have := g' m hm x hx; omega
        · intro hno
          by_cases g1 : l[n].From < 0
          · exact .inl (.inl (.inl g1))
          by_cases g2 : l[n].To > 1099511627776
          · exact .inl (.inl (.inr g2))
          by_cases g3 : l[n].From ≥ l[n].To
          · exact .inl (.inr g3)
          refine .inr (Classical.byContradiction fun g4 => hno ⟨ho, by omega, fun m hm x hx => ?_⟩)
          rcases Int.lt_or_le x.To l[n].From with h | h
          · exact h
          · exact (g4 ⟨m, hm, x, hx, h⟩).elim
    · exact Classical.byContradiction fun g => h (hb.2 g)
  · have : n = l.length := by simp at h; omega
    subst this
    rw [List.take_length] at ho
    exact Tot.out (Tot.ret (Tells.yes ho))

theorem t_back (l : List api_Span) (hl : l.length ≤ 1000) : Tot (law21_SpanOrder_L1 l ((l.length : Int) - 1, [])) (· = l.reverse) := by
  unfold law21_SpanOrder_L1
  refine Tot.loop (fun s : Int × List api_Span => ∃ n : Nat, s.1 = (n : Int) - 1 ∧ n ≤ l.length ∧ s.2 = (l.drop n).reverse) (fun s => (s.1 + 1).toNat) ?_ _ ⟨l.length, rfl, Nat.le_refl _, by simp⟩
  rintro ⟨s, o⟩ ⟨n, h, hn, ho⟩
  dsimp only at h ho
  subst h ho
  unfold law21_SpanOrder_B1
  refine Tot.ite (fun h => ?_) (fun h => ?_)
  · obtain ⟨m, rfl⟩ : ∃ m, n = m + 1 := ⟨n - 1, by simp at h; omega⟩
    have e : ((m + 1 : Nat) : Int) - 1 = (m : Int) := by omega
    rw [e]
    refine Tot.bindeq (idx_some (getLt (by omega))) (Tot.chk (by simp; omega) (Tot.chk (by unfold InI64; dsimp only; omega) (Tot.inl ⟨⟨m, rfl, by omega, ?_⟩, by dsimp only; omega⟩)))
    dsimp only
    rw [List.drop_eq_getElem_cons (show m < l.length by omega), List.reverse_cons]
  · have : n = 0 := by simp at h; omega
    subst this
    exact Tot.out (Tot.ret (by simp))

theorem In_rev (l : List api_Span) (p : Int) : In l.reverse p ↔ In l p := In_perm (List.reverse_perm l) p
end Go.Proofs
