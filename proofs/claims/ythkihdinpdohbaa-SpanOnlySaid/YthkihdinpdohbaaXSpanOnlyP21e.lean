/- Spans, plain: sizes; what the reference tells; the laws. No condition. -/
import Derived.Test.YthkihdinpdohbaaXSpanOnlyP21d
namespace Go.Proofs
set_option linter.all false
open Go Go.Cat

theorem t_rAdd (a b : List api_Span) (ha : a.length ≤ 2000) (hb : b.length ≤ 2000) : Tot (ref21_Add a b) (fun r => OrdS r ∧ (∀ p, In r p ↔ opP 1 (In a p) (In b p)) ∧ r.length ≤ 2 * (a.length + b.length) + 2) := Tot.bind (t_rof a b 1 ha hb) fun _ h => Tot.ret h
theorem t_rCut (a b : List api_Span) (ha : a.length ≤ 2000) (hb : b.length ≤ 2000) : Tot (ref21_Cut a b) (fun r => OrdS r ∧ (∀ p, In r p ↔ opP 2 (In a p) (In b p)) ∧ r.length ≤ 2 * (a.length + b.length) + 2) := Tot.bind (t_rof a b 2 ha hb) fun _ h => Tot.ret h
theorem t_rMeet (a b : List api_Span) (ha : a.length ≤ 2000) (hb : b.length ≤ 2000) : Tot (ref21_Meet a b) (fun r => OrdS r ∧ (∀ p, In r p ↔ opP 3 (In a p) (In b p)) ∧ r.length ≤ 2 * (a.length + b.length) + 2) := Tot.bind (t_rof a b 3 ha hb) fun _ h => Tot.ret h
theorem t_rNorm (a : List api_Span) (ha : a.length ≤ 2000) : Tot (ref21_Norm a) (fun r => OrdS r ∧ (∀ p, In r p ↔ opP 1 (In a p) (In [] p)) ∧ r.length ≤ 2 * (a.length + 0) + 2) := Tot.bind (t_rof a [] 1 ha (by decide)) fun _ h => Tot.ret h

theorem of_uniq {how : Int} {a b r s : List api_Span} {n m : Nat} (h : OrdS r ∧ (∀ p, In r p ↔ opP how (In a p) (In b p)) ∧ r.length ≤ n) (h' : OrdS s ∧ (∀ p, In s p ↔ opP how (In a p) (In b p)) ∧ s.length ≤ m) : r = s :=
  OrdS_uniq h.1 h'.1 fun p => (h.2.1 p).trans (h'.2.1 p).symm

theorem sizeL_take {l : List api_Span} {n : Nat} (h : n < l.length) : sizeL (l.take (n + 1)) = sizeL (l.take n) + (l[n].To - l[n].From) := by
  unfold sizeL; rw [List.take_succ_eq_append_getElem h, List.map_append, List.sum_append]; rw [List.map_cons, List.map_nil, List.sum_cons, List.sum_nil, Int.add_zero]
theorem OrdS_sub {a b : List api_Span} (h : OrdS b) (hs : a.Sublist b) : OrdS a := ⟨fun s hm => h.1 s (hs.subset hm), h.2.sublist hs⟩

theorem t_Size_loop (r : List api_Span) (hr : OrdS r) (hl : r.length ≤ 100000) : Tot (span_Size_L1 r (0, 0)) (· = sizeL r) := by
  unfold span_Size_L1
  refine Tot.loop (fun s : Int × Int => ∃ n : Nat, s.2 = n ∧ n ≤ r.length ∧ s.1 = sizeL (r.take n)) (fun s => r.length - s.2.toNat) ?_ (0, 0) ⟨0, rfl, by omega, rfl⟩
  rintro ⟨o, s⟩ ⟨n, h, hn, ho⟩
  dsimp only at h ho
  subst h ho
  unfold span_Size_B1
  refine Tot.ite (fun h => ?_) (fun h => ?_)
  · have hlt : n < r.length := by simp at h; omega
    have hb := sizeL_bnd (OrdS_sub hr (List.take_sublist (n + 1) r))
    have hb' := sizeL_bnd (OrdS_sub hr (List.take_sublist n r))
    rw [sizeL_take hlt] at hb
    have hok := hr.1 _ (List.getElem_mem hlt)
    unfold okS at hok
    exact Tot.bindeq (idx_some (getLt hlt)) (Tot.chk (by unfold InI64; omega) (Tot.chk (by unfold InI64; dsimp only; omega) (Tot.chk (by unfold InI64; dsimp only; omega) (Tot.inl ⟨⟨n + 1, rfl, by omega, (sizeL_take hlt).symm⟩, by dsimp only; omega⟩))))
  · have : n = r.length := by simp at h; omega
    subst this
    exact Tot.out (Tot.ret (by rw [List.take_length]))
theorem t_Size (a : List api_Span) (ha : a.length ≤ 5000) : Tot (span_Size a) (fun n => ∃ r, IsOf 1 a [] r ∧ n = sizeL r) :=
  Tot.bind (R := fun n => ∃ r, IsOf 1 a [] r ∧ n = sizeL r) (Tot.bind (t_Norm a ha) fun r hr => (t_Size_loop r hr.1 (by have := hr.2.2; simp at this; omega)).mono fun _ h => ⟨r, hr, h⟩) fun _ h => Tot.ret h
theorem t_rSize (a : List api_Span) (ha : a.length ≤ 2000) : Tot (ref21_Size a) (fun n => ∃ r, (OrdS r ∧ (∀ p, In r p ↔ opP 1 (In a p) (In [] p)) ∧ r.length ≤ 2 * (a.length + 0) + 2) ∧ n = sizeL r) := by
  unfold ref21_Size ref21_Size_L1
  refine Tot.bind (t_rNorm a ha) fun r hr0 => Tot.bind (R := (· = sizeL r)) ?_ fun n h => Tot.ret ⟨r, hr0, h⟩
  have hr := hr0.1
  have hlr := hr0.2.2
  refine Tot.loop (fun s : Int × Int => ∃ n : Nat, s.2 = n ∧ n ≤ r.length ∧ s.1 = sizeL (r.take n)) (fun s => r.length - s.2.toNat) ?_ (0, 0) ⟨0, rfl, by omega, rfl⟩
  rintro ⟨o, s⟩ ⟨n, h, hn, ho⟩
  dsimp only at h ho
  subst h ho
  unfold ref21_Size_B1
  refine Tot.ite (fun h => ?_) (fun h => ?_)
  · have hlt : n < r.length := by simp at h; omega
    have hb := sizeL_bnd (OrdS_sub hr (List.take_sublist (n + 1) r))
    have hb' := sizeL_bnd (OrdS_sub hr (List.take_sublist n r))
    have ht := sizeL_take hlt
    rw [ht] at hb
    have hok := hr.1 _ (List.getElem_mem hlt)
    unfold okS at hok
    refine Tot.bindeq (idx_some (getLt hlt)) (Tot.chk (by unfold InI64; dsimp only; omega) (Tot.bindeq (idx_some (getLt hlt)) (Tot.chk (by unfold InI64; dsimp only; omega) (Tot.chk (by unfold InI64; dsimp only; omega) (Tot.inl ⟨⟨n + 1, rfl, by omega, ?_⟩, by dsimp only; omega⟩)))))
    dsimp only
    omega
  · have : n = r.length := by simp at h; omega
    subst this
    exact Tot.out (Tot.ret (by rw [List.take_length]))

/-- What is in either, of one row alone: what is in it. -/
theorem op1_nil {a r : List api_Span} {n : Nat} (h : OrdS r ∧ (∀ p, In r p ↔ opP 1 (In a p) (In [] p)) ∧ r.length ≤ n) (p : Int) : In r p ↔ In a p := by
  rw [h.2.1 p]; simp [opP, In_nil]
theorem op1 {a b r : List api_Span} {n : Nat} (h : OrdS r ∧ (∀ p, In r p ↔ opP 1 (In a p) (In b p)) ∧ r.length ≤ n) (p : Int) : In r p ↔ In a p ∨ In b p := by
  rw [h.2.1 p]; simp [opP]
theorem op2 {a b r : List api_Span} {n : Nat} (h : OrdS r ∧ (∀ p, In r p ↔ opP 2 (In a p) (In b p)) ∧ r.length ≤ n) (p : Int) : In r p ↔ In a p ∧ ¬ In b p := by
  rw [h.2.1 p]; simp [opP]
theorem op3 {a b r : List api_Span} {n : Nat} (h : OrdS r ∧ (∀ p, In r p ↔ opP 3 (In a p) (In b p)) ∧ r.length ≤ n) (p : Int) : In r p ↔ In a p ∧ In b p := by
  rw [h.2.1 p]; simp [opP]

theorem t_all_true {b : Bool} {P : Prop} (h : Tells P b) (hp : P) : b = true := h.2 hp

theorem sp_mem1 (f t p : Int) (l : List api_Span) : In (⟨f, t⟩ :: l) p ↔ (f ≤ p ∧ p < t ∧ 0 ≤ p ∧ p < 1099511627776) ∨ In l p := In_cons

theorem p_head : law21_head = some true := by
  refine Tot.eq (Tot.mono (Q := Tells True) ?_ fun b h => h.2 trivial)
  unfold law21_head
  have ords : ∀ f t : Int, 0 ≤ f → f < t → t ≤ 1099511627776 → OrdS [⟨f, t⟩] := fun f t h1 h2 h3 => OrdS_cons.2 ⟨⟨h1, h2, h3⟩, fun _ h => (by cases h), OrdS_nil⟩
  refine Tot.bind (R := Tells True) ?_ fun _ h => Tot.ret h
  refine Tot.bind (t_Norm _ (by simp)) fun x1 h1 => ?_
  have e1 : x1 = [⟨1, 5⟩] := OrdS_uniq h1.1 (ords 1 5 (by omega) (by omega) (by omega)) fun p => by rw [op1_nil h1]; simp only [sp_mem1, In_nil, or_false]; omega
  refine Tot.bind (t_Same _ _ (by rw [e1]; simp)) fun x2 h2 => ?_
  refine Tot.bind (Tot.andI (Q := True) h2 fun _ => Tot.bind (t_Cut _ _ (by simp) (by simp)) fun x3 h3 => Tot.bind (t_Same _ _ (by have := h3.2.2; simp at this; omega)) fun x4 h4 => Tot.ret (h4.iff (iff_true_intro ?_))) fun c1 hc1 => ?_
  · refine OrdS_uniq h3.1 (OrdS_cons.2 ⟨⟨by dsimp only; omega, by dsimp only; omega, by dsimp only; omega⟩, fun t ht => ?_, ords 5 10 (by omega) (by omega) (by omega)⟩) fun p => ?_
    · rw [List.mem_singleton.1 ht]; dsimp only; omega
    · rw [op2 h3]; simp only [sp_mem1, In_nil, or_false]; omega
  refine Tot.bind (Tot.andI (Q := True) hc1 fun _ => Tot.bind (t_Meet _ _ (by simp) (by simp)) fun x3 h3 => Tot.bind (t_Same _ _ (by have := h3.2.2; simp at this; omega)) fun x4 h4 => Tot.ret (h4.iff (iff_true_intro ?_))) fun c2 hc2 => ?_
  · refine OrdS_uniq h3.1 (OrdS_cons.2 ⟨⟨by dsimp only; omega, by dsimp only; omega, by dsimp only; omega⟩, fun t ht => ?_, ords 6 7 (by omega) (by omega) (by omega)⟩) fun p => ?_
    · rw [List.mem_singleton.1 ht]; dsimp only; omega
    · rw [op3 h3]; simp only [sp_mem1, In_nil, or_false]; omega
  refine Tot.bind (Tot.andI (Q := True) hc2 fun _ => Tot.bind (t_Add _ _ (by simp) (by simp)) fun x3 h3 => Tot.bind (t_Same _ _ (by have := h3.2.2; simp at this; omega)) fun x4 h4 => Tot.ret (h4.iff (iff_true_intro ?_))) fun c3 hc3 => ?_
  · refine OrdS_uniq h3.1 (ords 0 8 (by omega) (by omega) (by omega)) fun p => ?_
    rw [op1 h3]; simp only [sp_mem1, In_nil, or_false]; omega
  refine Tot.bind (Tot.andI (Q := True) hc3 fun _ => Tot.bind (t_Has _ _ (by simp)) fun x4 h4 => Tot.ret (h4.iff (iff_true_intro (by simp only [sp_mem1, In_nil, or_false]; omega)))) fun c4 hc4 => ?_
  refine Tot.bind (Tot.andI (Q := True) hc4 fun _ => Tot.bind (t_Has _ _ (by simp)) fun x4 h4 => Tot.ret (h4.not.iff (iff_true_intro (by simp only [sp_mem1, In_nil, or_false]; omega)))) fun c5 hc5 => ?_
  refine Tot.bind (Tot.andI (Q := True) hc5 fun _ => Tot.bind (t_Has _ _ (by simp)) fun x4 h4 => Tot.ret (h4.not.iff (iff_true_intro (by simp only [sp_mem1, In_nil, or_false]; omega)))) fun c6 hc6 => ?_
  refine Tot.bind (Tot.andI (Q := True) hc6 fun _ => Tot.bind (t_Size _ (by simp)) fun n ⟨r, hr, hn⟩ => Tot.is ?_) fun c7 hc7 => Tot.ret (hc7.iff (iff_true_intro ?_))
  · have e : r = [⟨1, 5⟩] := OrdS_uniq hr.1 (ords 1 5 (by omega) (by omega) (by omega)) fun p => by rw [op1_nil hr]; simp only [sp_mem1, In_nil, or_false]; omega
    subst e
    subst hn
    exact iff_true_intro rfl
  · exact ⟨⟨⟨⟨⟨⟨⟨e1, trivial⟩, trivial⟩, trivial⟩, trivial⟩, trivial⟩, trivial⟩, trivial⟩

theorem few_len (x : List api_Span) : (x.take 40).length ≤ 40 := by simp; omega

theorem l_SpanTells (x y : List api_Span) (at_ : Int) : law21_SpanTells x y at_ = some true := by
  refine Tot.eq (Tot.mono (Q := Tells True) ?_ fun b h => h.2 trivial)
  unfold law21_SpanTells
  refine Tot.bindeq p_head (Tot.bind (t_Few x) fun a ea => Tot.bind (t_Few y) fun b eb => ?_)
  have la : a.length ≤ 40 := by rw [ea]; exact few_len x
  have lb : b.length ≤ 40 := by rw [eb]; exact few_len y
  clear ea eb
  refine Tot.bind (R := Tells True) ?_ fun _ h => Tot.ret h
  refine Tot.bind (Tot.andI (P := True) (Q := True) (by simp) fun _ => Tot.bind (t_Norm a (by omega)) fun r h => Tot.bind (t_rNorm a (by omega)) fun s h' => Tot.bind (t_Same r s (by have := h.2.2; simp at this; omega)) fun _ h2 => Tot.ret (h2.iff (iff_true_intro (of_uniq h h')))) fun c1 h1 => ?_
  refine Tot.bind (Tot.andI (Q := True) h1 fun _ => Tot.bind (t_Add a b (by omega) (by omega)) fun r h => Tot.bind (t_rAdd a b (by omega) (by omega)) fun s h' => Tot.bind (t_Same r s (by have := h.2.2; omega)) fun _ h2 => Tot.ret (h2.iff (iff_true_intro (of_uniq h h')))) fun c2 h2 => ?_
  refine Tot.bind (Tot.andI (Q := True) h2 fun _ => Tot.bind (t_Cut a b (by omega) (by omega)) fun r h => Tot.bind (t_rCut a b (by omega) (by omega)) fun s h' => Tot.bind (t_Same r s (by have := h.2.2; omega)) fun _ h2 => Tot.ret (h2.iff (iff_true_intro (of_uniq h h')))) fun c3 h3 => ?_
  refine Tot.bind (Tot.andI (Q := True) h3 fun _ => Tot.bind (t_Meet a b (by omega) (by omega)) fun r h => Tot.bind (t_rMeet a b (by omega) (by omega)) fun s h' => Tot.bind (t_Same r s (by have := h.2.2; omega)) fun _ h2 => Tot.ret (h2.iff (iff_true_intro (of_uniq h h')))) fun c4 h4 => ?_
  refine Tot.bind (Tot.andI (Q := True) h4 fun _ => Tot.bind (t_Has a at_ (by omega)) fun u h => Tot.bind (t_rHas a at_ (by omega)) fun v h' => Tot.ret ((h.beq h').iff (by simp))) fun c5 h5 => ?_
  refine Tot.bind (Tot.andI (Q := True) h5 fun _ => Tot.bind (t_Size a (by omega)) fun u ⟨r, h, e⟩ => Tot.bind (t_rSize a (by omega)) fun v ⟨s, h', e'⟩ => Tot.is ?_) fun c6 h6 => Tot.ret (h6.iff (by simp))
  subst e e'
  rw [of_uniq h h']
  simp
end Go.Proofs
