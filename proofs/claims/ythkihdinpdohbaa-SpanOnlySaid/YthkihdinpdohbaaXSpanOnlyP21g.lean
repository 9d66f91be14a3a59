/- Spans, plain: the laws of places, order, sets, sizes. No condition. -/
import Derived.Test.YthkihdinpdohbaaXSpanOnlyP21f
namespace Go.Proofs
set_option linter.all false
open Go Go.Cat

theorem l_SpanPlaces (x y : List api_Span) (at_ : Int) : law21_SpanPlaces x y at_ = some true := by
  refine Tot.eq (Tot.mono (Q := Tells True) ?_ fun b h => h.2 trivial)
  unfold law21_SpanPlaces law21_SpanPlaces_L1
  refine Tot.bindeq p_head (Tot.bind (t_Few x) fun a ea => Tot.bind (t_Few y) fun b eb => ?_)
  have la : a.length ≤ 40 := by rw [ea]; exact few_len x
  have lb : b.length ≤ 40 := by rw [eb]; exact few_len y
  clear ea eb
  rw [List.nil_append]
  refine Tot.chk (by simp; omega) (Tot.chk (by omega) (Tot.bind (t_near (a ++ b) at_ (by simp; omega)) fun x4 _ => Tot.bind (t_near a _ (by omega)) fun x5 _ => ?_))
  refine Tot.search (l := [at_, x4, x5]) (fun _ => False) (fun n p hx _ => ?_) (fun _ => ?_)
  · have hn := (getR hx).1
    unfold law21_SpanPlaces_B1
    refine Tot.cond (by simp at hn ⊢; omega) (Tot.bindeq (idx_some hx) (Tot.bind (t_Has a p (by omega)) fun x7 h7 => Tot.bind (t_Has b p (by omega)) fun x8 h8 => ?_))
    refine Tot.bind (R := Tells False) ?_ fun c hc => Tot.found (by simp at hn; omega) hc fun h => h.elim
    refine Tot.bind (t_Norm a (by omega)) fun r hr => Tot.bind (t_Has r p (by have := hr.2.2; simp at this; omega)) fun x10 h10 => ?_
    refine Tot.bind (Tot.orI (P := False) (Q := False) (by rw [(h10.beq h7).2 (op1_nil hr p)]; simp) fun _ => ?_) fun c1 hc1 => ?_
    · refine Tot.bind (t_Add a b (by omega) (by omega)) fun r hr => Tot.bind (t_Has r p (by have := hr.2.2; omega)) fun u hu => Tot.bind (Tot.orI (Q := In b p) h7 fun _ => Tot.ret h8) fun w hw => Tot.is ?_
      rw [(hu.beq hw).2 (op1 hr p)]; simp
    refine Tot.bind (Tot.orI (Q := False) hc1 fun _ => ?_) fun c2 hc2 => ?_
    · refine Tot.bind (t_Cut a b (by omega) (by omega)) fun r hr => Tot.bind (t_Has r p (by have := hr.2.2; omega)) fun u hu => Tot.bind (Tot.andI (Q := ¬ In b p) h7 fun _ => Tot.ret h8.not) fun w hw => Tot.is ?_
      rw [(hu.beq hw).2 (op2 hr p)]; simp
    refine Tot.bind (Tot.orI (Q := False) hc2 fun _ => ?_) fun c3 hc3 => Tot.ret (hc3.iff (by simp))
    · refine Tot.bind (t_Meet a b (by omega) (by omega)) fun r hr => Tot.bind (t_Has r p (by have := hr.2.2; omega)) fun u hu => Tot.bind (Tot.andI (Q := In b p) h7 fun _ => Tot.ret h8) fun w hw => Tot.is ?_
      rw [(hu.beq hw).2 (op3 hr p)]; simp
  · unfold law21_SpanPlaces_B1
    exact Tot.ncond (by simp) (Tot.done (Tot.ret (Tells.yes trivial)))

theorem ord_iff {l : List api_Span} (h : OrdS l) {b : Bool} (hb : Tells (OrdS l) b) : ((!b) = true ↔ False) := by
  rw [hb.2 h]; simp

theorem l_SpanOrder (x y : List api_Span) : law21_SpanOrder x y = some true := by
  refine Tot.eq (Tot.mono (Q := Tells True) ?_ fun b h => h.2 trivial)
  unfold law21_SpanOrder
  refine Tot.bindeq p_head (Tot.bind (t_Few x) fun a ea => Tot.bind (t_Few y) fun b eb => ?_)
  have la : a.length ≤ 40 := by rw [ea]; exact few_len x
  have lb : b.length ≤ 40 := by rw [eb]; exact few_len y
  clear ea eb
  refine Tot.bind (t_Norm a (by omega)) fun n hn => Tot.bind (R := (· = a.reverse)) (Tot.chk (by unfold InI64; omega) (t_back a (by omega))) fun v hv => ?_
  subst hv
  have hln := hn.2.2
  simp only [List.length_nil, Nat.add_zero] at hln
  have lr : a.reverse.length = a.length := List.length_reverse
  rw [List.nil_append]
  refine Tot.chk (by simp; omega) (Tot.chk (by omega) ?_)
  refine Tot.bind (R := Tells False) ?_ fun v2 hc => Tot.ncond hc.1 ?_
  · refine Tot.bind (t_Ordered n (by omega)) fun u hu => Tot.bind (Tot.orI (Q := False) (ord_iff hn.1 hu) fun _ => ?_) fun c1 h1 => ?_
    · exact Tot.bind (t_Add a b (by omega) (by omega)) fun r hr => Tot.bind (t_Ordered r (by have := hr.2.2; omega)) fun u hu => Tot.is (ord_iff hr.1 hu)
    refine Tot.bind (Tot.orI (Q := False) h1 fun _ => Tot.bind (t_Cut a b (by omega) (by omega)) fun r hr => Tot.bind (t_Ordered r (by have := hr.2.2; omega)) fun u hu => Tot.is (ord_iff hr.1 hu)) fun c2 h2 => ?_
    exact Tot.bind (Tot.orI (Q := False) h2 fun _ => Tot.bind (t_Meet a b (by omega) (by omega)) fun r hr => Tot.bind (t_Ordered r (by have := hr.2.2; omega)) fun u hu => Tot.is (ord_iff hr.1 hu)) fun c3 h3 => Tot.ret (h3.iff (by simp))
  · refine Tot.bind (R := Tells True) ?_ fun _ h => Tot.ret h
    have same : ∀ {r : List api_Span}, OrdS r → (∀ p, In r p ↔ In a p) → r.length ≤ 10000 → Tot (ref21_Same r n) (Tells True) := fun {r} h1 h2 h3 => (t_Same r n (by omega)).mono fun _ h => h.iff (iff_true_intro (OrdS_uniq h1 hn.1 fun p => (h2 p).trans (op1_nil hn p).symm))
    refine Tot.bind (Tot.andI (P := True) (Q := True) (by simp) fun _ => Tot.bind (t_Norm n (by omega)) fun r hr => Tot.bind (same hr.1 (fun p => (op1_nil hr p).trans (op1_nil hn p)) (by have := hr.2.2; simp at this; omega)) fun _ h => Tot.ret h) fun c4 h4 => ?_
    refine Tot.bind (Tot.andI (Q := True) h4 fun _ => Tot.bind (t_Norm a.reverse (by omega)) fun r hr => Tot.bind (same hr.1 (fun p => (op1_nil hr p).trans (In_rev a p)) (by have := hr.2.2; simp at this; omega)) fun _ h => Tot.ret h) fun c5 h5 => ?_
    refine Tot.bind (Tot.andI (Q := True) h5 fun _ => Tot.bind (t_Norm (a ++ a.reverse) (by simp; omega)) fun r hr => Tot.bind (same hr.1 (fun p => (op1_nil hr p).trans (by rw [In_append, In_rev, or_self])) (by have := hr.2.2; simp at this; omega)) fun _ h => Tot.ret h) fun c6 h6 => ?_
    refine Tot.bind (Tot.andI (Q := True) h6 fun _ => Tot.bind (t_Add a [] (by omega) (by simp)) fun r hr => Tot.bind (same hr.1 (op1_nil hr) (by have := hr.2.2; simp at this; omega)) fun _ h => Tot.ret h) fun c7 h7 => ?_
    refine Tot.bind (Tot.andI (Q := True) h7 fun _ => Tot.bind (t_Add n a (by omega) (by omega)) fun r hr => Tot.bind (same hr.1 (fun p => (op1 hr p).trans (by rw [op1_nil hn p, or_self])) (by have := hr.2.2; omega)) fun _ h => Tot.ret h) fun c8 h8 => Tot.ret (h8.iff (by simp))

theorem len_pos_iff {l : List api_Span} (h : OrdS l) (hp : ∀ p, ¬ In l p) : (decide ((l.length : Int) > 0) = true ↔ False) := by
  rw [OrdS_empty h hp]; simp

theorem same_no {r s : List api_Span} {b : Bool} (h : Tells (r = s) b) (hr : OrdS r) (hs : OrdS s) (hp : ∀ p, In r p ↔ In s p) : ((!b) = true ↔ False) := by
  rw [h.2 (OrdS_uniq hr hs hp)]; simp

theorem l_SpanSets (x y z : List api_Span) : law21_SpanSets x y z = some true := by
  refine Tot.eq (Tot.mono (Q := Tells True) ?_ fun b h => h.2 trivial)
  unfold law21_SpanSets
  refine Tot.bindeq p_head (Tot.bind (t_Few x) fun a ea => Tot.bind (t_Few y) fun b eb => Tot.bind (t_Few z) fun c ec => ?_)
  have la : a.length ≤ 40 := by rw [ea]; exact few_len x
  have lb : b.length ≤ 40 := by rw [eb]; exact few_len y
  have lc : c.length ≤ 40 := by rw [ec]; exact few_len z
  clear ea eb ec
  refine Tot.bind (t_Cut a b (by omega) (by omega)) fun cu hcu => Tot.bind (t_Meet a b (by omega) (by omega)) fun me hme => ?_
  have lcu := hcu.2.2
  have lme := hme.2.2
  refine Tot.bind (R := Tells False) ?_ fun v2 hc => Tot.ncond hc.1 ?_
  · refine Tot.bind (t_Meet cu me (by omega) (by omega)) fun r hr => Tot.bind (Tot.orI (Q := False) (len_pos_iff hr.1 fun p => ?_) fun _ => ?_) fun c1 h1 => ?_
    · rw [op3 hr, op2 hcu, op3 hme]; rintro ⟨h, h'⟩; exact h.2 h'.2
    · refine Tot.bind (t_Add cu me (by omega) (by omega)) fun r hr => Tot.bind (t_Norm a (by omega)) fun s hs => Tot.bind (t_Same r s (by have := hr.2.2; omega)) fun u hu => Tot.is (same_no hu hr.1 hs.1 fun p => ?_)
      rw [op1 hr, op2 hcu, op3 hme, op1_nil hs]
      exact ⟨fun h => h.elim (·.1) (·.1), fun h => (Classical.em (In b p)).elim (fun hb => .inr ⟨h, hb⟩) fun hb => .inl ⟨h, hb⟩⟩
    · refine Tot.bind (Tot.orI (Q := False) h1 fun _ => Tot.bind (t_Meet cu b (by omega) (by omega)) fun r hr => Tot.is (len_pos_iff hr.1 fun p => ?_)) fun c2 h2 => Tot.ret (h2.iff (by simp))
      rw [op3 hr, op2 hcu]; rintro ⟨h, h'⟩; exact h.2 h'
  refine Tot.bind (R := Tells False) ?_ fun v2 hc => Tot.ncond hc.1 ?_
  · refine Tot.bind (t_Add a b (by omega) (by omega)) fun r hr => Tot.bind (t_Add b a (by omega) (by omega)) fun s hs => Tot.bind (t_Same r s (by have := hr.2.2; omega)) fun u hu => ?_
    refine Tot.bind (Tot.orI (Q := False) (same_no hu hr.1 hs.1 fun p => by rw [op1 hr, op1 hs, or_comm]) fun _ => ?_) fun c3 h3 => ?_
    · exact Tot.bind (t_Meet b a (by omega) (by omega)) fun r hr => Tot.bind (t_Same me r (by omega)) fun u hu => Tot.is (same_no hu hme.1 hr.1 fun p => by rw [op3 hme, op3 hr, and_comm])
    refine Tot.bind (Tot.orI (Q := False) h3 fun _ => Tot.bind (t_Cut a a (by omega) (by omega)) fun r hr => Tot.is (len_pos_iff hr.1 fun p => by rw [op2 hr]; exact fun h => h.2 h.1)) fun c4 h4 => ?_
    refine Tot.bind (Tot.orI (Q := False) h4 fun _ => Tot.bind (t_Meet a a (by omega) (by omega)) fun r hr => Tot.bind (t_Norm a (by omega)) fun s hs => Tot.bind (t_Same r s (by have := hr.2.2; omega)) fun u hu => Tot.is (same_no hu hr.1 hs.1 fun p => by rw [op3 hr, op1_nil hs, and_self])) fun c5 h5 => Tot.ret (h5.iff (by simp))
  · have same : ∀ {r s : List api_Span}, OrdS r → OrdS s → (∀ p, In r p ↔ In s p) → r.length ≤ 10000 → Tot ((ref21_Same r s).bind fun x => some x) (Tells True) := fun {r s} h1 h2 h3 h4 => Tot.bind (t_Same r s (by omega)) fun _ h => Tot.ret (h.iff (iff_true_intro (OrdS_uniq h1 h2 h3)))
    refine Tot.bind (R := Tells True) ?_ fun _ h => Tot.ret h
    refine Tot.bind (Tot.andI (P := True) (Q := True) (by simp) fun _ => Tot.bind (t_Cut cu c (by omega) (by omega)) fun r hr => Tot.bind (t_Add b c (by omega) (by omega)) fun s hs => Tot.bind (t_Cut a s (by omega) (by have := hs.2.2; omega)) fun t ht => same hr.1 ht.1 (fun p => ?_) (by have := hr.2.2; omega)) fun c6 h6 => ?_
    · rw [op2 hr, op2 hcu, op2 ht, op1 hs]
      exact ⟨fun h => ⟨h.1.1, fun g => g.elim h.1.2 h.2⟩, fun h => ⟨⟨h.1, fun g => h.2 (.inl g)⟩, fun g => h.2 (.inr g)⟩⟩
    refine Tot.bind (Tot.andI (Q := True) h6 fun _ => Tot.bind (t_Add a b (by omega) (by omega)) fun r hr => Tot.bind (t_Add r c (by have := hr.2.2; omega) (by omega)) fun s hs => Tot.bind (t_Add b c (by omega) (by omega)) fun t ht => Tot.bind (t_Add a t (by omega) (by have := ht.2.2; omega)) fun w hw => same hs.1 hw.1 (fun p => ?_) (by have := hs.2.2; have := hr.2.2; omega)) fun c7 h7 => ?_
    · rw [op1 hs, op1 hr, op1 hw, op1 ht, or_assoc]
    refine Tot.bind (Tot.andI (Q := True) h7 fun _ => Tot.bind (t_Add b c (by omega) (by omega)) fun r hr => Tot.bind (t_Meet a r (by omega) (by have := hr.2.2; omega)) fun s hs => Tot.bind (t_Meet a c (by omega) (by omega)) fun t ht => Tot.bind (t_Add me t (by omega) (by have := ht.2.2; omega)) fun w hw => same hs.1 hw.1 (fun p => ?_) (by have := hs.2.2; have := hr.2.2; omega)) fun c8 h8 => Tot.ret (h8.iff (by simp))
    rw [op3 hs, op1 hr, op1 hw, op3 hme, op3 ht, and_or_left]

theorem sizeL_one {l : List api_Span} {n : Nat} (h : n < l.length) : sub l (n : Int) ((n : Int) + 1) = [l[n]] := by
  unfold sub
  rw [show ((n : Int) + 1).toNat = n + 1 by omega, Int.toNat_natCast, List.take_succ_eq_append_getElem h]
  exact List.drop_left' (by rw [List.length_take]; omega)

theorem size_norm {a r s : List api_Span} {n m : Nat} (h : OrdS r ∧ (∀ p, In r p ↔ opP 1 (In a p) (In [] p)) ∧ r.length ≤ n) (h' : OrdS s) (hp : ∀ p, In s p ↔ In a p) : r = s :=
  OrdS_uniq h.1 h' fun p => (op1_nil h p).trans (hp p).symm

theorem t_SpanSize_loop (l : List api_Span) (h : OrdS l) (hl : l.length ≤ 10000) : Tot (law21_SpanSize_L1 l (0, 0)) (· = sizeL l) := by
  unfold law21_SpanSize_L1
  refine Tot.loop (fun s : Int × Int => ∃ n : Nat, s.2 = n ∧ n ≤ l.length ∧ s.1 = sizeL (l.take n)) (fun s => l.length - s.2.toNat) ?_ (0, 0) ⟨0, rfl, by omega, rfl⟩
  rintro ⟨o, s⟩ ⟨n, hs, hn, ho⟩
  dsimp only at hs ho
  subst hs ho
  unfold law21_SpanSize_B1
  refine Tot.ite (fun hc => ?_) (fun hc => ?_)
  · have hlt : n < l.length := by simp at hc; omega
    have hok := h.1 _ (List.getElem_mem hlt)
    refine Tot.chk (by unfold InI64; dsimp only; omega) (Tot.chk (by dsimp only; omega) ?_)
    dsimp only
    rw [sizeL_one hlt]
    refine Tot.bind (t_Size [l[n]] (by simp)) fun m ⟨r, hr, hm⟩ => ?_
    have hr1 : r = [l[n]] := OrdS_uniq hr.1 (OrdS_cons.2 ⟨hok, fun _ h => (by cases h), OrdS_nil⟩) (op1_nil hr)
    have hm1 : m = l[n].To - l[n].From := by rw [hm, hr1]; simp [sizeL]
    subst hm1
    have hb := sizeL_bnd (OrdS_sub h (List.take_sublist (n + 1) l))
    have hb' := sizeL_bnd (OrdS_sub h (List.take_sublist n l))
    rw [sizeL_take hlt] at hb
    exact Tot.chk (by unfold InI64; omega) (Tot.chk (by unfold InI64; omega) (Tot.inl ⟨⟨n + 1, rfl, by omega, (sizeL_take hlt).symm⟩, by dsimp only; omega⟩))
  · have : n = l.length := by simp at hc; omega
    subst this
    exact Tot.out (Tot.ret (by rw [List.take_length]))

theorem l_SpanSize (x y : List api_Span) : law21_SpanSize x y = some true := by
  refine Tot.eq (Tot.mono (Q := Tells True) ?_ fun b h => h.2 trivial)
  unfold law21_SpanSize
  refine Tot.bindeq p_head (Tot.bind (t_Few x) fun a ea => Tot.bind (t_Few y) fun b eb => ?_)
  have la : a.length ≤ 40 := by rw [ea]; exact few_len x
  have lb : b.length ≤ 40 := by rw [eb]; exact few_len y
  clear ea eb
  refine Tot.bind (t_Size a (by omega)) fun n ⟨na, hna, en⟩ => Tot.bind (t_Size b (by omega)) fun m ⟨nb, hnb, em⟩ => Tot.bind (t_Meet a b (by omega) (by omega)) fun me hme => Tot.bind (t_Size me (by have := hme.2.2; omega)) fun q ⟨nm, hnm, eq⟩ => ?_
  have e1 : nm = me := OrdS_uniq hnm.1 hme.1 (op1_nil hnm)
  subst e1
  refine Tot.bind (t_Norm a (by omega)) fun l hl => Tot.bind (t_SpanSize_loop l hl.1 (by have := hl.2.2; simp at this; omega)) fun v hv => ?_
  have e2 : l = na := OrdS_uniq hl.1 hna.1 fun p => (op1_nil hl p).trans (op1_nil hna p).symm
  subst e2
  have bn := sizeL_bnd hna.1
  have bm := sizeL_bnd hnb.1
  have bq := sizeL_bnd hme.1
  have hz := sizeL_zero hna.1
  refine Tot.bind (R := Tells True) ?_ fun _ h => Tot.ret h
  refine Tot.bind (Tot.andI (P := True) (Q := True) (by simp) fun _ => Tot.is (by simp; omega)) fun c1 h1 => ?_
  refine Tot.bind (Tot.andI (Q := True) h1 fun _ => Tot.is (by simp; omega)) fun c2 h2 => ?_
  refine Tot.bind (Tot.andI (Q := True) h2 fun _ => Tot.is (by simp; omega)) fun c3 h3 => ?_
  refine Tot.bind (Tot.andI (Q := True) h3 fun _ => Tot.is (iff_true_intro ?_)) fun c4 h4 => ?_
  · rw [en]
    refine beq_iff_eq.2 (Tells.eq (P := sizeL l = 0) (Q := l = []) (by unfold Tells; simp) (by unfold Tells; simp) hz)
  refine Tot.bind (Tot.andI (Q := True) h4 fun _ => Tot.bind (t_Cut a b (by omega) (by omega)) fun r hr => Tot.bind (t_Size r (by have := hr.2.2; omega)) fun k ⟨nr, hnr, ek⟩ => ?_) fun c5 h5 => ?_
  · have e3 : nr = r := OrdS_uniq hnr.1 hr.1 (op1_nil hnr)
    subst e3
    have br := sizeL_bnd hr.1
    have := sizeL_add hr.1 hme.1 hna.1 OrdS_nil (fun p => by
      rw [op2 hr, op3 hme, op1_nil hna]
      exact ⟨fun h => .inl (h.elim (·.1) (·.1)), fun h => h.elim (fun h => (Classical.em (In b p)).elim (fun hb => .inr ⟨h, hb⟩) fun hb => .inl ⟨h, hb⟩) fun h => (In_nil p h).elim⟩) (fun p => by
      rw [op2 hr, op3 hme]
      exact ⟨fun h => (h.1.2 h.2.2).elim, fun h => (In_nil p h.2).elim⟩)
    have h0 : sizeL [] = 0 := rfl
    refine Tot.chk (by unfold InI64; omega) (Tot.is (iff_true_intro (beq_iff_eq.2 (by omega))))
  refine Tot.bind (Tot.andI (Q := True) h5 fun _ => Tot.bind (t_Add a b (by omega) (by omega)) fun r hr => Tot.bind (t_Size r (by have := hr.2.2; omega)) fun k ⟨nr, hnr, ek⟩ => ?_) fun c6 h6 => Tot.ret (h6.iff (by simp))
  have e3 : nr = r := OrdS_uniq hnr.1 hr.1 (op1_nil hnr)
  subst e3
  have br := sizeL_bnd hr.1
  have := sizeL_add hr.1 hme.1 hna.1 hnb.1 (fun p => by
    rw [op1 hr, op3 hme, op1_nil hna, op1_nil hnb]
    exact ⟨fun h => h.elim id fun h => .inl h.1, .inl⟩) (fun p => by
    rw [op1 hr, op3 hme, op1_nil hna, op1_nil hnb]
    exact ⟨fun h => h.2, fun h => ⟨.inl h.1, h⟩⟩)
  refine Tot.chk (by unfold InI64; omega) (Tot.chk (by unfold InI64; omega) (Tot.is (iff_true_intro (beq_iff_eq.2 (by omega)))))

theorem l_SpanOnly (x y : List api_Span) : law21_SpanOnly x y = some true := by
  refine Tot.eq (Tot.mono (Q := Tells True) ?_ fun b h => h.2 trivial)
  unfold law21_SpanOnly
  refine Tot.bindeq p_head (Tot.bind (t_Few x) fun a ea => Tot.bind (t_Few y) fun b eb => ?_)
  have la : a.length ≤ 40 := by rw [ea]; exact few_len x
  have lb : b.length ≤ 40 := by rw [eb]; exact few_len y
  clear ea eb
  refine Tot.bind (t_Norm a (by omega)) fun na hna => Tot.bind (t_Norm b (by omega)) fun nb hnb => Tot.bind (t_Same na nb (by have := hna.2.2; simp at this; omega)) fun s hs => ?_
  have hsame : na = nb ↔ ∀ p, In a p ↔ In b p := ⟨fun e p => by rw [← op1_nil hna p, e, op1_nil hnb p], fun h => OrdS_uniq hna.1 hnb.1 fun p => (op1_nil hna p).trans ((h p).trans (op1_nil hnb p).symm)⟩
  refine Tot.bind (R := Tells True) ?_ fun _ h => Tot.ret h
  refine Tot.bind (Tot.andI (P := True) (Q := True) (by simp) fun _ => Tot.bind (t_Cut a b (by omega) (by omega)) fun r hr => Tot.bind (t_Cut b a (by omega) (by omega)) fun t ht => Tot.chk (by have := hr.2.2; have := ht.2.2; unfold InI64; omega) (Tot.is (iff_true_intro ?_))) fun c1 h1 => ?_
  · refine beq_iff_eq.2 (Tells.eq (Q := r = [] ∧ t = []) hs ?_ (hsame.trans ?_))
    · unfold Tells
      rw [beq_iff_eq]
      constructor
      · intro h; exact ⟨List.length_eq_zero_iff.1 (by omega), List.length_eq_zero_iff.1 (by omega)⟩
      · rintro ⟨rfl, rfl⟩; rfl
    · constructor
      · intro h
        exact ⟨OrdS_empty hr.1 fun p hp => by rw [op2 hr, h p] at hp; exact hp.2 hp.1, OrdS_empty ht.1 fun p hp => by rw [op2 ht, h p] at hp; exact hp.2 hp.1⟩
      · rintro ⟨rfl, rfl⟩ p
        have g1 := op2 hr p
        have g2 := op2 ht p
        have g3 := In_nil p
        exact ⟨fun h => Classical.byContradiction fun g => g3 (g1.2 ⟨h, g⟩), fun h => Classical.byContradiction fun g => g3 (g2.2 ⟨h, g⟩)⟩
  · refine Tot.bind (Tot.andI (Q := True) h1 fun _ => Tot.bind (R := Tells True) (Tot.ite (fun _ => Tot.ret (Tells.yes trivial)) (fun h => ?_)) fun _ h => Tot.ret h) fun c2 h2 => Tot.ret (h2.iff (by simp))
    have he : na = nb := by
      cases s with
      | true => exact hs.1 rfl
      | false => exact (h rfl).elim
    refine Tot.bind (t_Size a (by omega)) fun n ⟨u, hu, eu⟩ => Tot.bind (t_Size b (by omega)) fun m ⟨w, hw, ew⟩ => Tot.is (iff_true_intro (beq_iff_eq.2 ?_))
    have : u = w := OrdS_uniq hu.1 hw.1 fun p => by rw [op1_nil hu, op1_nil hw]; exact hsame.1 he p
    rw [eu, ew, this]
end Go.Proofs
