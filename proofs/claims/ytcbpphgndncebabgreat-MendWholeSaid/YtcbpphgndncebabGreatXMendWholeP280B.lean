/- Jobs, plain: is a row a queue; a row put in order. No condition. -/
import Derived.Test.YtcbpphgndncebabGreatXMendWholeP280A
namespace Go.Proofs
set_option linter.all false
open Go Go.Cat
theorem Qu_snoc {l : List api_Job} {x : api_Job} : Qu (l ++ [x]) ↔ Qu l ∧ MayJ x ∧ (∀ y, y ∈ l → AheadJ y x) ∧ ∀ y, y ∈ l → ¬ AlikeJ y x := by
 unfold Qu
 rw [List.pairwise_append, List.pairwise_append]
 constructor
 ·rintro ⟨h1, ⟨h2, _, h3⟩, ⟨h4, _, h5⟩⟩
  exact ⟨⟨fun j hj => h1 j (by simp [hj]), h2, h4⟩, h1 x (by simp), fun y hy => h3 y hy x (by simp), fun y hy => h5 y hy x (by simp)⟩
 ·rintro ⟨⟨h1, h2, h4⟩, hx, h3, h5⟩
  refine ⟨fun j hj => ?_, ⟨h2, List.pairwise_singleton _ _, fun a ha b hb => ?_⟩, ⟨h4, List.pairwise_singleton _ _, fun a ha b hb => ?_⟩⟩
  ·rcases List.mem_append.1 hj with hj | hj
   ·exact h1 j hj
   ·rw [List.mem_singleton.1 hj]; exact hx
  ·rw [List.mem_singleton.1 hb]; exact h3 a ha
  ·rw [List.mem_singleton.1 hb]; exact h5 a ha
theorem Qu_step {l : List api_Job} {n : Nat} (h : n < l.length) : Qu (l.take (n + 1)) ↔ Qu (l.take n) ∧ MayJ l[n] ∧ (∀ y, y ∈ l.take n → ¬ AlikeJ y l[n]) ∧ ∀ m : Nat, n = m + 1 → ∀ x, l[m]? = some x → AheadJ x l[n] := by
 rw [List.take_succ_eq_append_getElem h, Qu_snoc]
 constructor
 ·rintro ⟨h1, h2, h3, h4⟩
  refine ⟨h1, h2, h4, fun m hm x hx => h3 x ?_⟩
  have : (l.take n)[m]? = some x := by rw [List.getElem?_take, if_pos (by omega)]; exact hx
  exact (getR this).2
 ·rintro ⟨h1, h2, h4, h3⟩
  refine ⟨h1, h2, fun t ht => ?_, h4⟩
  obtain ⟨j, hj⟩ := memR ht
  have hj' := hj
  rw [List.getElem?_take] at hj
  split at hj
  ·rename_i hjn
   obtain ⟨m, rfl⟩ : ∃ m, n = m + 1 := ⟨n - 1, by omega⟩
   have h5 := h3 m rfl l[m] (getLt (by omega))
   rcases Nat.lt_or_ge j m with hjm | hjm
   ·have hm : (l.take (m + 1))[m]? = some l[m] := by rw [List.getElem?_take, if_pos (by omega)]; exact getLt (by omega)
    have hp := List.pairwise_iff_getElem.1 h1.2.1 j m (getR hj').1 (getR hm).1 hjm
    obtain ⟨_, e1⟩ := List.getElem?_eq_some_iff.1 hj'
    obtain ⟨_, e2⟩ := List.getElem?_eq_some_iff.1 hm
    rw [e1, e2] at hp
    exact AheadJ_trans hp h5
   ·have : j = m := by omega
    subst this
    rw [getLt (by omega)] at hj
    have e := Option.some.inj hj
    rw [← e]; exact h5
  ·cases hj
theorem Qu_bad {l : List api_Job} {n : Nat} (hlt : n < l.length) (ho : Qu (l.take n)) : ((¬ MayJ l[n] ∨ (∃ x, x ∈ l.take n ∧ AlikeJ x l[n])) ∨ (n > 0 ∧ ∃ m : Nat, n = m + 1 ∧ ∃ x, l[m]? = some x ∧ ¬ AheadJ x l[n])) ↔ ¬ Qu (l.take (n + 1)) := by
 rw [Qu_step hlt]
 constructor
 ·rintro ((h | ⟨x, hx, h⟩) | ⟨_, m, hm, x, hx, h⟩) ⟨_, g1, g2, g3⟩
  ·exact h g1
  ·exact g2 x hx h
  ·exact h (g3 m hm x hx)
 ·intro hno
  by_cases g1 : MayJ l[n]
  ·by_cases g2 : ∃ x, x ∈ l.take n ∧ AlikeJ x l[n]
   ·exact .inl (.inr g2)
   ·refine .inr (Classical.byContradiction fun g3 => hno ⟨ho, g1, fun y hy h => g2 ⟨y, hy, h⟩, fun m hm x hx => Classical.byContradiction fun g4 => g3 ⟨by omega, m, hm, x, hx, g4⟩⟩)
  ·exact .inl (.inl g1)
theorem t_RightJ (l : List api_Job) (hl : l.length ≤ 1000000) : Tot (mend_Right l) (Tells (Qu l)) := by
 unfold mend_Right mend_Right_L1
 refine Tot.loop (fun s : Int => ∃ n : Nat, s = n ∧ n ≤ l.length ∧ Qu (l.take n)) (fun s : Int => l.length - s.toNat) ?_ 0 ⟨0, rfl, by omega, by simpa using Qu_nil⟩
 rintro s ⟨n, rfl, hn, ho⟩
 unfold mend_Right_B1
 refine Tot.ite (fun h => ?_) (fun h => ?_)
 ·have hlt : n < l.length := by simp at h; omega
  have ix := idx_some (getLt hlt)
  refine Tot.bindeq ix (Tot.bind (R := Tells (¬ Qu (l.take (n + 1)))) ?_ fun b hb => Tot.ite (fun h => Tot.out (Tot.ret (Tells.no fun ho' => (hb.1 h) (Qu_sub ho' (List.take_sublist _ _))))) (fun h => Tot.chk (by unfold InI64; omega) (Tot.inl ⟨⟨n + 1, rfl, by omega, Classical.byContradiction fun g => h (hb.2 g)⟩, by omega⟩)))
  refine Tot.bind (t_may l[n]) fun b1 h1 => Tot.bind (Tot.orI (Q := ∃ x, x ∈ l.take n ∧ AlikeJ x l[n]) h1.not fun _ => Tot.chk (by omega) ?_) fun b2 h2 => Tot.bind (Tot.orI (Q := n > 0 ∧ ∃ m : Nat, n = m + 1 ∧ ∃ x, l[m]? = some x ∧ ¬ AheadJ x l[n]) h2 fun _ => ?_) fun b3 h3 => Tot.ret (h3.iff (Qu_bad hlt ho))
  ·exact Tot.bind (R := Tells (∃ x, x ∈ l.take n ∧ AlikeJ x l[n])) (t_Contains _ l[n] (by simp; omega)) fun _ h => Tot.ret h
  ·refine Tot.bind (Tot.andI (P := n > 0) (by simp) fun hp => ?_) fun _ h => Tot.ret h
   obtain ⟨m, rfl⟩ : ∃ m, n = m + 1 := ⟨n - 1, by omega⟩
   refine Tot.chk (by unfold InI64; omega) ?_
   rw [show (((m + 1 : Nat) : Int) - 1) = (m : Int) by omega]
   refine Tot.bindeq (idx_some (getLt (by omega))) (Tot.bindeq (t_against _ _) (Tot.dec ⟨fun h => ⟨m, rfl, _, getLt (by omega), fun g => by rw [← agJ_lt] at g; omega⟩, fun ⟨q, hq, x, hx, h⟩ => ?_⟩))
   have : q = m := by omega
   subst this
   rw [getLt (by omega)] at hx
   have e := Option.some.inj hx
   rw [← e, ← agJ_lt] at h; omega
 ·have : n = l.length := by simp at h; omega
  subst this
  rw [List.take_length] at ho
  exact Tot.out (Tot.ret (Tells.yes ho))
theorem t_rRight (l : List api_Job) (hl : l.length ≤ 1000000) : Tot (ref28_Right l) (Tells (Qu l)) := by
 unfold ref28_Right ref28_Right_L1
 refine Tot.loop (fun s : Int => ∃ n : Nat, s = n ∧ n ≤ l.length ∧ Qu (l.take n)) (fun s : Int => l.length - s.toNat) ?_ 0 ⟨0, rfl, by omega, by simpa using Qu_nil⟩
 rintro s ⟨n, rfl, hn, ho⟩
 unfold ref28_Right_B1
 refine Tot.ite (fun h => ?_) (fun h => ?_)
 ·have hlt : n < l.length := by simp at h; omega
  have ix := idx_some (getLt hlt)
  refine Tot.bind (R := Tells (¬ Qu (l.take (n + 1)))) ?_ fun b hb => Tot.ite (fun h => Tot.out (Tot.ret (Tells.no fun ho' => (hb.1 h) (Qu_sub ho' (List.take_sublist _ _))))) (fun h => Tot.chk (by unfold InI64; omega) (Tot.inl ⟨⟨n + 1, rfl, by omega, Classical.byContradiction fun g => h (hb.2 g)⟩, by omega⟩))
  refine Tot.bindeq ix (Tot.bind (t_rmay l[n]) fun b1 h1 => Tot.bind (Tot.orI (Q := ∃ x, x ∈ l.take n ∧ AlikeJ x l[n]) h1.not fun _ => Tot.chk (by omega) ?_) fun b2 h2 => Tot.bind (Tot.orI (Q := n > 0 ∧ ∃ m : Nat, n = m + 1 ∧ ∃ x, l[m]? = some x ∧ ¬ AheadJ x l[n]) h2 fun _ => ?_) fun b3 h3 => Tot.ret (h3.iff (Qu_bad hlt ho)))
  ·exact Tot.bindeq ix (Tot.bind (t_alike _ l[n] (by simp; omega)) fun r hr => Tot.dec (atJ_ge hr))
  ·refine Tot.bind (Tot.andI (P := n > 0) (by simp) fun hp => ?_) fun _ h => Tot.ret h
   obtain ⟨m, rfl⟩ : ∃ m, n = m + 1 := ⟨n - 1, by omega⟩
   refine Tot.chk (by unfold InI64; omega) ?_
   rw [show (((m + 1 : Nat) : Int) - 1) = (m : Int) by omega]
   refine Tot.bindeq (idx_some (getLt (by omega))) (Tot.bindeq ix (Tot.bind (t_Ahead _ _) fun b hb => Tot.is (hb.not.iff ⟨fun h => ⟨m, rfl, _, getLt (by omega), h⟩, fun ⟨q, hq, x, hx, h⟩ => ?_⟩)))
   have : q = m := by omega
   subst this
   rw [getLt (by omega)] at hx
   have e := Option.some.inj hx
   rw [← e] at h; exact h
 ·have : n = l.length := by simp at h; omega
  subst this
  rw [List.take_length] at ho
  exact Tot.out (Tot.ret (Tells.yes ho))
def newJ (acc : List api_Job) (x : api_Job) : Prop := MayJ x ∧ ¬ ∃ y, y ∈ acc ∧ AlikeJ y x
open Classical in
noncomputable def keepJ (acc : List api_Job) (x : api_Job) : List api_Job := if newJ acc x then acc ++ [x] else acc
noncomputable def filtJ (l : List api_Job) : List api_Job := l.foldl keepJ []
theorem filtJ_snoc (l : List api_Job) (x : api_Job) : filtJ (l ++ [x]) = keepJ (filtJ l) x := by simp [filtJ]
def FOk (l : List api_Job) : Prop := (∀ j, j ∈ l → MayJ j) ∧ l.Pairwise (fun a b => ¬ AlikeJ a b)
theorem AlikeJ_symm {a b : api_Job} (h : AlikeJ a b) : AlikeJ b a := ⟨h.1.symm, h.2.symm⟩
theorem FOk_snoc {l : List api_Job} {x : api_Job} : FOk (l ++ [x]) ↔ FOk l ∧ newJ l x := by
 unfold FOk newJ
 rw [List.pairwise_append]
 constructor
 ·rintro ⟨h1, h2, _, h3⟩
  exact ⟨⟨fun j hj => h1 j (by simp [hj]), h2⟩, h1 x (by simp), fun ⟨y, hy, h⟩ => h3 y hy x (by simp) h⟩
 ·rintro ⟨⟨h1, h2⟩, hx, h3⟩
  refine ⟨fun j hj => ?_, h2, List.pairwise_singleton _ _, fun a ha b hb h => ?_⟩
  ·rcases List.mem_append.1 hj with hj | hj
   ·exact h1 j hj
   ·rw [List.mem_singleton.1 hj]; exact hx
  ·rw [List.mem_singleton.1 hb] at h; exact h3 ⟨a, ha, h⟩
theorem FOk_perm {a b : List api_Job} (h : a.Perm b) (ha : FOk a) : FOk b := ⟨fun j hj => ha.1 j (h.mem_iff.2 hj), h.pairwise ha.2 fun hx g => hx (AlikeJ_symm g)⟩
theorem rev_ind {P : List api_Job → Prop} (h0 : P []) (h1 : ∀ l x, P l → P (l ++ [x])) (l : List api_Job) : P l := by
 have : ∀ n (l : List api_Job), l.length = n → P l := by
  intro n
  induction n with
  | zero => intro l hl; rw [List.length_eq_zero_iff.1 hl]; exact h0
  | succ n ih =>
   intro l hl
   have hne : l ≠ [] := fun e => by rw [e] at hl; simp at hl
   rw [← List.dropLast_concat_getLast hne]
   exact h1 _ _ (ih _ (by simp; omega))
 exact this _ l rfl
theorem filtJ_ok (l : List api_Job) : FOk (filtJ l) ∧ (filtJ l).length ≤ l.length := by
 induction l using rev_ind with
 | h0 => exact ⟨⟨fun _ h => (by cases h), List.Pairwise.nil⟩, Nat.le_refl _⟩
 | h1 l x ih =>
  rw [filtJ_snoc]
  unfold keepJ
  split
  ·exact ⟨FOk_snoc.2 ⟨ih.1, ‹_›⟩, by simp; omega⟩
  ·exact ⟨ih.1, by simp; omega⟩
theorem filtJ_id (l : List api_Job) (h : FOk l) : filtJ l = l := by
 induction l using rev_ind with
 | h0 => rfl
 | h1 l x ih =>
  obtain ⟨h1, h2⟩ := FOk_snoc.1 h
  rw [filtJ_snoc, ih h1]
  unfold keepJ
  rw [if_pos h2]
theorem FOk_sort {a l : List api_Job} (ha : FOk a) (hp : l.Perm a) (hs : l.Pairwise fun x y => ¬ agJ y x < 0) : Qu l := by
 have hl := FOk_perm hp.symm ha
 refine ⟨hl.1, ?_, hl.2⟩
 have := List.pairwise_and_iff.2 ⟨hl.2, hs⟩
 exact this.imp fun ⟨h1, h2⟩ => AheadJ_tri h1 (by rw [← agJ_lt]; exact h2)
theorem t_Order (l : List api_Job) (hl : l.length ≤ 100000) : Tot (mend_Order l) (fun r => r.Perm (filtJ l) ∧ Qu r) := by
 unfold mend_Order mend_Order_L1
 refine Tot.bind (R := (· = filtJ l)) ?_ fun v hv => ?_
 ·refine Tot.loop (fun s : Int × List api_Job => ∃ n : Nat, s.1 = n ∧ n ≤ l.length ∧ s.2 = filtJ (l.take n)) (fun s => l.length - s.1.toNat) ?_ (0, []) ⟨0, rfl, by omega, rfl⟩
  rintro ⟨s, o⟩ ⟨n, h, hn, ho⟩
  dsimp only at h ho
  subst h ho
  have hfl := (filtJ_ok (l.take n)).2
  have hfl' : (l.take n).length ≤ l.length := by simp; omega
  unfold mend_Order_B1
  refine Tot.ite (fun h => ?_) (fun h => ?_)
  ·have hlt : n < l.length := by simp at h; omega
   refine Tot.bind (R := (· = filtJ (l.take (n + 1)))) ?_ fun v hv => Tot.chk (by unfold InI64; dsimp only; omega) (Tot.inl ⟨⟨n + 1, rfl, by omega, hv⟩, by dsimp only; omega⟩)
   rw [List.take_succ_eq_append_getElem hlt, filtJ_snoc]
   refine Tot.bindeq (idx_some (getLt hlt)) (Tot.bind (R := Tells (newJ (filtJ (l.take n)) l[n])) ?_ fun b hb => ?_)
   ·exact Tot.bind (t_may l[n]) fun b hb => Tot.bind (Tot.andI hb fun _ => Tot.bind (R := Tells (∃ x, x ∈ filtJ (l.take n) ∧ AlikeJ x l[n])) (t_Contains _ l[n] (by dsimp only; omega)) fun _ h => Tot.ret h.not) fun _ h => Tot.ret h
   ·unfold keepJ
    refine Tot.ite (fun h => Tot.chk (by simp; omega) (Tot.ret ?_)) (fun h => Tot.ret ?_)
    ·rw [if_pos (hb.1 h)]
    ·rw [if_neg (fun g => h (hb.2 g))]
  ·have : n = l.length := by simp at h; omega
   subst this
   exact Tot.out (Tot.ret (by rw [List.take_length]))
 ·subst hv
  have hf := filtJ_ok l
  obtain ⟨r, hr, hp, hs⟩ := sortF_ok t_cmpJ (l := filtJ l) (by omega)
  exact Tot.bindeq hr (Tot.ret ⟨hp, FOk_sort hf.1 hp hs⟩)
theorem order_uniq {f a b : List api_Job} (ha : a.Perm f ∧ Qu a) (hb : b.Perm f ∧ Qu b) : a = b := ahead_uniq (ha.1.trans hb.1.symm) ha.2.2.1 hb.2.2.1
end Go.Proofs
