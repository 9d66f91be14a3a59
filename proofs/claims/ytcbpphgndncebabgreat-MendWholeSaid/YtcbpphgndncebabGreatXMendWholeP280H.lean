/- Mending, plain: behind the rounds all is whole. No condition. -/
import Derived.Test.YtcbpphgndncebabGreatXMendWholeP280G
namespace Go.Proofs
set_option linter.all false
open Go Go.Cat
set_option linter.all false
structure Inv (D : List api_Disk) (ch : List api_Chain) (b : Int) (k : Nat) (a : List api_Disk) (l : List api_Job) : Prop where
 len : a.length = D.length
 small : (planJ a ch).length ≤ 40
 fit : FitL a (160 - (planJ a ch).length)
 st : ∀ c, c ∈ ch → ∀ s, s ∈ c.Servers → standsN a c s = standsN D c s ∨ (standsN a c s = 0 ∧ intactN D c ≠ [] ∧ standsN D c s ≠ 1)
 int : ∀ c, c ∈ ch → (intactN a c = [] ↔ intactN D c = [])
 qu : Qu l
 llen : l.length ≤ 60
 cov : ∀ x, x ∈ l → ∃ j, j ∈ planJ a ch ∧ AlikeJ x j ∧ x.Ver = j.Ver
 w : totJ (renL l (ordN (planJ a ch))) ≤ max (totJ (ordN (planJ D ch)) - (k : Int) * b) 0
theorem key_in {a : List api_Disk} {ch : List api_Chain} (hR : RightL ch) {c : api_Chain} (hc : c ∈ ch) {s : Int} (hs : s ∈ c.Servers) (hne : intactN a c ≠ []) (h0 : standsN a c s ≠ 0) (h1 : standsN a c s ≠ 1) : ∃ j, j ∈ planJ a ch ∧ j.Id = c.Id ∧ j.To = s ∧ j.Ver = c.Ver :=
 ⟨_, mem_plan.2 ⟨c, hc, hne, mem_jobs.2 ⟨s, hs, h0, h1, rfl⟩⟩, rfl, rfl, rfl⟩
theorem renV_of {l : List api_Job} (hl : l.Pairwise fun a b => ¬ AlikeJ a b) {x j : api_Job} (hx : x ∈ l) (ha : AlikeJ x j) (hv : x.Ver = j.Ver) : renV l j ≤ x.Left := by
 unfold renV
 have hf : l.find? (fun y => decide (AlikeJ y j)) = some x := by
  obtain ⟨l1, l2, rfl⟩ := List.append_of_mem hx
  rw [List.find?_append, List.find?_cons]
  have h1 : l1.find? (fun y => decide (AlikeJ y j)) = none := by
   rw [List.find?_eq_none]
   intro y hy h
   have h : AlikeJ y j := of_decide_eq_true h
   rw [List.pairwise_append] at hl
   exact hl.2.2 y hy x (List.mem_cons_self ..) ⟨by have := h.1; have := ha.1; omega, by have := h.2; have := ha.2; omega⟩
  rw [h1, decide_eq_true ha]; rfl
 rw [hf]
 dsimp only
 rw [if_pos hv]; omega
def SameJ4 (y x : api_Job) : Prop := y.Id = x.Id ∧ y.Ver = x.Ver ∧ y.From = x.From ∧ y.To = x.To
theorem JobIn.same {D : List api_Disk} {l : List api_Chain} {y x : api_Job} (h : JobIn D l y) (e : SameJ4 y x) : JobIn D l x := by
 obtain ⟨c, h1, h2, h3, h4, h5, h6, h7⟩ := h.ex
 obtain ⟨e1, e2, e3, e4⟩ := e
 exact ⟨c, h1, by rw [← e1]; exact h2, by rw [← e2]; exact h3, by rw [← e4]; exact h4, by rw [← e3]; exact h5, by rw [← e4]; exact h6, by rw [← e4]; exact h7⟩
theorem step_parts {b : Int} {R : List api_Job} (hR : posL R) : ∃ k : Nat, k = (stepL b R).2.length ∧ (stepL b R).2 = (R.take k).map (setL · 0) ∧
  (∀ x, x ∈ (stepL b R).1 → ∃ y, y ∈ R.drop k ∧ SameJ4 y x) ∧ (∀ y, y ∈ R.drop k → ∃ x, x ∈ (stepL b R).1 ∧ SameJ4 y x) := by
 obtain ⟨k, e1, e2, e3⟩ := step_shape b R hR
 refine ⟨k, e2, e1, ?_⟩
 rcases e3 with ⟨e3, e4⟩ | ⟨j, v, hj, _, _, e4⟩
 ·rw [e4, e3, List.drop_length]
  exact ⟨fun x hx => (by cases hx), fun x hx => (by cases hx)⟩
 ·obtain ⟨hk, ej⟩ := List.getElem?_eq_some_iff.1 hj
  rw [e4, List.drop_eq_getElem_cons hk, ej]
  constructor
  ·intro x hx
   rcases List.mem_cons.1 hx with rfl | hx
   ·exact ⟨j, List.mem_cons_self .., rfl, rfl, rfl, rfl⟩
   ·exact ⟨x, List.mem_cons_of_mem _ hx, rfl, rfl, rfl, rfl⟩
  ·intro y hy
   rcases List.mem_cons.1 hy with rfl | hy
   ·exact ⟨setL y v, List.mem_cons_self .., rfl, rfl, rfl, rfl⟩
   ·exact ⟨y, List.mem_cons_of_mem _ hy, rfl, rfl, rfl, rfl⟩
theorem inv_step {D : List api_Disk} {ch : List api_Chain} {b : Int} {k : Nat} {a : List api_Disk} {l : List api_Job} (hR : RightL ch) (hl : ch.length ≤ 12) (hb : 1 ≤ b) (h : Inv D ch b k a l) :
  Inv D ch b (k + 1) (rndN a ch l b).1 (rndN a ch l b).2.1 := by
 have hA := h.fit.small (by omega)
 have hp60 := plan_60 (D := a) hR hl
 have hO := ord_perm hA hl hR
 obtain ⟨_, _, hqO⟩ := p_Order (l := planJ a ch) (by omega)
 have hqR := renL_Qu (Qu_posL h.qu) hqO
 have hpR := Qu_posL hqR
 have hlR : (renL l (ordN (planJ a ch))).length = (planJ a ch).length := by unfold renL; rw [List.length_map]; exact hO.length_eq
 have hsl := step_len b (renL l (ordN (planJ a ch)))
 have htot := step_tot (b := b) hpR (by omega)
 have hqL := step_Qu (b := b) hqR
 obtain ⟨q, hq, hfin, hl1, hl2⟩ := step_parts (b := b) hpR
 have hw0 := h.w
 have toR : ∀ j, j ∈ planJ a ch → ∃ y, y ∈ renL l (ordN (planJ a ch)) ∧ SameJ4 j y := fun j hj => ⟨setL j (renV l j), List.mem_map.2 ⟨j, hO.mem_iff.2 hj, rfl⟩, rfl, rfl, rfl, rfl⟩
 have ofR : ∀ y, y ∈ renL l (ordN (planJ a ch)) → ∃ j, j ∈ planJ a ch ∧ SameJ4 j y := fun y hy => by
  obtain ⟨j, hj, rfl⟩ := List.mem_map.1 hy
  exact ⟨j, hO.mem_iff.1 hj, rfl, rfl, rfl, rfl⟩
 show Inv D ch b (k + 1) (doN a (stepL b (renL l (ordN (planJ a ch)))).2).1 (stepL b (renL l (ordN (planJ a ch)))).1
 generalize hRR : renL l (ordN (planJ a ch)) = R at *
 generalize hF1 : (stepL b R).2 = fin at *
 generalize hL1 : (stepL b R).1 = left at *
 have hpw := hqR.2.2
 rw [← List.take_append_drop q R, List.pairwise_append] at hpw
 have finJ : ∀ x, x ∈ fin → ∃ y, y ∈ R.take q ∧ SameJ4 y x := fun x hx => by
  rw [hfin] at hx
  obtain ⟨y, hy, rfl⟩ := List.mem_map.1 hx
  exact ⟨y, hy, rfl, rfl, rfl, rfl⟩
 have finIn : ∀ x, x ∈ fin → JobIn a ch x := fun x hx => by
  obtain ⟨y, hy, e⟩ := finJ x hx
  obtain ⟨j, hj, e'⟩ := ofR y (List.mem_of_mem_take hy)
  exact ((job_in hA hR hj).same e').same e
 have finP : fin.Pairwise fun a b => ¬ AlikeJ a b := by
  rw [hfin, List.pairwise_map]; exact hpw.1
 have hmd := do_md h.fit hR fin finIn finP (by omega)
 have hA' := hmd.fit.small (by omega)
 have part := fun {c : api_Chain} (hc : c ∈ ch) {s : Int} (hs : s ∈ c.Servers) => md_part h.fit hR finIn (by omega) hmd hc hs
 generalize (doN a fin).1 = a' at *
 have dec : ∀ c, c ∈ ch → ∀ s, s ∈ c.Servers → (∃ j, j ∈ fin ∧ j.Id = c.Id ∧ j.To = s) ∨ (∀ j, j ∈ fin → ¬ (j.Id = c.Id ∧ j.To = s)) := fun c _ s _ => by
  by_cases e : ∃ j, j ∈ fin ∧ j.Id = c.Id ∧ j.To = s
  ·exact .inl e
  ·exact .inr fun j hj hh => e ⟨j, hj, hh⟩
 have finS : ∀ c, c ∈ ch → ∀ s, (∃ j, j ∈ fin ∧ j.Id = c.Id ∧ j.To = s) → standsN a c s ≠ 0 ∧ standsN a c s ≠ 1 ∧ intactN a c ≠ [] := fun c hc s ⟨j, hj, e1, e2⟩ => by
  obtain ⟨c', hc', k1, k2, k3, k4, k5, k6⟩ := (finIn j hj).ex
  have : c' = c := hR.uniqId hc' hc (by omega)
  subst this
  rw [e2] at k5 k6
  exact ⟨k5, k6, fun e => by rw [e] at k4; cases k4⟩
 have int' : ∀ c, c ∈ ch → (intactN a' c = [] ↔ intactN a c = []) := fun c hc => by
  constructor
  ·intro he
   refine Classical.byContradiction fun hne => ?_
   obtain ⟨s, hs⟩ := List.exists_mem_of_ne_nil _ hne
   obtain ⟨h1, h2⟩ := mem_intact.1 hs
   rcases dec c hc s h1 with hd | hd
   ·exact (finS c hc s hd).1 h2
   ·have := (part hc h1).2 hd
    rw [h2] at this
    have : s ∈ intactN a' c := mem_intact.2 ⟨h1, this⟩
    rw [he] at this; cases this
  ·intro he
   rw [(look_same fun s hs => ?_).2]; exact he
   rcases dec c hc s hs with hd | hd
   ·exact ((finS c hc s hd).2.2 he).elim
   ·exact (part hc hs).2 hd
 have left1 : ∀ j', j' ∈ planJ a' ch → ∃ x, x ∈ left ∧ AlikeJ x j' ∧ x.Ver = j'.Ver := fun j' hj' => by
  obtain ⟨c, hc, hne, hjj⟩ := mem_plan.1 hj'
  obtain ⟨s, hs, g0, g1, rfl⟩ := mem_jobs.1 hjj
  rcases dec c hc s hs with hd | hd
  ·exact (g0 ((part hc hs).1 hd)).elim
  ·have e := (part hc hs).2 hd
   rw [e] at g0 g1
   obtain ⟨j, hj, u1, u2, u3⟩ := key_in hR hc hs (fun e => hne ((int' c hc).2 e)) g0 g1
   obtain ⟨y, hy, v1, v2, v3, v4⟩ := toR j hj
   rw [← List.take_append_drop q R] at hy
   rcases List.mem_append.1 hy with hy | hy
   ·refine (hd (setL y 0) ?_ ⟨by show y.Id = c.Id; omega, by show y.To = s; omega⟩).elim
    rw [hfin]; exact List.mem_map.2 ⟨y, hy, rfl⟩
   ·obtain ⟨x, hx, w1, w2, w3, w4⟩ := hl2 y hy
    exact ⟨x, hx, ⟨by show x.Id = c.Id; omega, by show x.To = s; omega⟩, by show x.Ver = c.Ver; omega⟩
 have left2 : ∀ x, x ∈ left → ∃ j', j' ∈ planJ a' ch ∧ AlikeJ x j' ∧ x.Ver = j'.Ver := fun x hx => by
  obtain ⟨y, hy, w1, w2, w3, w4⟩ := hl1 x hx
  obtain ⟨j, hj, v1, v2, v3, v4⟩ := ofR y (List.mem_of_mem_drop hy)
  obtain ⟨c, hc, k1, k2, k3, k4, k5, k6⟩ := (job_in hA hR hj).ex
  have hno : ∀ z, z ∈ fin → ¬ (z.Id = c.Id ∧ z.To = j.To) := fun z hz ⟨z1, z2⟩ => by
   obtain ⟨y', hy', s1, s2, s3, s4⟩ := finJ z hz
   exact hpw.2.2 y' hy' y hy ⟨by omega, by omega⟩
  have e := (part hc k3).2 hno
  obtain ⟨j', hj', u1, u2, u3⟩ := key_in (a := a') hR hc k3 (fun e => by rw [(int' c hc).1 e] at k4; cases k4) (by rw [e]; exact k5) (by rw [e]; exact k6)
  exact ⟨j', hj', ⟨by omega, by omega⟩, by omega⟩
 have hcount : (planJ a' ch).length ≤ left.length := by
  have := sum_le (v := fun _ => 1) (w := fun _ => 1) (plan_ok hA' hR).2 (l := left) (fun _ _ => by omega) fun j hj => by
   obtain ⟨x, hx, hxa, _⟩ := left1 j hj
   exact ⟨x, hx, hxa, Int.le_refl _⟩
  rw [← len_sum, ← len_sum] at this
  omega
 have hsm := h.small
 refine ⟨by rw [hmd.len]; exact h.len, by omega, hmd.fit.mono (by omega), fun c hc s hs => ?_, fun c hc => (int' c hc).trans (h.int c hc), hqL, by omega, left2, ?_⟩
 ·rcases dec c hc s hs with hd | hd
  ·obtain ⟨f0, f1, f2⟩ := finS c hc s hd
   refine .inr ⟨(part hc hs).1 hd, fun e => f2 ((h.int c hc).2 e), ?_⟩
   rcases h.st c hc s hs with e | ⟨e, _⟩
   ·rw [← e]; exact f1
   ·exact (f0 e).elim
  ·rw [(part hc hs).2 hd]; exact h.st c hc s hs
 ·obtain ⟨_, _, hqO'⟩ := p_Order (l := planJ a' ch) (by omega)
  have hO' := ord_perm hA' hl hR
  have h1 : totJ (renL left (ordN (planJ a' ch))) ≤ totJ left := by
   rw [totJ_ren, totJ_sum]
   refine sum_le hqO'.2.2 (fun x hx => by have := (Qu_posL hqL) x hx; omega) fun j hj => ?_
   obtain ⟨x, hx, hxa, hxv⟩ := left1 j (hO'.mem_iff.1 hj)
   exact ⟨x, hx, hxa, renV_of hqL.2.2 hx hxa hxv⟩
  have h2 := (totJ_bnd hpR).1
  have h3 : ((k + 1 : Nat) : Int) * b = (k : Int) * b + b := by
   rw [Int.natCast_add, Int.add_mul]; simp
  rw [h3]
  omega
end Go.Proofs
