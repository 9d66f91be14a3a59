/- Jobs, plain: a step, how many steps, a plan renewed. No condition. -/
import Derived.Test.YtcbpphgndncebabGreatXMendWholeP280B
namespace Go.Proofs
set_option linter.all false
open Go Go.Cat
def setL (j : api_Job) (v : Int) : api_Job := ⟨j.Id, j.Ver, j.From, j.To, j.Have, v⟩
def posL (l : List api_Job) : Prop := ∀ j, j ∈ l → 1 ≤ j.Left ∧ j.Left ≤ 65
theorem Qu_posL {l : List api_Job} (h : Qu l) : posL l := fun j hj => (h.1 j hj).2.2.2.2.2.2
theorem posL_sub {a b : List api_Job} (h : posL b) (hs : a.Sublist b) : posL a := fun j hj => h j (hs.subset hj)
def stepL : Int → List api_Job → List api_Job × List api_Job
 | _, [] => ([], [])
 | b, j :: r => if j.Left ≤ b then ((stepL (b - j.Left) r).1, setL j 0 :: (stepL (b - j.Left) r).2) else (setL j (j.Left - max b 0) :: r, [])
theorem drop_set (l : List api_Job) (n : Nat) (v : api_Job) (h : n < l.length) : (l.set n v).drop n = v :: l.drop (n + 1) := by
 rw [List.set_eq_take_append_cons_drop, if_pos h]
 exact List.drop_left' (by rw [List.length_take]; omega)
theorem t_Step (l : List api_Job) (b : Int) (hp : posL l) (hl : l.length ≤ 100000) (hb : InI64 b) : Tot (mend_Step l b) (· = stepL b l) := by
 unfold mend_Step mend_Step_L1
 refine Tot.bindeq (t_CloneJ l (by omega)) (Tot.bind (R := fun v : Nat × List api_Job × List api_Job => (v.2.2.drop v.1, v.2.1) = stepL b l) ?_ fun v hv => Tot.ret hv)
 refine Tot.loop (fun s : Int × Nat × List api_Job => s.2.1 ≤ l.length ∧ InI64 s.1 ∧ s.2.2.length ≤ s.2.1 ∧ stepL b l = ((stepL s.1 (l.drop s.2.1)).1, s.2.2 ++ (stepL s.1 (l.drop s.2.1)).2)) (fun s => l.length - s.2.1) ?_ (b, 0, []) ⟨Nat.zero_le _, hb, by simp, by simp⟩
 rintro ⟨c, d, E⟩ ⟨hd, hc, hE, hst⟩
 dsimp only at hd hc hE hst
 unfold mend_Step_B1
 refine Tot.ite (fun h => ?_) (fun h => ?_)
 ·have hlt : d < l.length := by simp at h; omega
  have hx := getLt hlt
  have hdr : l.drop d = l[d] :: l.drop (d + 1) := List.drop_eq_getElem_cons hlt
  have hj := hp l[d] (List.getElem_mem hlt)
  generalize l[d] = j at *
  have ix : idx (l.drop d) 0 = some j := by rw [hdr]; rfl
  rw [hdr] at hst
  unfold InI64 at hc
  refine Tot.bindeq ix (Tot.ite (fun h => ?_) (fun h => ?_))
  ·have hle : j.Left ≤ c := by simpa using h
   simp only [stepL] at hst
   rw [if_pos hle] at hst
   refine Tot.chk (by unfold InI64; dsimp only; omega) (Tot.chk (by simp; omega) (Tot.chk (by dsimp only; omega) (Tot.inl ⟨⟨by dsimp only; omega, by unfold InI64; dsimp only; omega, by simp; omega, ?_⟩, by dsimp only; omega⟩)))
   dsimp only
   rw [hst, List.append_assoc]; rfl
  ·have hle : ¬ j.Left ≤ c := by simpa using h
   simp only [stepL] at hst
   rw [if_neg hle] at hst
   refine Tot.bindeq ix (Tot.chk (by unfold InI64; dsimp only; omega) (Tot.bindeq ix (Tot.out (Tot.ret ?_))))
   dsimp only
   rw [hst, show d + (0 : Int).toNat = d from rfl, drop_set _ _ _ hlt]
   simp [setL]
 ·have : l.drop d = [] := List.drop_eq_nil_of_le (by simp at h; omega)
  rw [this] at hst
  refine Tot.out (Tot.ret ?_)
  dsimp only
  rw [hst, this]; simp [stepL]
def totJ (l : List api_Job) : Int := (l.map (·.Left)).sum
theorem totJ_cons (j : api_Job) (l : List api_Job) : totJ (j :: l) = j.Left + totJ l := by simp [totJ]
theorem totJ_nil : totJ [] = 0 := rfl
theorem totJ_bnd : ∀ {l : List api_Job}, posL l → (l.length : Int) ≤ totJ l ∧ totJ l ≤ 65 * l.length
 | [], _ => by simp [totJ]
 | j :: l, h => by
  have h1 := h j (by simp)
  have h2 := totJ_bnd (l := l) fun x hx => h x (by simp [hx])
  rw [totJ_cons, List.length_cons]
  omega
theorem totJ_zero {l : List api_Job} (h : posL l) : totJ l = 0 ↔ l = [] := by
 have := totJ_bnd h
 constructor
 ·intro e; exact List.length_eq_zero_iff.1 (by omega)
 ·rintro rfl; rfl
theorem step_len : ∀ (b : Int) (l : List api_Job), (stepL b l).1.length + (stepL b l).2.length = l.length
 | _, [] => rfl
 | b, j :: r => by
  simp only [stepL]
  split
  ·have := step_len (b - j.Left) r
   simp only [List.length_cons]; omega
  ·simp
theorem step_tot : ∀ {b : Int} {l : List api_Job}, posL l → 0 ≤ b → totJ (stepL b l).1 = totJ l - min b (totJ l)
 | b, [], _, hb => by simp [stepL, totJ]; omega
 | b, j :: r, h, hb => by
  have h1 := h j (by simp)
  have h2 := totJ_bnd (l := r) fun x hx => h x (by simp [hx])
  simp only [stepL]
  rw [totJ_cons]
  split
  ·rw [step_tot (fun x hx => h x (by simp [hx])) (by omega)]; omega
  ·show totJ (setL j (j.Left - max b 0) :: r) = _
   rw [totJ_cons]
   show (j.Left - max b 0) + totJ r = _
   omega
theorem step_shape : ∀ (b : Int) (l : List api_Job), posL l → ∃ k : Nat, (stepL b l).2 = (l.take k).map (setL · 0) ∧ k = (stepL b l).2.length ∧
  ((k = l.length ∧ (stepL b l).1 = []) ∨ ∃ j v, l[k]? = some j ∧ 1 ≤ v ∧ v ≤ j.Left ∧ (stepL b l).1 = setL j v :: l.drop (k + 1))
 | _, [], _ => ⟨0, rfl, rfl, .inl ⟨rfl, rfl⟩⟩
 | b, j :: r, h => by
  have h1 := h j (by simp)
  simp only [stepL]
  split
  ·obtain ⟨k, e1, e2, e3⟩ := step_shape (b - j.Left) r fun x hx => h x (by simp [hx])
   refine ⟨k + 1, by simp [e1], by simp [← e2], ?_⟩
   rcases e3 with ⟨e3, e4⟩ | ⟨x, v, e3, e4, e5, e6⟩
   ·exact .inl ⟨by simp [e3], e4⟩
   ·exact .inr ⟨x, v, by simpa using e3, e4, e5, by simpa using e6⟩
  ·exact ⟨0, rfl, rfl, .inr ⟨j, j.Left - max b 0, rfl, by omega, by omega, rfl⟩⟩
theorem Qu_head {j : api_Job} {r : List api_Job} {v : Int} (h : Qu (j :: r)) (h1 : 1 ≤ v) (h2 : v ≤ j.Left) : Qu (setL j v :: r) := by
 unfold Qu at *
 obtain ⟨g1, g2, g3⟩ := h
 rw [List.pairwise_cons] at g2 g3
 refine ⟨fun x hx => ?_, List.pairwise_cons.2 ⟨fun a ha => g2.1 a ha, g2.2⟩, List.pairwise_cons.2 ⟨fun a ha => g3.1 a ha, g3.2⟩⟩
 rcases List.mem_cons.1 hx with rfl | hx
 ·have := g1 j (by simp); unfold MayJ at *; unfold setL; dsimp only; omega
 ·exact g1 x (by simp [hx])
theorem step_Qu {b : Int} {l : List api_Job} (h : Qu l) : Qu (stepL b l).1 := by
 obtain ⟨k, _, _, ⟨_, e⟩ | ⟨j, v, hj, h1, h2, e⟩⟩ := step_shape b l (Qu_posL h)
 ·rw [e]; exact Qu_nil
 ·rw [e]
  obtain ⟨hk, e2⟩ := List.getElem?_eq_some_iff.1 hj
  have := Qu_sub h (List.drop_sublist k l)
  rw [List.drop_eq_getElem_cons hk, e2] at this
  exact Qu_head this h1 h2
theorem totJ_take {l : List api_Job} {n : Nat} (h : n < l.length) : totJ (l.take (n + 1)) = totJ (l.take n) + l[n].Left := by
 unfold totJ; rw [List.take_succ_eq_append_getElem h, List.map_append, List.sum_append, List.map_cons, List.map_nil, List.sum_cons, List.sum_nil, Int.add_zero]
def stepsN (l : List api_Job) (b : Int) : Int := if l = [] then 0 else if b < 1 then -1 else 1 + (totJ l - 1) / b
theorem t_Steps (l : List api_Job) (b : Int) (hp : posL l) (hl : l.length ≤ 100000) (hb : InI64 b) : Tot (mend_Steps l b) (· = stepsN l b) := by
 unfold mend_Steps mend_Steps_L1
 refine Tot.bind (R := (· = totJ l)) ?_ fun v hv => ?_
 ·refine Tot.loop (fun s : Int × Int => ∃ n : Nat, s.2 = n ∧ n ≤ l.length ∧ s.1 = totJ (l.take n)) (fun s => l.length - s.2.toNat) ?_ (0, 0) ⟨0, rfl, by omega, rfl⟩
  rintro ⟨t, i⟩ ⟨n, h, hn, ht⟩
  dsimp only at h ht
  subst h ht
  unfold mend_Steps_B1
  refine Tot.ite (fun h => ?_) (fun h => ?_)
  ·have hlt : n < l.length := by simp at h; omega
   have h1 := totJ_bnd (posL_sub hp (List.take_sublist (n + 1) l))
   have h2 := totJ_take hlt
   have h3 : (l.take (n + 1)).length ≤ l.length := by simp; omega
   refine Tot.bindeq (idx_some (getLt hlt)) (Tot.chk (by unfold InI64; dsimp only; omega) (Tot.chk (by unfold InI64; dsimp only; omega) (Tot.inl ⟨⟨n + 1, rfl, by omega, h2.symm⟩, by dsimp only; omega⟩)))
  ·have : n = l.length := by simp at h; omega
   subst this
   exact Tot.out (Tot.ret (by rw [List.take_length]))
 ·subst hv
  have hbnd := totJ_bnd hp
  unfold stepsN
  refine Tot.ite (fun h => ?_) (fun h => ?_)
  ·have h := (totJ_zero hp).1 (by simpa using h)
   exact Tot.ret (by rw [if_pos h])
  ·have h : l ≠ [] := fun e => h (by simp [(totJ_zero hp).2 e])
   have hpos : 0 < l.length := List.length_pos_iff.2 h
   rw [if_neg h]
   refine Tot.ite (fun h => Tot.ret ?_) (fun h => ?_)
   ·rw [if_pos (by simpa using h)]
   ·have hb1 : 1 ≤ b := by simp at h; omega
    rw [if_neg (by omega)]
    have hq : quoK .i64 (totJ l - 1) b = (totJ l - 1) / b := by
     unfold quoK
     rw [Int.tdiv_eq_ediv_of_nonneg (by omega)]
     have := Int.ediv_le_self (a := totJ l - 1) b (by omega)
     have := Int.ediv_nonneg (a := totJ l - 1) (b := b) (by omega) (by omega)
     exact IntWalk.i64_in _ ⟨by omega, by omega⟩
    rw [hq]
    have := Int.ediv_le_self (a := totJ l - 1) b (by omega)
    have := Int.ediv_nonneg (a := totJ l - 1) (b := b) (by omega) (by omega)
    exact Tot.chk (by unfold InI64; omega) (Tot.chk (by omega) (Tot.chk (by unfold InI64; omega) (Tot.ret rfl)))
theorem stepsN_nonneg {l : List api_Job} {b : Int} (hp : posL l) (hb : 1 ≤ b) : 0 ≤ stepsN l b ∧ (stepsN l b = 0 ↔ l = []) := by
 have hbnd := totJ_bnd hp
 unfold stepsN
 split
 ·exact ⟨by omega, by simp [*]⟩
 ·rename_i h
  have hpos : 0 < l.length := List.length_pos_iff.2 h
  have := Int.ediv_nonneg (a := totJ l - 1) (b := b) (by omega) (by omega)
  rw [if_neg (by omega)]
  exact ⟨by omega, ⟨fun h' => by omega, fun h' => (h h').elim⟩⟩
theorem stepsN_le {l : List api_Job} {b : Int} (hp : posL l) (hb : 1 ≤ b) : stepsN l b ≤ totJ l := by
 have hbnd := totJ_bnd hp
 unfold stepsN
 split
 ·omega
 ·rename_i h
  have hpos : 0 < l.length := List.length_pos_iff.2 h
  have := Int.ediv_le_self (a := totJ l - 1) b (by omega)
  rw [if_neg (by omega)]
  omega
def renV (l : List api_Job) (j : api_Job) : Int := match l.find? (fun x => decide (AlikeJ x j)) with
 | some x => if x.Ver = j.Ver then min j.Left x.Left else j.Left
 | none => j.Left
def renL (l p : List api_Job) : List api_Job := p.map fun j => setL j (renV l j)
theorem atJ_find {l : List api_Job} {j : api_Job} {r : Int} (h : atJ l j r) : (r = -1 ∧ l.find? (fun x => decide (AlikeJ x j)) = none) ∨ ∃ (n : Nat) (x : api_Job), r = n ∧ l[n]? = some x ∧ l.find? (fun x => decide (AlikeJ x j)) = some x := by
 rcases h with ⟨rfl, h⟩ | ⟨n, x, rfl, hx, ha, hno⟩
 ·refine .inl ⟨rfl, List.find?_eq_none.2 fun x hx => ?_⟩
  simpa using h x hx
 ·refine .inr ⟨n, x, rfl, hx, ?_⟩
  obtain ⟨hn, e⟩ := List.getElem?_eq_some_iff.1 hx
  rw [List.find?_eq_some_iff_getElem]
  refine ⟨by simpa using ha, n, hn, e, fun k hk => ?_⟩
  have := hno k l[k] hk (getLt (by omega))
  simpa using this
theorem set_mid {α : Type} (a b : List α) (x v : α) : (a ++ x :: b).set a.length v = a ++ v :: b := by
 induction a with
 | nil => rfl
 | cons y a ih => simp [ih]
theorem t_Renew (l p : List api_Job) (hl : l.length ≤ 100000) (hpl : p.length ≤ 100000) : Tot (mend_Renew l p) (· = renL l p) := by
 unfold mend_Renew mend_Renew_L1
 refine Tot.bindeq (t_CloneJ p (by omega)) (Tot.bind (R := (· = renL l p)) ?_ fun _ h => Tot.ret h)
 refine Tot.loop (fun s : Int × List api_Job => ∃ n : Nat, s.1 = n ∧ n ≤ p.length ∧ s.2 = renL l (p.take n) ++ p.drop n) (fun s => p.length - s.1.toNat) ?_ (0, p) ⟨0, rfl, by omega, rfl⟩
 rintro ⟨s, o⟩ ⟨n, h, hn, ho⟩
 dsimp only at h ho
 subst h ho
 have hA : (renL l (p.take n)).length = n := by unfold renL; simp; omega
 unfold mend_Renew_B1
 refine Tot.ite (fun h => ?_) (fun h => ?_)
 ·have hlt : n < p.length := by simp at h; omega
  have hdr : p.drop n = p[n] :: p.drop (n + 1) := List.drop_eq_getElem_cons hlt
  have htk : renL l (p.take (n + 1)) = renL l (p.take n) ++ [setL p[n] (renV l p[n])] := by unfold renL; rw [List.take_succ_eq_append_getElem hlt, List.map_append]; rfl
  rw [hdr]
  generalize p[n] = j at *
  generalize renL l (p.take n) = A at *
  have ix : idx (A ++ j :: p.drop (n + 1)) (n : Int) = some j := idx_some (by rw [List.getElem?_append_right (by omega), hA, Nat.sub_self]; rfl)
  refine Tot.bind (R := (· = A ++ setL j (renV l j) :: p.drop (n + 1))) ?_ fun v hv => Tot.chk (by unfold InI64; dsimp only; omega) (Tot.inl ⟨⟨n + 1, rfl, by omega, ?_⟩, by dsimp only; omega⟩)
  ·refine Tot.bindeq ix (Tot.bindeq (a := ⟨j.Id, j.To⟩) rfl (Tot.bind (t_IndexJ l j (by omega)) fun r hr => ?_))
   rcases atJ_find hr with ⟨rfl, hf⟩ | ⟨k, x, rfl, hx, hf⟩
   ·refine Tot.bindeq (a := false) rfl (Tot.ncond (by simp) (Tot.ret ?_))
    dsimp only; unfold renV; rw [hf]; rfl
   ·refine Tot.bind (R := Tells (x.Ver = j.Ver)) (Tot.bind (R := Tells ((k : Int) ≥ 0 ∧ x.Ver = j.Ver)) (Tot.andI (by simp) fun _ => Tot.bindeq (idx_some hx) (Tot.is (by simp))) fun _ h => Tot.ret (h.iff ⟨fun h => h.2, fun h => ⟨by omega, h⟩⟩)) fun b hb => Tot.ite (fun h => ?_) (fun h => Tot.ret ?_)
    ·refine Tot.bindeq (idx_some hx) (Tot.bindeq ix (Tot.ret ?_))
     dsimp only
     rw [Int.toNat_natCast, ← hA, set_mid]
     unfold renV; rw [hf]; dsimp only; rw [if_pos (hb.1 h)]; rfl
    ·dsimp only; unfold renV; rw [hf]; dsimp only; rw [if_neg (fun g => h (hb.2 g))]; rfl
  ·dsimp only
   rw [hv, htk, List.append_assoc]; rfl
 ·have : n = p.length := by simp at h; omega
  subst this
  exact Tot.out (Tot.ret (by rw [List.take_length, List.drop_length, List.append_nil]))
end Go.Proofs
