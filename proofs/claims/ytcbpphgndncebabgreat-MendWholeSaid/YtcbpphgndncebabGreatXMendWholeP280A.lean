/- Jobs, plain: which may be, how they stand, rows in order. No condition. -/
import Derived.Test.YtcbpphgndncebabGreatXMendWholeP280y
import Derived.Test.YtcbpphgndncebabGreatXMendWholeCatP5
import Derived.IntWalk
namespace Go.Proofs
set_option linter.all false
open Go Go.Cat
theorem job_ext {a b : api_Job} (h1 : a.Id = b.Id) (h2 : a.Ver = b.Ver) (h3 : a.From = b.From) (h4 : a.To = b.To) (h5 : a.Have = b.Have) (h6 : a.Left = b.Left) : a = b := by
 cases a; cases b; simp_all
def MayJ (j : api_Job) : Prop := (0 ≤ j.Id ∧ j.Id ≤ 199) ∧ (0 ≤ j.Ver ∧ j.Ver ≤ 1099511627776) ∧ (0 ≤ j.From ∧ j.From ≤ 1099511627776) ∧ (0 ≤ j.To ∧ j.To ≤ 1099511627776) ∧ j.From ≠ j.To ∧ (1 ≤ j.Have ∧ j.Have ≤ 5) ∧ (1 ≤ j.Left ∧ j.Left ≤ 65)
instance MayJ_dec (j : api_Job) : Decidable (MayJ j) := inferInstanceAs (Decidable (_ ∧ _))
def AlikeJ (a b : api_Job) : Prop := a.Id = b.Id ∧ a.To = b.To
instance AlikeJ_dec (a b : api_Job) : Decidable (AlikeJ a b) := inferInstanceAs (Decidable (_ ∧ _))
def AheadJ (a b : api_Job) : Prop := a.Have < b.Have ∨ (a.Have = b.Have ∧ (a.Id < b.Id ∨ (a.Id = b.Id ∧ a.To < b.To)))
theorem AheadJ_trans {a b c : api_Job} (h : AheadJ a b) (h' : AheadJ b c) : AheadJ a c := by unfold AheadJ at *; omega
theorem AheadJ_irr (a : api_Job) : ¬ AheadJ a a := by unfold AheadJ; omega
theorem AheadJ_tri {a b : api_Job} (h : ¬ AlikeJ a b) (h' : ¬ AheadJ b a) : AheadJ a b := by unfold AheadJ AlikeJ at *; omega
theorem ahead_uniq : ∀ {a b : List api_Job}, a.Perm b → a.Pairwise AheadJ → b.Pairwise AheadJ → a = b
 | [], b, h, _, _ => (List.Perm.nil_eq h)
 | x :: a, [], h, _, _ => by have := h.length_eq; simp at this
 | x :: a, y :: b, h, ha, hb => by
  rw [List.pairwise_cons] at ha hb
  have hxy : x = y := by
   rcases List.mem_cons.1 (h.mem_iff.1 List.mem_cons_self) with e | hx
   ·exact e
   ·rcases List.mem_cons.1 (h.mem_iff.2 List.mem_cons_self) with e | hy
    ·exact e.symm
    ·exact (AheadJ_irr x (AheadJ_trans (ha.1 y hy) (hb.1 x hx))).elim
  subst hxy
  rw [ahead_uniq ((List.perm_cons x).1 h) ha.2 hb.2]
def Qu (l : List api_Job) : Prop := (∀ j, j ∈ l → MayJ j) ∧ l.Pairwise AheadJ ∧ l.Pairwise (fun a b => ¬ AlikeJ a b)
theorem Qu_sub {a b : List api_Job} (h : Qu b) (hs : a.Sublist b) : Qu a := ⟨fun j hj => h.1 j (hs.subset hj), h.2.1.sublist hs, h.2.2.sublist hs⟩
theorem Qu_nil : Qu [] := ⟨fun _ h => (by cases h), List.Pairwise.nil, List.Pairwise.nil⟩
theorem t_within (n a b : Int) : Tot (mend_within n a b) (Tells (a ≤ n ∧ n ≤ b)) :=
 Tot.bind (Tot.bind (Tot.andI (by simp) fun _ => Tot.dec Iff.rfl) fun _ h => Tot.ret h) fun _ h => Tot.ret h
theorem t_may (j : api_Job) : Tot (mend_may j) (Tells (MayJ j)) := by
 unfold mend_may
 refine Tot.bind (R := Tells (MayJ j)) ?_ fun _ h => Tot.ret h
 refine Tot.bind (t_within _ _ _) fun b1 h1 => Tot.bind (Tot.andI h1 fun _ => Tot.bind (t_within _ _ _) fun _ h => Tot.ret h) fun b2 h2 => Tot.bind (Tot.andI h2 fun _ => Tot.bind (t_within _ _ _) fun _ h => Tot.ret h) fun b3 h3 => Tot.bind (Tot.andI h3 fun _ => Tot.bind (t_within _ _ _) fun _ h => Tot.ret h) fun b4 h4 => ?_
 refine Tot.bind (Tot.andI (Q := j.From ≠ j.To) h4 fun _ => Tot.is (by simp)) fun b5 h5 => Tot.bind (Tot.andI h5 fun _ => Tot.bind (t_within _ _ _) fun _ h => Tot.ret h) fun b6 h6 => Tot.bind (Tot.andI h6 fun _ => Tot.bind (t_within _ _ _) fun _ h => Tot.ret h) fun b7 h7 => Tot.ret (h7.iff (by unfold MayJ; simp only [and_assoc]))
theorem t_rmay (j : api_Job) : Tot (ref28_May j) (Tells (MayJ j)) := by
 unfold ref28_May
 refine Tot.bind (R := Tells (MayJ j)) ?_ fun _ h => Tot.ret h
 refine Tot.bind (Tot.andI (P := 0 ≤ j.Id) (Q := j.Id ≤ 199) (by simp) fun _ => Tot.dec Iff.rfl) fun b1 h1 => Tot.bind (Tot.andI (Q := 0 ≤ j.Ver) h1 fun _ => Tot.dec Iff.rfl) fun b2 h2 => Tot.bind (Tot.andI (Q := j.Ver ≤ 1099511627776) h2 fun _ => Tot.dec Iff.rfl) fun b3 h3 => ?_
 refine Tot.bind (Tot.andI (Q := 0 ≤ j.From) h3 fun _ => Tot.dec Iff.rfl) fun b4 h4 => Tot.bind (Tot.andI (Q := j.From ≤ 1099511627776) h4 fun _ => Tot.dec Iff.rfl) fun b5 h5 => Tot.bind (Tot.andI (Q := 0 ≤ j.To) h5 fun _ => Tot.dec Iff.rfl) fun b6 h6 => Tot.bind (Tot.andI (Q := j.To ≤ 1099511627776) h6 fun _ => Tot.dec Iff.rfl) fun b7 h7 => ?_
 refine Tot.bind (Tot.andI (Q := j.From ≠ j.To) h7 fun _ => Tot.is (by simp)) fun b8 h8 => Tot.bind (Tot.andI (Q := 1 ≤ j.Have) h8 fun _ => Tot.dec Iff.rfl) fun b9 h9 => Tot.bind (Tot.andI (Q := j.Have ≤ 5) h9 fun _ => Tot.dec Iff.rfl) fun b10 h10 => Tot.bind (Tot.andI (Q := 1 ≤ j.Left) h10 fun _ => Tot.dec Iff.rfl) fun b11 h11 => Tot.bind (Tot.andI (Q := j.Left ≤ 65) h11 fun _ => Tot.dec Iff.rfl) fun b12 h12 => Tot.ret (h12.iff (by unfold MayJ; simp only [and_assoc]))
theorem t_is (j x : api_Job) : Tot (mend_spot_is ⟨j.Id, j.To⟩ x) (Tells (AlikeJ x j)) := by
 unfold mend_spot_is mend_of
 exact Tot.ret (by unfold Tells AlikeJ; simp)
def atJ (l : List api_Job) (j : api_Job) (r : Int) : Prop := (r = -1 ∧ ∀ x, x ∈ l → ¬ AlikeJ x j) ∨ ∃ (n : Nat) (x : api_Job), r = n ∧ l[n]? = some x ∧ AlikeJ x j ∧ ∀ (k : Nat) y, k < n → l[k]? = some y → ¬ AlikeJ y j
theorem t_IndexJ (l : List api_Job) (j : api_Job) (hl : l.length ≤ 1000000) : Tot (slices_IndexFunc_api_Job_api_Job__mend_spot_is l ⟨j.Id, j.To⟩) (atJ l j) := by
 unfold slices_IndexFunc_api_Job_api_Job__mend_spot_is slices_IndexFunc_api_Job_api_Job__mend_spot_is_L1
 refine Tot.search (l := l) (fun x => AlikeJ x j) (fun n x hx hno => ?_) (fun hno => ?_)
 ·have hn := (getR hx).1
  unfold slices_IndexFunc_api_Job_api_Job__mend_spot_is_B1
  exact Tot.cond (by simp; omega) (Tot.bindeq (idx_some hx) (Tot.bind (t_is j x) fun b hb => Tot.found (by omega) hb fun hr => Tot.ret (.inr ⟨n, x, rfl, hx, hr, hno⟩)))
 ·unfold slices_IndexFunc_api_Job_api_Job__mend_spot_is_B1
  exact Tot.ncond (by simp) (Tot.done (Tot.ret (.inl ⟨rfl, hno⟩)))
theorem t_alike (l : List api_Job) (j : api_Job) (hl : l.length ≤ 1000000) : Tot (ref28_alike l j) (atJ l j) := by
 unfold ref28_alike ref28_alike_L1
 refine Tot.search (l := l) (fun x => AlikeJ x j) (fun n x hx hno => ?_) (fun hno => ?_)
 ·have hn := (getR hx).1
  unfold ref28_alike_B1
  refine Tot.cond (by simp; omega) (Tot.bind (R := Tells (AlikeJ x j)) ?_ fun b hb => Tot.found (by omega) hb fun hr => Tot.ret (.inr ⟨n, x, rfl, hx, hr, hno⟩))
  exact Tot.bindeq (idx_some hx) (Tot.bind (Tot.andI (P := x.Id = j.Id) (Q := x.To = j.To) (by simp) fun _ => Tot.bindeq (idx_some hx) (Tot.is (by simp))) fun _ h => Tot.ret h)
 ·unfold ref28_alike_B1
  exact Tot.ncond (by simp) (Tot.done (Tot.ret (.inl ⟨rfl, hno⟩)))
theorem atJ_ge {l : List api_Job} {j : api_Job} {r : Int} (h : atJ l j r) : 0 ≤ r ↔ ∃ x, x ∈ l ∧ AlikeJ x j := by
 rcases h with ⟨rfl, h⟩ | ⟨n, x, rfl, hx, ha, _⟩
 ·exact ⟨fun h => by omega, fun ⟨x, hx, ha⟩ => (h x hx ha).elim⟩
 ·exact ⟨fun _ => ⟨x, (getR hx).2, ha⟩, fun _ => by omega⟩
theorem t_Contains (l : List api_Job) (j : api_Job) (hl : l.length ≤ 1000000) : Tot (slices_ContainsFunc_api_Job_api_Job__mend_spot_is l ⟨j.Id, j.To⟩) (Tells (∃ x, x ∈ l ∧ AlikeJ x j)) :=
 Tot.bind (t_IndexJ l j hl) fun r hr => Tot.dec (atJ_ge hr)
def agJ (a b : api_Job) : Int := if cmpI a.Have b.Have ≠ 0 then cmpI a.Have b.Have else if cmpI a.Id b.Id ≠ 0 then cmpI a.Id b.Id else cmpI a.To b.To
theorem t_or (x y z : Int) : cmp_Or_int [x, y, z] = some (if x ≠ 0 then x else if y ≠ 0 then y else z) := by
 unfold cmp_Or_int cmp_Or_int_L1
 have r0 : cmp_Or_int_B1 [x, y, z] 0 = if x ≠ 0 then some (.inr x) else some (.inl 1) := by
  unfold cmp_Or_int_B1
  by_cases h : x = 0
  ·subst h; rfl
  ·simp [idx, h, Cat.out]
 have r1 : cmp_Or_int_B1 [x, y, z] 1 = if y ≠ 0 then some (.inr y) else some (.inl 2) := by
  unfold cmp_Or_int_B1
  by_cases h : y = 0
  ·subst h; rfl
  ·simp [idx, h, Cat.out]
 have r2 : cmp_Or_int_B1 [x, y, z] 2 = if z ≠ 0 then some (.inr z) else some (.inl 3) := by
  unfold cmp_Or_int_B1
  by_cases h : z = 0
  ·subst h; rfl
  ·simp [idx, h, Cat.out]
 have r3 : cmp_Or_int_B1 [x, y, z] 3 = some (.inr 0) := by unfold cmp_Or_int_B1; rfl
 by_cases hx : x = 0
 ·rw [if_neg (by simp [hx])] at r0
  rw [loop_inl r0, if_neg (by simp [hx])]
  by_cases hy : y = 0
  ·rw [if_neg (by simp [hy])] at r1
   rw [loop_inl r1, if_neg (by simp [hy])]
   by_cases hz : z = 0
   ·rw [if_neg (by simp [hz])] at r2
    rw [loop_inl r2, loop_inr r3, hz]
   ·rw [if_pos hz] at r2
    rw [loop_inr r2]
  ·rw [if_pos hy] at r1
   rw [loop_inr r1, if_pos hy]
 ·rw [if_pos hx] at r0
  rw [loop_inr r0, if_pos hx]
theorem t_against (a b : api_Job) : mend_against a b = some (agJ a b) := by
 unfold mend_against
 rw [t_cmpI, Option.bind_some, t_cmpI, Option.bind_some, t_cmpI, Option.bind_some, t_or]
 rfl
theorem cmpI_spec (x y : Int) : (x < y ∧ cmpI x y = -1) ∨ (y < x ∧ cmpI x y = 1) ∨ (x = y ∧ cmpI x y = 0) := by
 unfold cmpI
 split
 ·exact .inl ⟨‹_›, rfl⟩
 ·split
  ·exact .inr (.inl ⟨by omega, rfl⟩)
  ·exact .inr (.inr ⟨by omega, rfl⟩)
theorem agJ_lt (a b : api_Job) : agJ a b < 0 ↔ AheadJ a b := by
 unfold agJ AheadJ
 have h1 := cmpI_spec a.Have b.Have
 have h2 := cmpI_spec a.Id b.Id
 have h3 := cmpI_spec a.To b.To
 generalize cmpI a.Have b.Have = u at *
 generalize cmpI a.Id b.Id = v at *
 generalize cmpI a.To b.To = w at *
 by_cases hu : u ≠ 0
 ·rw [if_pos hu]; omega
 ·rw [if_neg hu]
  by_cases hv : v ≠ 0
  ·rw [if_pos hv]; omega
  ·rw [if_neg hv]; omega
theorem t_cmpJ : CmpIs mend_against agJ := by
 refine ⟨t_against, ⟨fun x => ?_, fun x y z h1 h2 => ?_, fun x y z h1 h2 => ?_⟩⟩
 ·simp [agJ_lt, AheadJ_irr]
 ·simp [agJ_lt] at *; exact AheadJ_trans h1 h2
 ·simp [agJ_lt] at *; unfold AheadJ at *; omega
theorem t_Ahead (a b : api_Job) : Tot (ref28_Ahead a b) (Tells (AheadJ a b)) := by
 unfold ref28_Ahead AheadJ
 refine Tot.ite (fun h => Tot.ret ?_) (fun h => Tot.ite (fun h' => Tot.ret ?_) (fun h' => Tot.ret ?_))
 ·unfold Tells; simp at h ⊢; omega
 ·unfold Tells; simp at h h' ⊢; omega
 ·unfold Tells; simp at h h' ⊢; omega
theorem t_SameJ (a b : List api_Job) (hl : a.length ≤ 1000000) : Tot (ref27_SameJobs a b) (Tells (a = b)) := by
 unfold ref27_SameJobs
 refine Tot.ite (fun h => Tot.ret (Tells.no fun e => ?_)) (fun h => ?_)
 ·subst e; simp at h
 ·have hlen : a.length = b.length := by simp at h; omega
  unfold ref27_SameJobs_L1
  refine Tot.loop (fun s : Int => ∃ n : Nat, s = n ∧ n ≤ a.length ∧ ∀ j : Nat, j < n → a[j]? = b[j]?) (fun s : Int => a.length - s.toNat) ?_ 0 ⟨0, rfl, by omega, fun j hj => by omega⟩
  rintro s ⟨n, rfl, hn, hno⟩
  unfold ref27_SameJobs_B1
  refine Tot.ite (fun h => ?_) (fun h => ?_)
  ·have hlt : n < a.length := by simp at h; omega
   have hx : a[n]? = some a[n] := getLt hlt
   have hy : b[n]? = some b[n] := getLt (by omega)
   refine Tot.bindeq (idx_some hx) (Tot.bindeq (idx_some hy) (Tot.ite (fun hne => ?_) (fun he => ?_)))
   ·refine Tot.out (Tot.ret (Tells.no fun e => ?_))
    subst e
    simp at hne
   ·have he' : a[n] = b[n] := by
     simp at he
     exact job_ext he.1 he.2.1 he.2.2.1 he.2.2.2.1 he.2.2.2.2.1 he.2.2.2.2.2
    refine Tot.chk (by unfold InI64; omega) (Tot.inl ⟨⟨n + 1, rfl, by omega, fun j hj => ?_⟩, by omega⟩)
    rcases Nat.lt_or_ge j n with h | h
    ·exact hno j h
    ·have : j = n := by omega
     subst this
     rw [hx, hy, he']
  ·have : n = a.length := by simp at h; omega
   subst this
   refine Tot.out (Tot.ret (Tells.yes (List.ext_getElem? fun j => ?_)))
   rcases Nat.lt_or_ge j a.length with h | h
   ·exact hno j h
   ·rw [List.getElem?_eq_none (by omega), List.getElem?_eq_none (by omega)]
theorem t_CloneJ (l : List api_Job) (hl : l.length ≤ 1000000) : slices_Clone_api_Job_api_Job l = some l := by
 unfold slices_Clone_api_Job_api_Job
 refine anyOf_eq ⟨false, fun h => by cases h⟩ fun b hb => ?_
 cases b with
 | true => rw [hb rfl]; rfl
 | false =>
  rw [if_neg (by decide)]
  rw [chk_pos (by simp; omega)]; rfl
end Go.Proofs
