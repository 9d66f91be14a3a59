/- Leases, plain: what is had; the live questions; those who share. No condition. -/
import Derived.Test.YthhoomhekolbnaaXLeaseHasP22c
namespace Go.Proofs
set_option linter.all false
open Go Go.Cat
set_option linter.all false

instance (s : api_Span) : Decidable (spanP s) := inferInstanceAs (Decidable (_ ∧ _))
instance (k : Int) : Decidable (kindP k) := inferInstanceAs (Decidable (_ ∨ _))
instance (x : api_Lease) : Decidable (oneP x) := inferInstanceAs (Decidable (_ ∧ _))

def hadB (c i k : Int) (x : api_Lease) : Bool := x.Client == c && (x.Ino == i && (x.Kind == k || x.Kind == 2))
def hadN (l : List api_Lease) (c i k : Int) : List api_Span := (l.filter (hadB c i k)).map (·.Span)
theorem t_Has22 (l : List api_Lease) (c i k : Int) (s : api_Span) (hl : l.length ≤ 1000) : Tot (lease_Has l c i k s) (Tells (spanP s ∧ kindP k ∧ ∀ p, InS s p → In (hadN l c i k) p)) := by
  unfold lease_Has
  refine Tot.bind (R := Tells (¬ (spanP s ∧ kindP k))) ?_ fun v hv => Tot.ite (fun ht => Tot.ret ⟨fun h => (by cases h), fun h => absurd ⟨h.1, h.2.1⟩ (hv.1 ht)⟩) fun hf => ?_
  · refine Tot.bind (t_spanned s) fun x1 h1 => Tot.bind (R := Tells (¬ spanP s ∨ ¬ kindP k)) (Tot.orI h1.not fun _ => Tot.bind (t_kinded k) fun x2 h2 => Tot.ret h2.not) fun c1 hc => Tot.ret (hc.iff ?_)
    constructor
    · rintro (h | h) ⟨a, b⟩
      · exact h a
      · exact h b
    · intro h
      by_cases a : spanP s
      · exact .inr fun b => h ⟨a, b⟩
      · exact .inl a
  have hg : spanP s ∧ kindP k := Classical.byContradiction fun h => hf (hv.2 h)
  have hfl : (l.filter (hadB c i k)).length ≤ l.length := List.length_filter_le _ _
  refine Tot.bindeq (a := hadN l c i k) ?_ ?_
  · unfold lease_Has_L1 hadN
    have h := loop_eachN (b := l) (B := lease_Has_B1 l c i k) (fun w x => if hadB c i k x = true then w ++ [x.Span] else w) (fun n w => w.length ≤ n) id (fun w n x hw hx hlt => ⟨by
      refine Tot.eq ?_
      unfold lease_Has_B1
      have hb : (((if (x.Client == c) then some ((x.Ino == i)) else some false).bind fun c2 => (if c2 then (if (x.Kind == k) then some true else some ((x.Kind == 2))).bind fun c3 => some c3 else some false).bind fun c4 => some c4) : Option Bool) = some (hadB c i k x) := by
        unfold hadB
        cases (x.Client == c) <;> cases (x.Ino == i) <;> cases (x.Kind == k) <;> cases (x.Kind == 2) <;> rfl
      refine Tot.cond (by simp; omega) (Tot.bind (R := (· = if hadB c i k x = true then w ++ [x.Span] else w)) (Tot.bindeq (idx_some hx) (Tot.bindeq hb (Tot.ite (fun h => ?_) fun h => ?_))) fun v hv => Tot.chk (by unfold InI64; dsimp only; omega) (Tot.ret (by rw [hv])))
      · rw [if_pos h]; exact Tot.chk (by simp; omega) (Tot.ret rfl)
      · rw [if_neg h]; exact Tot.ret rfl, by
      have : (w ++ [x.Span]).length = w.length + 1 := by simp
      split <;> omega⟩) (fun m hm => by
      unfold lease_Has_B1
      rw [if_neg (by simp)]; rfl) [] (Nat.le_refl _)
    refine h.1.trans (congrArg some ?_)
    have key : ∀ (l : List api_Lease) (a : List api_Span), l.foldl (fun w x => if hadB c i k x = true then w ++ [x.Span] else w) a = a ++ (l.filter (hadB c i k)).map (·.Span) := by
      intro l
      induction l with
      | nil => intro a; simp
      | cons y l ih =>
        intro a
        rw [List.foldl_cons, ih]
        cases hy : hadB c i k y with
        | true => simp [hy]
        | false => simp [hy]
    exact (key l []).trans (List.nil_append _)
  have hhl : (hadN l c i k).length ≤ 1000 := by unfold hadN; rw [List.length_map]; omega
  refine Tot.bind (t_Norm _ (by omega)) fun x4 h4 => Tot.bind (t_Cut [s] x4 (by simp) (by have := h4.2.2; simp at this; omega)) fun x5 h5 => Tot.ret ?_
  refine ⟨fun h => ⟨hg.1, hg.2, fun p hp => ?_⟩, fun h => ?_⟩
  · have h0 : x5 = [] := List.length_eq_zero_iff.1 (by have : (x5.length : Int) = 0 := by simpa using h
                                                       omega)
    have := (op2 h5 p)
    rw [h0] at this
    rw [← op1_nil h4 p]
    exact Classical.byContradiction fun hn => In_nil p (this.2 ⟨In_cons.2 (.inl hp), hn⟩)
  · have h0 : x5 = [] := OrdS_empty h5.1 fun p hp => by
      have := (op2 h5 p).1 hp
      rcases In_cons.1 this.1 with hs | hs
      · exact this.2 ((op1_nil h4 p).2 (h.2.2 p hs))
      · exact In_nil p hs
    rw [h0]; rfl
theorem In_had {l : List api_Lease} {c i k p : Int} : In (hadN l c i k) p ↔ ∃ x, x ∈ l ∧ hadB c i k x = true ∧ InS x.Span p := by
  unfold hadN In
  constructor
  · rintro ⟨s, hs, hp⟩
    obtain ⟨x, hx, rfl⟩ := List.mem_map.1 hs
    obtain ⟨h1, h2⟩ := List.mem_filter.1 hx
    exact ⟨x, h1, h2, hp⟩
  · rintro ⟨x, h1, h2, hp⟩
    exact ⟨x.Span, List.mem_map.2 ⟨x, List.mem_filter.2 ⟨h1, h2⟩, rfl⟩, hp⟩
theorem t_RInts14 (a b : List Int) (h : a = b) (hl : a.length ≤ 1000) : ref14_Ints a b = some true := by
  subst h
  refine Tot.eq ?_
  unfold ref14_Ints ref14_Ints_L1
  refine Tot.ncond (by simp) (Tot.loop (fun s : Int => 0 ≤ s ∧ s ≤ (a.length : Int)) (fun s => ((a.length : Int) - s).toNat) ?_ 0 ⟨by simp, by simp⟩)
  rintro s ⟨g0, g1⟩
  unfold ref14_Ints_B1 ref14_Ints_J1
  refine Tot.ite (fun hlt => ?_) fun _ => Tot.out (Tot.ret rfl)
  have hlt : s < a.length := by simpa using hlt
  obtain ⟨x, hx⟩ : ∃ x, a[s.toNat]? = some x := ⟨_, getLt (by omega)⟩
  have hi : idx a s = some x := by unfold idx; rw [if_pos g0]; exact hx
  exact Tot.bindeq hi (Tot.bindeq hi (Tot.ncond (by simp) (Tot.chk (by unfold InI64; omega) (Tot.inl ⟨⟨by omega, by omega⟩, by omega⟩))))

abbrev lA : api_Lease := ⟨1, 5, 2, ⟨0, 8⟩, 13, 0⟩
abbrev lD : api_Lease := ⟨2, 5, 1, ⟨8, 12⟩, 13, 0⟩
abbrev lF : api_Lease := ⟨2, 5, 2, ⟨0, 8⟩, 16, 0⟩
abbrev lH : api_Lease := ⟨1, 5, 2, ⟨0, 8⟩, 16, 0⟩
theorem e2 : lease_Ask [] 10 ⟨1, 5, 2, ⟨0, 8⟩, 0, 0⟩ 1 = some ([lA], true, []) := by
  obtain ⟨r, hr, hp⟩ := t_Ask [] 10 ⟨1, 5, 2, ⟨0, 8⟩, 0, 0⟩ 1 (by decide) (by decide)
  rw [hr, hp.yes ⟨by decide, by decide, by decide⟩ rfl (by decide)]; rfl
theorem e4 : lease_Ask [lA] 10 ⟨2, 5, 1, ⟨4, 12⟩, 0, 0⟩ 1 = some ([lA], false, [1]) := by
  obtain ⟨⟨a, b, c⟩, hr, hp⟩ := t_Ask [lA] 10 ⟨2, 5, 1, ⟨4, 12⟩, 0, 0⟩ 1 (by decide) (by decide)
  obtain ⟨h1, h2, h3⟩ := hp.no ⟨by decide, by decide, by decide⟩ (by decide)
  have h4 : c = [1] := sorted_ext h3.1 (List.pairwise_singleton _ _) fun x => (h3.2 x).trans Iff.rfl
  rw [hr]
  dsimp only at h1 h2
  rw [h1, h2, h4]; rfl
theorem e6 : lease_Ask [lA] 10 ⟨2, 5, 1, ⟨8, 12⟩, 0, 0⟩ 1 = some ([lA, lD], true, []) := by
  obtain ⟨r, hr, hp⟩ := t_Ask [lA] 10 ⟨2, 5, 1, ⟨8, 12⟩, 0, 0⟩ 1 (by decide) (by decide)
  rw [hr, hp.yes ⟨by decide, by decide, by decide⟩ rfl (by decide)]; rfl
theorem e8 : lease_Ask [lA] 13 ⟨2, 5, 2, ⟨0, 8⟩, 0, 0⟩ 1 = some ([lF], true, []) := by
  obtain ⟨r, hr, hp⟩ := t_Ask [lA] 13 ⟨2, 5, 2, ⟨0, 8⟩, 0, 0⟩ 1 (by decide) (by decide)
  rw [hr, hp.yes ⟨by decide, by decide, by decide⟩ rfl (by decide)]; rfl
theorem e10 : lease_Ask [lA] 12 ⟨1, 5, 2, ⟨0, 8⟩, 0, 0⟩ 2 = some ([lH], true, []) := by
  obtain ⟨r, hr, hp⟩ := t_Ask [lA] 12 ⟨1, 5, 2, ⟨0, 8⟩, 0, 0⟩ 2 (by decide) (by decide)
  rw [hr, hp.yes ⟨by decide, by decide, by decide⟩ rfl (by decide)]; rfl
theorem has_yes {l : List api_Lease} {c i k : Int} {s : api_Span} (hl : l.length ≤ 1000) (h1 : spanP s) (h2 : kindP k) (x : api_Lease) (hx : x ∈ l) (hb : hadB c i k x = true) (hs : x.Span.From ≤ s.From ∧ s.To ≤ x.Span.To) : lease_Has l c i k s = some true :=
  Tot.eq ((t_Has22 l c i k s hl).mono fun b hb' => hb'.2 ⟨h1, h2, fun p hp => In_had.2 ⟨x, hx, hb, by unfold InS at *; omega⟩⟩)
theorem has_no {l : List api_Lease} {c i k : Int} {s : api_Span} (hl : l.length ≤ 1000) (p : Int) (hp : InS s p) (hn : ∀ x, x ∈ l → hadB c i k x = true → ¬ InS x.Span p) : lease_Has l c i k s = some false := by
  obtain ⟨b, hb, ht⟩ := t_Has22 l c i k s hl
  cases b with
  | false => exact hb
  | true =>
    obtain ⟨x, h1, h2, h3⟩ := In_had.1 ((ht.1 rfl).2.2 p hp)
    exact absurd h3 (hn x h1 h2)
theorem no_right {l : List api_Lease} (h : l = [lA, lD, ⟨3, 5, 2, ⟨0, 99⟩, 0, 0⟩]) : lease_Right l = some false := by
  subst h
  exact le_lease_Right 60 [lA, lD, ⟨3, 5, 2, ⟨0, 99⟩, 0, 0⟩] false (by kernel_rfl)
theorem p_head22 : law22_head = some true := by
  refine Tot.eq ?_
  unfold law22_head
  refine Tot.bindeq (a := ⟨1, 5, 2, ⟨0, 8⟩, 0, 0⟩) rfl (Tot.bindeq e2 (Tot.bindeq (a := ⟨2, 5, 1, ⟨4, 12⟩, 0, 0⟩) rfl (Tot.bindeq e4 (Tot.bindeq (a := ⟨2, 5, 1, ⟨8, 12⟩, 0, 0⟩) rfl (Tot.bindeq e6 (Tot.bindeq (a := ⟨2, 5, 2, ⟨0, 8⟩, 0, 0⟩) rfl (Tot.bindeq e8 (Tot.bindeq (a := ⟨1, 5, 2, ⟨0, 8⟩, 0, 0⟩) rfl (Tot.bindeq e10 ?_)))))))))
  dsimp only
  refine Tot.bindeq (a := false) rfl (Tot.ncond (by decide) ?_)
  refine Tot.bind (R := (· = true)) ?_ fun _ h => Tot.ret h
  refine Tot.bindeq (a := true) rfl (Tot.bindeq (a := true) rfl (Tot.bindeq (a := true) (by rw [if_pos rfl, t_RInts14 [1] [1] rfl (by decide)]; rfl) (Tot.bindeq (a := true) rfl (Tot.bindeq (a := true) rfl (Tot.bindeq (a := true) rfl (Tot.bindeq (a := true) rfl (Tot.bindeq (a := true) rfl (Tot.bindeq (a := true) rfl ?_))))))))
  refine Tot.bindeq (a := true) (by rw [if_pos rfl, has_yes (by decide) (by decide) (by decide) lA (by simp) rfl (by decide)]; rfl) ?_
  refine Tot.bindeq (a := true) (by
    rw [if_pos rfl, has_no (by decide) 8 (by unfold InS; decide) fun x hx hb => ?_]; rfl
    simp only [List.mem_cons, List.not_mem_nil, or_false] at hx
    rcases hx with rfl | rfl
    · exact absurd hb (by decide)
    · exact absurd hb (by decide)) ?_
  refine Tot.bindeq (a := true) (by
    rw [if_pos rfl, has_no (by decide) 8 (by unfold InS; decide) fun x hx hb => ?_]; rfl
    simp only [List.mem_cons, List.not_mem_nil, or_false] at hx
    rcases hx with rfl | rfl
    · unfold InS; decide
    · exact absurd hb (by decide)) ?_
  refine Tot.bindeq (a := true) (by rw [if_pos rfl, p_Back _ _ _ (by decide)]; rfl) ?_
  refine Tot.bindeq (a := true) (by rw [if_pos rfl, p_Over _ _ (by decide)]; rfl) ?_
  refine Tot.bindeq (a := true) (by rw [if_pos rfl, le_lease_Right 60 [lA, lD] true (by kernel_rfl)]; rfl) ?_
  refine Tot.bindeq (a := true) ?_ (Tot.ret rfl)
  rw [if_pos rfl, chk_pos (by decide)]
  show (Option.bind (some (⟨3, 5, 2, ⟨0, 99⟩, 0, 0⟩ : api_Lease)) _) = _
  rw [Option.bind_some, chk_pos (by decide)]
  show (Option.bind (lease_Right [lA, lD, ⟨3, 5, 2, ⟨0, 99⟩, 0, 0⟩]) _) = _
  rw [no_right rfl]; rfl

end Go.Proofs
