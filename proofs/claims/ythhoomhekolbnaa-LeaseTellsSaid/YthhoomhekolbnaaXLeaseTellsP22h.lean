/- Leases, plain: whose are wanted back. No condition. -/
import Derived.Test.YthhoomhekolbnaaXLeaseTellsP22g
namespace Go.Proofs
set_option linter.all false
open Go Go.Cat
set_option linter.all false

theorem t_Whose (l : List api_Lease) (q : api_Lease) (hl : l.length ≤ 100000) : Tot (ref22_Whose l q) (fun r => r.Pairwise (· < ·) ∧ ∀ c, c ∈ r ↔ (0 ≤ c ∧ c < 16) ∧ ∃ x, x ∈ l ∧ x.Client = c ∧ clashB x q = true) := by
  unfold ref22_Whose ref22_Whose_L1
  refine Tot.bind (Tot.loop (fun s : Int × List Int => 0 ≤ s.1 ∧ s.1 ≤ 16 ∧ (s.2.length : Int) ≤ s.1 ∧ s.2.Pairwise (· < ·) ∧ ∀ c, c ∈ s.2 ↔ (0 ≤ c ∧ c < s.1) ∧ ∃ x, x ∈ l ∧ x.Client = c ∧ clashB x q = true) (fun s => (16 - s.1).toNat) ?_ _ ⟨by decide, by decide, by decide, List.Pairwise.nil, fun c => ⟨fun h => (by cases h), fun h => (by omega)⟩⟩) fun _ h => Tot.ret h
  rintro ⟨s, a⟩ ⟨g0, g1, g2, g3, g4⟩
  dsimp only at g0 g1 g2 g3 g4
  unfold ref22_Whose_B1
  refine Tot.ite (fun hlt => ?_) fun hge => Tot.out (Tot.ret ⟨g3, fun c => ?_⟩)
  · have hlt : s < 16 := by simpa using hlt
    have hin : ref22_Whose_L2 l (s, a) q (false, 0) = some (l.any fun x => x.Client == s && clashB x q) := by
      unfold ref22_Whose_L2
      have h := loop_eachF (b := l) (B := ref22_Whose_B2 l (s, a) q) (fun b x => b || (x.Client == s && clashB x q)) (fun _ _ => True) id (fun b n x _ hx hlt => ⟨by
        refine Tot.eq ?_
        unfold ref22_Whose_B2
        refine Tot.cond (by simp; omega) (Tot.bindeq (a := (b || (x.Client == s && clashB x q))) ?_ (Tot.chk (by unfold InI64; dsimp only; omega) (Tot.ret rfl)))
        cases b with
        | true => rfl
        | false =>
          show Option.bind (Option.bind (idx l (n : Int)) _) _ = _
          rw [idx_some hx, Option.bind_some]
          show Option.bind (Option.bind (if (x.Client == s) = true then _ else _) _) _ = _
          by_cases hc : (x.Client == s) = true
          · rw [if_pos hc, Option.bind_some, p_rClash, hc]; rfl
          · rw [if_neg hc]
            have : (x.Client == s) = false := by simpa using hc
            rw [this]; rfl, trivial⟩) (fun b _ => by
        unfold ref22_Whose_B2
        rw [if_neg (by simp)]; rfl) false trivial
      refine h.1.trans (congrArg some ?_)
      have key : ∀ (l : List api_Lease) (b : Bool), l.foldl (fun b x => b || (x.Client == s && clashB x q)) b = (b || l.any fun x => x.Client == s && clashB x q) := by
        intro l
        induction l with
        | nil => intro b; simp
        | cons y l ih => intro b; rw [List.foldl_cons, ih, List.any_cons, Bool.or_assoc]
      exact (key l false).trans (Bool.false_or _)
    have hiff : (l.any fun x => x.Client == s && clashB x q) = true ↔ ∃ x, x ∈ l ∧ x.Client = s ∧ clashB x q = true := by
      rw [List.any_eq_true]
      simp
    refine Tot.bind (R := fun v : List Int => (v.length : Int) ≤ s + 1 ∧ v.Pairwise (· < ·) ∧ ∀ c, c ∈ v ↔ (0 ≤ c ∧ c < s + 1) ∧ ∃ x, x ∈ l ∧ x.Client = c ∧ clashB x q = true) (Tot.bindeq hin (Tot.ite (fun ht => Tot.chk (by simp; omega) (Tot.ret ⟨by simp; omega, List.pairwise_append.2 ⟨g3, List.pairwise_singleton _ _, fun y hy z hz => ?_⟩, fun c => ?_⟩)) fun hf => Tot.ret ⟨by dsimp only; omega, g3, fun c => ?_⟩)) fun v hv => Tot.chk (by unfold InI64; dsimp only; omega) (Tot.inl ⟨⟨by dsimp only; omega, by dsimp only; omega, hv⟩, by dsimp only; omega⟩)
    · rw [List.mem_singleton.1 hz]
      exact ((g4 y).1 hy).1.2
    · rw [List.mem_append, List.mem_singleton, g4]
      constructor
      · rintro (⟨h1, h2⟩ | rfl)
        · exact ⟨by omega, h2⟩
        · exact ⟨by omega, hiff.1 ht⟩
      · rintro ⟨h1, h2⟩
        by_cases e : c = s
        · exact .inr e
        · exact .inl ⟨by omega, h2⟩
    · show c ∈ a ↔ _
      rw [g4]
      constructor
      · rintro ⟨h1, h2⟩; exact ⟨by omega, h2⟩
      · rintro ⟨h1, h2⟩
        by_cases e : c = s
        · subst e; exact absurd (hiff.2 h2) hf
        · exact ⟨by omega, h2⟩
  · have : s = 16 := by have : ¬ s < 16 := by simpa using hge
                        omega
    subst this; exact g4 c
theorem t_Same22 (a b : List api_Lease) (h : a = b) (hl : a.length ≤ 100000) : ref22_Same a b = some true := by
  subst h
  refine Tot.eq ?_
  unfold ref22_Same ref22_Same_L1
  refine Tot.ncond (by simp) (Tot.loop (fun s : Int => 0 ≤ s ∧ s ≤ (a.length : Int)) (fun s => ((a.length : Int) - s).toNat) ?_ 0 ⟨by simp, by simp⟩)
  rintro s ⟨g0, g1⟩
  unfold ref22_Same_B1 ref22_Same_J1
  refine Tot.ite (fun hlt => ?_) fun _ => Tot.out (Tot.ret rfl)
  have hlt : s < a.length := by simpa using hlt
  obtain ⟨x, hx⟩ : ∃ x, a[s.toNat]? = some x := ⟨_, getLt (by omega)⟩
  have hi : idx a s = some x := by unfold idx; rw [if_pos g0]; exact hx
  exact Tot.bindeq hi (Tot.bindeq hi (Tot.ncond (by simp) (Tot.chk (by unfold InI64; omega) (Tot.inl ⟨⟨by omega, by omega⟩, by omega⟩))))
end Go.Proofs
