/- Leases, plain: whose are wanted back. No condition. -/
import Derived.Test.YthhoomhekolbnaaXLeaseRecallsP22g
namespace Go.Proofs
set_option linter.all false
open Go Go.Cat
set_option linter.all false

theorem t_Whose (l : List api_Lease) (q : api_Lease) (hl : l.length ≤ 100000) : Tot (ref22_Whose l q) (fun r => r.Pairwise (· < ·) ∧ ∀ c, c ∈ r ↔ (0 ≤ c ∧ c < 16) ∧ ∃ x, x ∈ l ∧ x.Client = c ∧ clashB x q = true) := by
  unfold ref22_Whose ref22_Whose_L1
  refine Tot.bind (Tot.loop (fun s : Int × List Int => 0 ≤ s.1 ∧ s.1 ≤ 16 ∧ (s.2.length : Int) ≤ s.1 ∧ s.2.Pairwise (· < ·) ∧ ∀ c, c ∈ s.2 ↔ (0 ≤ c ∧ c < s.1) ∧ ∃ x, x ∈ l ∧ x.Client = c ∧ clashB x q = true) (fun s => (16 - s.1).toNat) ?_ _ ⟨by decide, by decide, by decide, List.Pairwise.nil, fun c => ⟨fun h => (by cases h), fun h => (by omega)⟩⟩) fun _ h => Tot.ret h
  rintro ⟨s, a⟩ ⟨g0, g1, g2, g3, g4⟩
  dsimp only at g0 g1 g2 g3 g4
  unfold ref22_Whose_B1
  refine Tot.ite (fun hlt => ?_) fun hge => Tot.out (Tot.ret ⟨g3, fun c => ?_⟩)
  · have hlt : s < 16 := by simpa using hlt
    have hin : ref22_Whose_L2 l (s, a) q (false, 0) = some (l.any fun x => x.Client == s && clashB x q) := by
      unfold ref22_Whose_L2
      have h := loop_eachF (b := l) (B := ref22_Whose_B2 l (s, a) q) (fun b x => b || (x.Client == s && clashB x q)) (fun _ _ => True) id (fun b n x _ hx hlt => ⟨by
        refine Tot.eq ?_
        unfold ref22_Whose_B2
        refine Tot.cond (by simp; omega) (Tot.bindeq (a := (b || (x.Client == s && clashB x q))) ?_ (Tot.chk (by unfold InI64; dsimp only; omega) (Tot.ret rfl)))
        cases b with
        | true => rfl
        | false =>
          show Option.bind (Option.bind (idx l (n : Int)) _) _ = _
          rw [idx_some hx, Option.bind_some]
          show Option.bind (Option.bind (if (x.Client == s) = true then _ else _) _) _ = _
          by_cases hc : (x.Client == s) = true
          · rw [if_pos hc, Option.bind_some, p_rClash, hc]; rfl
          · rw [if_neg hc]
            have : (x.Client == s) = false := by simpa using hc
            rw [this]; rfl, trivial⟩) (fun b _ => by
        unfold ref22_Whose_B2
        rw [if_neg (by simp)]; rfl) false trivial
      refine h.1.trans (congrArg some ?_)
      have key : ∀ (l : List api_Lease) (b : Bool), l.foldl (fun b x => b || (x.Client == s && clashB x q)) b = (b || l.any fun x => x.Client == s && clashB x q) := by
        intro l
        induction l with
        | nil => intro b; simp
        | cons y l ih => intro b; rw [List.foldl_cons, ih, List.any_cons, Bool.or_assoc]
      exact (key l false).trans (Bool.false_or _)
    have hiff : (l.any fun x => x.Client == s && clashB x q) = true ↔ ∃ x, x ∈ l ∧ x.Client = s ∧ clashB x q = true := by
      rw [List.any_eq_true]
      simp
    refine Tot.bind (R := fun v : List Int => (v.length : Int) ≤ s + 1 ∧ v.Pairwise (· < ·) ∧ ∀ c, c ∈ v ↔ (0 ≤ c ∧ c < s + 1) ∧ ∃ x, x ∈ l ∧ x.Client = c ∧ clashB x q = true) (Tot.bindeq hin (Tot.ite (fun ht => Tot.chk (by simp; omega) (Tot.ret ⟨by simp; omega, List.pairwise_append.2 ⟨g3, List.pairwise_singleton _ _, fun y hy z hz => ?_⟩, fun c => ?_⟩)) fun hf => Tot.ret ⟨by dsimp only; omega, g3, fun c => ?_⟩)) fun v hv => Tot.chk (by unfold InI64; dsimp only; omega) (Tot.inl ⟨⟨by dsimp only; omega, by dsimp only; omega, hv⟩, by dsimp only; omega⟩)
    · rw [List.mem_singleton.1 hz]
      exact ((g4 y).1 hy).1.2
    · rw [List.mem_append, List.mem_singleton, g4]
      constructor
      · rintro (⟨h1, h2⟩ | rfl)
        · exact ⟨by omega, h2⟩
        · exact ⟨by omega, hiff.1 ht⟩
      · rintro ⟨h1, h2⟩
        by_cases e : c = s
        · exact .inr e
        · exact .inl ⟨by omega, h2⟩
    · show c ∈ a ↔ _
      rw [g4]
      constructor
      · rintro ⟨h1, h2⟩; exact ⟨by omega, h2⟩
      · rintro ⟨h1, h2⟩
        by_cases e : c = s
        · subst e; exact absurd (hiff.2 h2) hf
        · exact ⟨by omega, h2⟩
  · have : s = 16 := by have : ¬ s < 16 := by simpa using hge
                        omega
    subst this; exact g4 c
theorem t_Same22 (a b : List api_Lease) (h : a = b) (hl : a.length ≤ 100000) : ref22_Same a b = some true := by
  subst h
  refine Tot.eq ?_
  unfold ref22_Same ref22_Same_L1
  refine Tot.ncond (by simp) (Tot.loop (fun s : Int => 0 ≤ s ∧ s ≤ (a.length : Int)) (fun s => ((a.length : Int) - s).toNat) ?_ 0 ⟨by simp, by simp⟩)
  rintro s ⟨g0, g1⟩
  unfold ref22_Same_B1 ref22_Same_J1
  refine Tot.ite (fun hlt => ?_) fun _ => Tot.out (Tot.ret rfl)
  have hlt : s < a.length := by simpa using hlt
  obtain ⟨x, hx⟩ : ∃ x, a[s.toNat]? = some x := ⟨_, getLt (by omega)⟩
  have hi : idx a s = some x := by unfold idx; rw [if_pos g0]; exact hx
  exact Tot.bindeq hi (Tot.bindeq hi (Tot.ncond (by simp) (Tot.chk (by unfold InI64; omega) (Tot.inl ⟨⟨by omega, by omega⟩, by omega⟩))))
theorem clash_ino {x q : api_Lease} (h : clashB x q = true) : x.Ino = q.Ino := by
  unfold clashB at h
  simp only [Bool.and_eq_true, beq_iff_eq] at h
  exact h.2.1

theorem l_LeaseRecalls (l : List law22_Step) (q : api_Lease) (long : Int) : law22_LeaseRecalls l q long = some true := by
  refine Tot.eq ?_
  unfold law22_LeaseRecalls
  refine Tot.bindeq p_head22 ?_
  have htab : Tot (law22_table l) (fun r => r.2.2 = true → TabP r.1 r.2.1 l.length ∧ l.length ≤ 40) := by
    by_cases hl : l.length ≤ 40
    · exact (t_table l hl).mono fun r hr _ => ⟨hr.1, hl⟩
    · unfold law22_table
      exact Tot.cond (by simp; omega) (Tot.ret fun e => by cases e)
  refine Tot.bind htab fun x2 h2 => ?_
  obtain ⟨a, now, is⟩ := x2
  dsimp only at h2
  obtain ⟨Q, hQ⟩ : ∃ Q : api_Lease, Q = ⟨q.Client, q.Ino, q.Kind, q.Span, 0, q.Epoch⟩ := ⟨_, rfl⟩
  have hQi : q.Ino = Q.Ino := by rw [hQ]
  have hq0 : q0 Q = Q := by rw [hQ]; rfl
  rw [← hQ]
  dsimp only
  refine Tot.bind (R := Tells (((¬ is = true ∨ ¬ oneP Q) ∨ long < 1) ∨ 64 < long)) (Tot.bind (R := Tells (¬ is = true ∨ ¬ oneP Q)) (Tot.orI (by simp) fun _ => Tot.bind (t_rOne Q) fun b hb => Tot.ret hb.not) fun c1 g1 => Tot.bind (R := Tells ((¬ is = true ∨ ¬ oneP Q) ∨ long < 1)) (Tot.orI g1 fun _ => Tot.dec (by omega)) fun c2 g2 => Tot.bind (Tot.orI g2 fun _ => Tot.dec (by omega)) fun _ h => Tot.ret h) fun v hv => Tot.ite (fun _ => Tot.ret rfl) fun hf => ?_
  have hno : ¬ (((¬ is = true ∨ ¬ oneP Q) ∨ long < 1) ∨ 64 < long) := fun h => hf (hv.2 h)
  have his : is = true := Classical.byContradiction fun h => hno (.inl (.inl (.inl h)))
  have hone : oneP Q := Classical.byContradiction fun h => hno (.inl (.inl (.inr h)))
  have hlong : 1 ≤ long ∧ long ≤ 64 := by
    have h1 : ¬ long < 1 := fun h => hno (.inl (.inr h))
    have h2 : ¬ 64 < long := fun h => hno (.inr h)
    omega
  subst his
  obtain ⟨hT, hl40⟩ := h2 rfl
  have tl := hT.len
  have t0 := hT.t0
  have t1 := hT.t1
  have hg : oneP (q0 Q) ∧ 1 ≤ long ∧ long ≤ 64 := ⟨by rw [hq0]; exact hone, hlong⟩
  have hov : (overN a now).length ≤ a.length := List.length_filter_le _ _
  have hkp : ∀ (b : List api_Lease) (n : Int), (keptN b n Q).length ≤ b.length := fun b n => (kept_sub b n Q).length_le
  obtain ⟨x4, e4', hp4⟩ := t_Ask a now Q long (by omega) (by omega)
  refine Tot.bindeq e4' (Tot.bindeq (a := overN a now) (p_Over a now (by omega)) ?_)
  -- who is told
  obtain ⟨w, ew, hw1, hw2⟩ := t_Whose (overN a now) Q (by omega)
  have hcl : ∀ x, x ∈ overN a now → 0 ≤ x.Client ∧ x.Client < 16 := fun x hx => ((hT.one x (List.mem_filter.1 hx).1).1.1.1.1.1.1.1)
  have hmem : ∀ c, c ∈ w ↔ c ∈ whoN a now Q := fun c => by
    rw [hw2]
    unfold whoN
    rw [hq0, List.mem_map]
    constructor
    · rintro ⟨-, x, h1, h2, h3⟩
      exact ⟨x, List.mem_filter.2 ⟨h1, h3⟩, h2⟩
    · rintro ⟨x, h1, h2⟩
      obtain ⟨h3, h4⟩ := List.mem_filter.1 h1
      have := hcl x h3
      exact ⟨by omega, x, h3, h2, h4⟩
  have hsame : x4.2.2 = w ∧ (x4.2.1 = true ↔ w = []) ∧ (x4.2.1 = false → x4.1 = overN a now) := by
    by_cases hw : whoN a now Q = []
    · have hwn : w = [] := List.eq_nil_iff_forall_not_mem.2 fun c hc => by rw [hmem, hw] at hc; cases hc
      have := hp4.yes hg hw (by have := hkp a now; omega)
      rw [this, hwn]
      exact ⟨rfl, ⟨fun _ => rfl, fun _ => rfl⟩, fun h => by cases h⟩
    · obtain ⟨h1, h2, h3⟩ := hp4.no hg hw
      have e : x4.2.2 = w := sorted_ext h3.1 hw1 fun c => (h3.2 c).trans (hmem c).symm
      refine ⟨e, ⟨fun h => (by rw [h2] at h; cases h), fun h => ?_⟩, fun _ => h1⟩
      exact absurd (List.eq_nil_iff_forall_not_mem.2 fun c hc => by rw [← hmem, h] at hc; cases hc) hw
  have hwl : w.length ≤ 1000 := by
    have hsub : w.length ≤ 16 := by
      have hb : ∀ (n : Nat) (l : List Int), l.Pairwise (· < ·) → (∀ c, c ∈ l → (16 - (n : Int)) ≤ c ∧ c < 16) → l.length ≤ n := by
        intro n
        induction n with
        | zero =>
          intro l _ h
          cases l with
          | nil => exact Nat.le_refl _
          | cons y l => have := h y (List.mem_cons_self ..); omega
        | succ n ih =>
          intro l hp h
          cases l with
          | nil => exact Nat.zero_le _
          | cons y l =>
            rw [List.pairwise_cons] at hp
            have hy := h y (List.mem_cons_self ..)
            have := ih l hp.2 fun c hc => by
              have h1 := hp.1 c hc
              have h2 := h c (List.mem_cons_of_mem _ hc)
              omega
            simp only [List.length_cons]; omega
      exact hb 16 w hw1 fun c hc => by have := ((hw2 c).1 hc).1; omega
    omega
  refine Tot.bind (R := (· = false)) (Tot.bindeq ew (Tot.bindeq (t_RInts14 x4.2.2 w hsame.1 (by rw [hsame.1]; exact hwl)) (Tot.bind (R := (· = false)) (Tot.ncond (by decide) (Tot.ret ?_)) fun c hc => ?_))) fun v2 hv2 => ?_
  · rw [hsame.1]
    cases hb : x4.2.1 with
    | true =>
      rw [hsame.2.1.1 hb]; rfl
    | false =>
      have hne : w ≠ [] := fun e => by rw [hsame.2.1.2 e] at hb; cases hb
      have : ((w.length : Int) == 0) = false := by
        have : w.length ≠ 0 := fun e => hne (List.length_eq_zero_iff.1 e)
        simp [hne]
      rw [this]; rfl
  · subst hc
    refine Tot.bind (R := (· = false)) (Tot.ncond (by decide) (Tot.bind (R := (· = false)) (Tot.ite (fun hh => ?_) fun _ => Tot.ret rfl) fun _ h => Tot.ret h)) fun _ h => Tot.ret h
    have hh : x4.2.1 = false := by simpa using hh
    exact Tot.bindeq (t_Same22 x4.1 (overN a now) (hsame.2.2 hh) (by rw [hsame.2.2 hh]; omega)) (Tot.ret rfl)
  subst hv2
  refine Tot.ncond (by decide) ?_
  -- what is left
  refine Tot.bind (R := fun v : List api_Lease => v.Sublist (overN a now) ∧ ∀ x, x ∈ v → x.Ino = q.Ino → x.Client ∉ w) ?_ fun v3 hv3 => ?_
  · unfold law22_LeaseRecalls_L1
    rw [show x4 = (x4.1, x4.2.1, w) by rw [← hsame.1]]
    refine Tot.loop (fun s : List api_Lease × Int => ∃ n : Nat, s.2 = n ∧ n ≤ w.length ∧ s.1.Sublist (overN a now) ∧ ∀ x, x ∈ s.1 → x.Ino = q.Ino → x.Client ∉ w.take n) (fun s => ((w.length : Int) - s.2).toNat) ?_ _ ⟨0, rfl, Nat.zero_le _, List.Sublist.refl _, fun x _ _ h => by cases h⟩
    rintro ⟨b, s⟩ ⟨n, e, g1, g2, g3⟩
    dsimp only at e g2 g3
    subst e
    unfold law22_LeaseRecalls_B1
    refine Tot.ite (fun hlt => ?_) fun hge => Tot.out (Tot.ret ⟨g2, fun x hx hi => ?_⟩)
    · have hlt : n < w.length := by simpa using hlt
      have hx := getLt hlt
      generalize w[n] = c at hx
      have hbl := g2.length_le
      refine Tot.bindeq (idx_some hx) (Tot.bindeq (p_Back b c q.Ino (by omega)) (Tot.chk (by unfold InI64; dsimp only; omega) (Tot.inl ⟨⟨n + 1, rfl, hlt, List.filter_sublist.trans g2, fun x hx' hi => ?_⟩, by dsimp only; omega⟩)))
      obtain ⟨h1, h2⟩ := List.mem_filter.1 hx'
      rw [take_next hx, List.mem_append, List.mem_singleton]
      rintro (h | h)
      · exact g3 x h1 hi h
      · simp [h, hi] at h2
    · have : n = w.length := by have : ¬ n < w.length := by simpa using hge
                                omega
      subst this
      have := g3 x hx hi
      rwa [List.take_length] at this
  obtain ⟨hs3, hn3⟩ := hv3
  have hv3T : TabP v3 now l.length := hT.sub (hs3.trans List.filter_sublist) (Nat.le_refl _)
  have h3l := hv3T.len
  have hw3 : whoN v3 now Q = [] := by
    unfold whoN
    rw [List.map_eq_nil_iff, List.filter_eq_nil_iff]
    intro x hx hc
    rw [hq0] at hc
    have hxv := (List.mem_filter.1 hx).1
    refine hn3 x hxv (by rw [hQi]; exact clash_ino hc) ((hmem _).2 ?_)
    unfold whoN
    rw [hq0]
    exact List.mem_map.2 ⟨x, List.mem_filter.2 ⟨hs3.subset hxv, hc⟩, rfl⟩
  obtain ⟨x11, e11, hp11⟩ := t_Ask v3 now Q long (by omega) (by omega)
  have hT11 := hv3T.ask (by omega) hp11
  have hy11 := hp11.yes hg hw3 (by have := hkp v3 now; omega)
  refine Tot.bindeq e11 ?_
  -- when all are over
  refine Tot.bind (R := fun v : Int => (∀ x, x ∈ a → x.Until ≤ v) ∧ 0 ≤ v ∧ v ≤ now + 66) ?_ fun v4 hv4 => ?_
  · unfold law22_LeaseRecalls_L2
    refine Tot.loop (fun s : Int × Int => ∃ n : Nat, s.2 = n ∧ n ≤ a.length ∧ (∀ x, x ∈ a.take n → x.Until ≤ s.1) ∧ 0 ≤ s.1 ∧ s.1 ≤ now + 66) (fun s => ((a.length : Int) - s.2).toNat) ?_ _ ⟨0, rfl, Nat.zero_le _, fun x h => (by cases h), t0, by dsimp only; omega⟩
    rintro ⟨m, s⟩ ⟨n, e, g1, g2, g3, g4⟩
    dsimp only at e g2 g3 g4
    subst e
    unfold law22_LeaseRecalls_B2
    refine Tot.ite (fun hlt => ?_) fun hge => Tot.out (Tot.ret ?_)
    · have hlt : n < a.length := by simpa using hlt
      have hx := getLt hlt
      generalize a[n] = x at hx
      have hxu := (hT.one x (List.mem_of_getElem? hx)).2
      refine Tot.bindeq (idx_some hx) (Tot.chk (by unfold InI64; dsimp only; omega) (Tot.inl ⟨⟨n + 1, rfl, hlt, fun y hy => ?_, by dsimp only; omega, by dsimp only; omega⟩, by dsimp only; omega⟩))
      rw [take_next hx] at hy
      dsimp only
      rcases List.mem_append.1 hy with h | h
      · have := g2 y h; omega
      · rw [List.mem_singleton.1 h]; omega
    · have : n = a.length := by have : ¬ n < a.length := by simpa using hge
                                omega
      subst this
      rw [List.take_length] at g2
      exact ⟨g2, g3, g4⟩
  obtain ⟨hv41, hv42, hv43⟩ := hv4
  have ho4 : overN a v4 = [] := by
    unfold overN
    rw [List.filter_eq_nil_iff]
    intro x hx
    have := hv41 x hx
    simp; omega
  obtain ⟨x13, e13, hp13⟩ := t_Ask a v4 Q long (by omega) (by omega)
  have hy13 := hp13.yes hg (by unfold whoN; rw [ho4]; rfl) (by unfold keptN; rw [ho4]; exact (by decide : (0 : Nat) < 64))
  refine Tot.bindeq e13 ?_
  have h13l : x13.1.length = 1 := by rw [hy13]; unfold keptN; rw [ho4]; rfl
  have hright : lease_Right x11.1 = some true := t_right _ (by have := hT11.len; omega) ⟨fun x hx => (hT11.one x hx).1, hT11.sep.imp fun h => h.2⟩
  refine Tot.bind (R := (· = true)) ?_ fun _ h => Tot.ret h
  refine Tot.bindeq (a := true) (by rw [if_pos rfl, hy11]) (Tot.bindeq (a := true) (by rw [if_pos rfl, hy11]; rfl) (Tot.bindeq (a := true) (by rw [if_pos rfl, hright]; rfl) (Tot.bindeq (a := true) (by rw [if_pos rfl, hy13]) (Tot.bindeq (a := true) (by rw [if_pos rfl, h13l]; rfl) (Tot.ret rfl)))))
end Go.Proofs
