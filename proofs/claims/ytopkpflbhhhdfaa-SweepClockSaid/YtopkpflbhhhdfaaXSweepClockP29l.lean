/- Sweeping, plain: names taken away. No condition. -/
import Derived.Test.YtopkpflbhhhdfaaXSweepClockP29k
namespace Go.Proofs
set_option linter.all false
open Go Go.Cat
set_option linter.all false

theorem fold_keep {α : Type} (p : α → Bool) : ∀ (l w : List α), l.foldl (fun w i => if p i = true then w ++ [i] else w) w = w ++ l.filter p := by
  intro l
  induction l with
  | nil => intro w; simp
  | cons y l ih =>
    intro w
    rw [List.foldl_cons, ih]
    cases hy : p y with
    | true => simp [hy]
    | false => simp [hy]

theorem l_SweepNames (x : law29_Set) (now : Int) (a : api_Named) (b : api_Named) (h1 : ok_law29_Set x) (h2 : ok_i64 now) (h3 : ok_api_Named a) (h4 : ok_api_Named b) : law29_SweepNames x now a b = some true := by
  have hid : InI64 a.Id := h3.2.2.2
  clear h2 h3 h4
  refine Tot.eq ?_
  unfold law29_SweepNames
  refine Tot.bindeq p_head29 (Tot.bind (t_Great29 t_Great x) fun v hv => Tot.ite (fun _ => Tot.ret rfl) fun hn => ?_)
  have F := fit_of (hv (by simpa using hn)) h1
  have hN := F.n; have hR := F.r; have hL := F.l; have hD := F.d
  obtain ⟨N, eN⟩ : ∃ N, N = x.Named.filter (fun n => n.Id != a.Id) := ⟨_, rfl⟩
  obtain ⟨R, eR⟩ : ∃ R, R = x.Rooms.filter (fun r => r.Id != a.Id) := ⟨_, rfl⟩
  have lN : N.length ≤ 60 := by rw [eN]; exact Nat.le_trans (List.length_filter_le _ _) hN
  have lR : R.length ≤ 60 := by rw [eR]; exact Nat.le_trans (List.length_filter_le _ _) hR
  refine Tot.bindeq (a := N) ?_ (Tot.bindeq (a := R) ?_ ?_)
  · unfold law29_SweepNames_L1
    have h := loop_eachN (b := x.Named) (B := law29_SweepNames_B1 x a) (fun w n => if (n.Id != a.Id) = true then w ++ [n] else w) (fun n w => w.length ≤ n) id (fun w n i hw hx hlt => ⟨by
      refine Tot.eq ?_
      unfold law29_SweepNames_B1
      refine Tot.cond (by simp; omega) (Tot.bind (R := (· = if (i.Id != a.Id) = true then w ++ [i] else w)) (Tot.bindeq (idx_some hx) (Tot.ite (fun h => ?_) fun h => ?_)) fun v hv => Tot.chk (by unfold InI64; dsimp only; omega) (Tot.ret (by rw [hv])))
      · rw [if_pos h]; exact Tot.bindeq (idx_some hx) (Tot.chk (by simp; omega) (Tot.ret rfl))
      · rw [if_neg h]; exact Tot.ret rfl, by
      have : (w ++ [i]).length = w.length + 1 := by simp
      split <;> omega⟩) (fun m hm => by
      unfold law29_SweepNames_B1
      rw [if_neg (by simp)]; rfl) [] (Nat.le_refl _)
    exact h.1.trans (congrArg some ((fold_keep _ x.Named []).trans ((List.nil_append _).trans eN.symm)))
  · unfold law29_SweepNames_L2
    have h := loop_eachN (b := x.Rooms) (B := law29_SweepNames_B2 x a) (fun w n => if (n.Id != a.Id) = true then w ++ [n] else w) (fun n w => w.length ≤ n) id (fun w n i hw hx hlt => ⟨by
      refine Tot.eq ?_
      unfold law29_SweepNames_B2
      refine Tot.cond (by simp; omega) (Tot.bind (R := (· = if (i.Id != a.Id) = true then w ++ [i] else w)) (Tot.bindeq (idx_some hx) (Tot.ite (fun h => ?_) fun h => ?_)) fun v hv => Tot.chk (by unfold InI64; dsimp only; omega) (Tot.ret (by rw [hv])))
      · rw [if_pos h]; exact Tot.bindeq (idx_some hx) (Tot.chk (by simp; omega) (Tot.ret rfl))
      · rw [if_neg h]; exact Tot.ret rfl, by
      have : (w ++ [i]).length = w.length + 1 := by simp
      split <;> omega⟩) (fun m hm => by
      unfold law29_SweepNames_B2
      rw [if_neg (by simp)]; rfl) [] (Nat.le_refl _)
    exact h.1.trans (congrArg some ((fold_keep _ x.Rooms []).trans ((List.nil_append _).trans eR.symm)))
  have oN : ∀ n, n ∈ N → InI64 n.Id := fun n hn => F.on n (by rw [eN] at hn; exact (List.mem_filter.1 hn).1)
  have oR : ∀ r, r ∈ R → InI64 r.Id := fun r hr => F.or r (by rw [eR] at hr; exact (List.mem_filter.1 hr).1)
  have nN : ∀ n, n ∈ N → n.Id ≠ a.Id := fun n hn => by rw [eN] at hn; simpa using (List.mem_filter.1 hn).2
  have nR : ∀ r, r ∈ R → r.Id ≠ a.Id := fun r hr => by rw [eR] at hr; simpa using (List.mem_filter.1 hr).2
  obtain ⟨c, hc⟩ : ∃ c : api_Named, c = ⟨b.Ino, b.Shot, b.Page, a.Id⟩ := ⟨_, rfl⟩
  have hcid : c.Id = a.Id := by rw [hc]
  rw [← hc]
  obtain ⟨K, hK⟩ : ∃ K, K = keepIds N R x.Leases now := ⟨_, rfl⟩
  obtain ⟨K1, hK1⟩ : ∃ K, K = keepIds (N ++ [c]) R x.Leases now := ⟨_, rfl⟩
  obtain ⟨K2, hK2⟩ : ∃ K, K = keepIds (N ++ [a, c]) R x.Leases now := ⟨_, rfl⟩
  have nK : a.Id ∉ K := fun h => by
    rw [hK, mem_keep] at h
    rcases h with ⟨n, a1, a2⟩ | ⟨r, a1, -, a3⟩
    · exact nN n a1 a2
    · exact nR r a1 a3
  have m1 : ∀ i, i ∈ K1 ↔ i = a.Id ∨ i ∈ K := fun i => by
    rw [hK1, hK]; unfold keepIds
    simp only [List.map_append, List.map_cons, List.map_nil, List.mem_append, List.mem_singleton, hcid]
    constructor
    · rintro ((h | h) | h)
      · exact .inr (.inl h)
      · exact .inl h
      · exact .inr (.inr h)
    · rintro (h | h | h)
      · exact .inl (.inr h)
      · exact .inl (.inl h)
      · exact .inr h
  have m2 : ∀ i, i ∈ K2 ↔ i ∈ K1 := fun i => by
    rw [hK2, hK1]; unfold keepIds
    simp only [List.map_append, List.map_cons, List.map_nil, List.mem_append, List.mem_singleton, List.mem_cons, hcid, or_self, List.not_mem_nil, or_false]
  have e12 : sortU K1 = sortU K2 := sortU_ext fun i => (m2 i).symm
  have kl : ∀ (l : List api_Named), l.length ≤ 70 → (sortU (keepIds l R x.Leases now)).length ≤ 1000 := fun l hl => by
    have := sortU_len (keepIds l R x.Leases now)
    have := keepIds_len (named := l) (rooms := R) (leases := x.Leases) (now := now)
    omega
  have okN1 : ∀ n, n ∈ N ++ [c] → InI64 n.Id := fun n hn => by
    rcases List.mem_append.1 hn with e | e
    · exact oN n e
    · rw [List.mem_singleton.1 e, hcid]; exact hid
  have okN2 : ∀ n, n ∈ N ++ [a, c] → InI64 n.Id := fun n hn => by
    rcases List.mem_append.1 hn with e | e
    · exact oN n e
    · rcases List.mem_cons.1 e with e | e
      · rw [e]; exact hid
      · rw [List.mem_singleton.1 e, hcid]; exact hid
  refine Tot.chk (by omega) (Tot.chk (by simp; omega) (Tot.bindeq (a := sortU K2) (by rw [hK2]; exact p_Keeps (by simp; omega) (by omega) (by omega) okN2 oR) (Tot.chk (by omega) (Tot.chk (by simp; omega) (Tot.bindeq (a := sortU K1) (by rw [hK1]; exact p_Keeps (by simp; omega) (by omega) (by omega) okN1 oR) ?_)))))
  refine Tot.bindeq (a := sortU K) (by rw [hK]; exact p_Keeps (by omega) (by omega) (by omega) oN oR) (Tot.bindeq (p_Sweep (by omega) (by omega) (by omega) oN oR (by omega) fun d hd => (F.p d hd).mono (by omega)) ?_)
  rw [← hK]
  have l0 : (sortU K).length ≤ 1000 := by rw [hK]; exact kl N (by omega)
  have l1 : (sortU K1).length ≤ 1000 := by rw [hK1]; exact kl (N ++ [c]) (by simp; omega)
  have hlen : (sortU K).length + 1 = (sortU K1).length := by
    have hp : (a.Id :: sortU K).Perm (sortU K1) := by
      refine (List.perm_ext_iff_of_nodup ?_ ?_).2 fun i => ?_
      · rw [List.nodup_cons]; exact ⟨fun h => nK (mem_sortU.1 h), (sortU_sorted K).imp fun h => Int.ne_of_lt h⟩
      · exact (sortU_sorted K1).imp fun h => Int.ne_of_lt h
      · rw [List.mem_cons, mem_sortU, mem_sortU, m1]
    have := hp.length_eq
    simpa using this
  obtain ⟨D, hD'⟩ : ∃ D, D = sweptN x.Disks (sortU (goneIds x.Disks K)) := ⟨_, rfl⟩
  have hDl : D.length = x.Disks.length := by rw [hD']; unfold sweptN; rw [List.length_map]
  rw [← hD']
  refine Tot.bind (R := (· = false)) ?_ fun v hv => ?_
  · refine Tot.bind (p_RInts (sortU K1) (sortU K2) (by omega)) fun q hq => ?_
    have hq : q = true := hq.2 e12
    subst hq
    refine Tot.bind (R := (· = false)) (Tot.ncond (by decide) (Tot.bindeq (r_Has29 _ _ (by omega)) (Tot.ret ?_))) fun c1 h1 => ?_
    · have : a.Id ∈ sortU K1 := mem_sortU.2 ((m1 _).2 (.inl rfl))
      simp [this]
    subst h1
    refine Tot.bind (R := (· = false)) (Tot.ncond (by decide) (Tot.bindeq (r_Has29 _ _ (by omega)) (Tot.ret (decide_eq_false (by rw [mem_sortU]; exact nK))))) fun c2 h2 => ?_
    subst h2
    refine Tot.bind (R := (· = false)) (Tot.ncond (by decide) (Tot.chk (by unfold InI64; omega) (Tot.ret ?_))) fun c3 h3 => ?_
    · have : ((sortU K).length : Int) + 1 = ((sortU K1).length : Int) := by omega
      simp [this]
    subst h3
    exact Tot.bind (R := (· = false)) (Tot.ncond (by decide) (Tot.ret (by simp [hDl]))) fun _ h => Tot.ret h
  subst hv
  refine Tot.ncond (by decide) ?_
  unfold law29_SweepNames_L3
  refine Tot.loop (fun s : Int => 0 ≤ s ∧ s ≤ (D.length : Int)) (fun s => ((D.length : Int) - s).toNat) ?_ 0 ⟨by simp, by simp⟩
  rintro s ⟨g0, g1⟩
  unfold law29_SweepNames_B3 law29_SweepNames_J1
  refine Tot.ite (fun hlt => ?_) (fun _ => Tot.out (Tot.ret rfl))
  have hlt : s < D.length := by simpa using hlt
  refine Tot.bind (Tot.idx g0 hlt (Q := fun y => D[s.toNat]? = some y) fun _ h => h) fun e he => ?_
  have hm := List.mem_of_getElem? he
  rw [hD'] at hm
  obtain ⟨d, hd, rfl⟩ := List.mem_map.1 hm
  have ok := ok_drop (F.p d hd) (sortU (goneIds x.Disks K))
  have := hasN_len (dropN d (sortU (goneIds x.Disks K)))
  refine Tot.bindeq (p_Has _ (ok.small (by omega))) (Tot.bindeq (r_Has29 _ _ (by omega)) (Tot.ncond ?_ (Tot.chk (by unfold InI64; omega) (Tot.inl ⟨⟨by omega, by omega⟩, by omega⟩))))
  rw [decide_eq_true_iff, has_kept hd, List.mem_filter]
  exact fun h => nK (of_decide_eq_true h.2)
end Go.Proofs
