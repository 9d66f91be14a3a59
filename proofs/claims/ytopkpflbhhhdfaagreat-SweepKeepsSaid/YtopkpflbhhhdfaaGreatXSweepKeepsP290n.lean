/- Sweeping, plain: what is kept is had as it was. No condition. -/
import Derived.Test.YtopkpflbhhhdfaaGreatXSweepKeepsP290k
namespace Go.Proofs
set_option linter.all false
open Go Go.Cat
set_option linter.all false

theorem p_room (l : List api_Room) (r : api_Room) (h : l.length ≤ 100000) (hm : r ∈ l) : law29_room l r = some true := by
  refine Tot.eq ?_
  unfold law29_room law29_room_L1
  refine Tot.loop (fun s : Int => 0 ≤ s ∧ s ≤ (l.length : Int) ∧ ∀ j : Nat, j < s.toNat → l[j]? ≠ some r) (fun s => ((l.length : Int) - s).toNat) ?_ 0 ⟨by simp, by simp, fun j hj => by simp at hj⟩
  rintro s ⟨g0, g1, g2⟩
  unfold law29_room_B1 law29_room_J1
  refine Tot.ite (fun hlt => ?_) (fun hge => ?_)
  · have hlt : s < l.length := by simpa using hlt
    refine Tot.bind (Tot.idx g0 hlt (Q := fun y => l[s.toNat]? = some y) fun _ h => h) fun y hy => Tot.ite (fun he => Tot.out (Tot.ret rfl)) fun hl => Tot.chk (by unfold InI64; omega) (Tot.inl ⟨⟨by omega, by omega, fun j hj e => ?_⟩, by omega⟩)
    rcases Nat.lt_or_ge j s.toNat with h | h
    · exact g2 j h e
    · have : j = s.toNat := by omega
      subst this
      rw [hy] at e; cases e
      simp at hl
  · exfalso
    obtain ⟨j, hj, e⟩ := List.getElem_of_mem hm
    have hge : ¬ s < l.length := by simpa using hge
    exact g2 j (by omega) (by rw [List.getElem?_eq_getElem hj, e])
theorem there_kept {disks : List api_Disk} {K : List Int} {d : api_Disk} {i : Int} (hi : i ∈ K) : thereN (dropN d (sortU (goneIds disks K))) i = thereN d i := by
  rw [there_drop, if_neg fun h => ?_]
  exact (mem_gone.1 (mem_sortU.1 (mem_drop.1 h).2)).1 hi

theorem l_SweepKeeps (x : law29_Set) (now : Int) (at_ : UInt8) (h1 : ok_law29_Set x) (h2 : ok_i64 now) (h3 : ok_u8 at_) : law29_SweepKeeps x now at_ = some true := by
  clear h2 h3
  refine Tot.eq ?_
  unfold law29_SweepKeeps
  refine Tot.bindeq p_head29 (Tot.bind (t_Great29 t_Great x) fun b hb => Tot.ite (fun _ => Tot.ret rfl) fun hn => ?_)
  have F := fit_of (hb (by simpa using hn)) h1
  have hN := F.n; have hR := F.r; have hL := F.l; have hD := F.d
  refine Tot.bindeq (p_Sweep (by omega) (by omega) (by omega) F.on F.or (by omega) fun d hd => (F.p d hd).mono (by omega)) ?_
  obtain ⟨K, hK⟩ : ∃ K, K = keepIds x.Named x.Rooms x.Leases now := ⟨_, rfl⟩
  obtain ⟨left, hl⟩ : ∃ l, l = x.Rooms.filter (openB x.Leases now) := ⟨_, rfl⟩
  obtain ⟨a, ha⟩ : ∃ a, a = sweptN x.Disks (sortU (goneIds x.Disks K)) := ⟨_, rfl⟩
  rw [← hK, ← hl, ← ha]
  have hlen : a.length = x.Disks.length := by rw [ha]; unfold sweptN; rw [List.length_map]
  have hleft : left.length ≤ 60 := by rw [hl]; exact Nat.le_trans (List.length_filter_le _ _) hR
  refine Tot.ncond (by simp [hlen]) ?_
  refine Tot.bind (R := fun v : List Int => v.length ≤ 1 ∧ ∀ i, i ∈ v → i ∈ K) (Tot.ite (fun hp => ?_) fun _ => Tot.ret ⟨by simp, fun i hi => by cases hi⟩) fun v hv => ?_
  · have hp : 0 < x.Named.length := by have : (x.Named.length : Int) > 0 := by simpa using hp
                                       omega
    have t1 : Int.tmod ((at_.toNat : Int)) (x.Named.length : Int) = (at_.toNat : Int) % (x.Named.length : Int) := Int.tmod_eq_emod_of_nonneg (by omega)
    have t2 := Int.emod_nonneg (at_.toNat : Int) (show (x.Named.length : Int) ≠ 0 by omega)
    have t3 := Int.emod_lt_of_pos (at_.toNat : Int) (show 0 < (x.Named.length : Int) by omega)
    refine Tot.chk (by omega) (Tot.bind (Tot.idx (by omega) (by omega) (Q := fun n => n ∈ x.Named) fun _ h => List.mem_of_getElem? h) fun n hn => Tot.chk (by simp) (Tot.ret ⟨by simp, fun i hi => ?_⟩))
    rw [List.mem_singleton.1 hi, hK]
    unfold keepIds
    exact List.mem_append_left _ (List.mem_map.2 ⟨n, hn, rfl⟩)
  have k3 : ∀ ids : List Int, ids.length ≤ 1000 → (∀ i, i ∈ ids → i ∈ K) → law29_SweepKeeps_L3 ids (a, left) x true 0 = some true := fun ids hil hik => by
    refine Tot.eq ?_
    unfold law29_SweepKeeps_L3
    refine Tot.loop (fun s : Int => 0 ≤ s ∧ s ≤ (ids.length : Int)) (fun s => ((ids.length : Int) - s).toNat) ?_ 0 ⟨by simp, by simp⟩
    rintro s ⟨g0, g1⟩
    unfold law29_SweepKeeps_B3 law29_SweepKeeps_J3
    refine Tot.ite (fun hlt => ?_) (fun _ => Tot.out (Tot.ret rfl))
    have hlt : s < ids.length := by simpa using hlt
    obtain ⟨i, hi⟩ : ∃ i, ids[s.toNat]? = some i := ⟨_, getLt (by omega)⟩
    have hidx : idx ids s = some i := by unfold idx; rw [if_pos g0]; exact hi
    have hiK := hik i (List.mem_of_getElem? hi)
    unfold law29_SweepKeeps_L4
    refine Tot.loop (fun q : Int => 0 ≤ q ∧ q ≤ (a.length : Int)) (fun q => ((a.length : Int) - q).toNat) ?_ 0 ⟨by simp, by simp⟩
    rintro q ⟨q0, q1⟩
    unfold law29_SweepKeeps_B4 law29_SweepKeeps_J4
    refine Tot.ite (fun hlq => ?_) (fun _ => Tot.out (Tot.chk (by unfold InI64; omega) (Tot.inl ⟨⟨by omega, by omega⟩, by omega⟩)))
    have hlq : q < a.length := by simpa using hlq
    refine Tot.bind (Tot.idx q0 (by omega) (Q := fun y => x.Disks[q.toNat]? = some y) fun _ h => h) fun d hd => Tot.bindeq hidx ?_
    have hdm := List.mem_of_getElem? hd
    have had : a[q.toNat]? = some (dropN d (sortU (goneIds x.Disks K))) := by rw [ha]; unfold sweptN; rw [List.getElem?_map, hd]; rfl
    have hida : idx a q = some (dropN d (sortU (goneIds x.Disks K))) := by unfold idx; rw [if_pos q0]; exact had
    have okd := F.p d hdm
    have okn := ok_drop okd (sortU (goneIds x.Disks K))
    obtain ⟨g10, e10, -, l10, -⟩ := t_GetS d i (okd.small (by omega))
    have e13 : chunk_Get (dropN d (sortU (goneIds x.Disks K))) i = some g10 := by
      rw [← e10]
      exact Get_congr (okn.small (by omega)) (okd.small (by omega)) (there_kept hiK)
    refine Tot.bindeq e10 (Tot.bindeq hida (Tot.bindeq hidx (Tot.bindeq e13 ?_)))
    refine Tot.bind (R := (· = false)) (Tot.bind (R := (· = false)) (Tot.ncond (by simp) (Tot.bind (p_Same g10.1 g10.1 ⟨by omega, by omega⟩) fun b hb => Tot.ret (by rw [hb.2 rfl]; rfl))) fun _ h => Tot.ret h) fun v hv => ?_
    subst hv
    exact Tot.ncond (by decide) (Tot.chk (by unfold InI64; omega) (Tot.inl ⟨⟨by omega, by omega⟩, by omega⟩))
  unfold law29_SweepKeeps_L1
  refine Tot.loop (fun s : Int × List Int => 0 ≤ s.1 ∧ s.1 ≤ (x.Rooms.length : Int) ∧ (s.2.length : Int) ≤ 1 + s.1 ∧ ∀ i, i ∈ s.2 → i ∈ K) (fun s => ((x.Rooms.length : Int) - s.1).toNat) ?_ (0, v) ⟨by simp, by simp, by have := hv.1; dsimp only; omega, hv.2⟩
  rintro ⟨s, ids⟩ ⟨g0, g1, g2, g3⟩
  dsimp only at g0 g1 g2 g3
  unfold law29_SweepKeeps_B1 law29_SweepKeeps_J1
  refine Tot.ite (fun hlt => ?_) (fun _ => Tot.out (Tot.of (k3 ids (by omega) g3)))
  have hlt : s < x.Rooms.length := by simpa using hlt
  refine Tot.bind (Tot.idx g0 hlt (Q := fun y => x.Rooms[s.toNat]? = some y) fun _ h => h) fun r hr => ?_
  have hrm := List.mem_of_getElem? hr
  unfold law29_SweepKeeps_L2
  refine Tot.loop (fun q : Int => 0 ≤ q ∧ q ≤ (x.Leases.length : Int)) (fun q => ((x.Leases.length : Int) - q).toNat) ?_ 0 ⟨by simp, by simp⟩
  rintro q ⟨q0, q1⟩
  unfold law29_SweepKeeps_B2 law29_SweepKeeps_J2
  refine Tot.ite (fun hlq => ?_) (fun _ => Tot.out (Tot.chk (by unfold InI64; dsimp only; omega) (Tot.inl ⟨⟨by dsimp only; omega, by dsimp only; omega, by dsimp only; omega, g3⟩, by dsimp only; omega⟩)))
  have hlq : q < x.Leases.length := by simpa using hlq
  refine Tot.bind (Tot.idx q0 hlq (Q := fun y => x.Leases[q.toNat]? = some y) fun _ h => h) fun l hl' => ?_
  have hc : (((if (l.Client == r.Client) then some ((l.Ino == r.Ino)) else some false).bind fun c1 => (if c1 then some ((l.Kind == 2)) else some false).bind fun c2 => (if c2 then some ((decide (l.Until > now))) else some false).bind fun c3 => some c3) : Option Bool) = some (l.Client == r.Client && (l.Ino == r.Ino && (l.Kind == 2 && decide (l.Until > now)))) := by
    cases (l.Client == r.Client) <;> cases (l.Ino == r.Ino) <;> cases (l.Kind == 2) <;> rfl
  refine Tot.bindeq hc (Tot.ite (fun ht => ?_) fun _ => Tot.chk (by unfold InI64; omega) (Tot.inl ⟨⟨by omega, by omega⟩, by omega⟩))
  have ho : openB x.Leases now r = true := List.any_eq_true.2 ⟨l, List.mem_of_getElem? hl', ht⟩
  have hrl : r ∈ left := by rw [hl]; exact List.mem_filter.2 ⟨hrm, ho⟩
  have hrK : r.Id ∈ K := by rw [hK]; unfold keepIds; exact List.mem_append_right _ (List.mem_map.2 ⟨r, List.mem_filter.2 ⟨hrm, ho⟩, rfl⟩)
  refine Tot.chk (by simp; omega) (Tot.bindeq (p_room left r (by omega) hrl) (Tot.ncond (by decide) (Tot.out (Tot.chk (by unfold InI64; dsimp only; omega) (Tot.inl ⟨⟨by dsimp only; omega, by dsimp only; omega, by simp; omega, fun i hi => ?_⟩, by dsimp only; omega⟩)))))
  rcases List.mem_append.1 hi with e | e
  · exact g3 i e
  · rw [List.mem_singleton.1 e]; exact hrK
end Go.Proofs
