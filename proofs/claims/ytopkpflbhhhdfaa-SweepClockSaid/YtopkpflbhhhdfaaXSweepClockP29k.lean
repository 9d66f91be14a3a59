/- Sweeping, plain: later, and with more names. No condition. -/
import Derived.Test.YtopkpflbhhhdfaaXSweepClockP29j
namespace Go.Proofs
set_option linter.all false
open Go Go.Cat
set_option linter.all false

theorem open_later {leases : List api_Lease} {now now' : Int} (h : now ≤ now') {r : api_Room} (ho : openB leases now' r = true) : openB leases now r = true := by
  unfold openB at *
  obtain ⟨l, hl, hp⟩ := List.any_eq_true.1 ho
  refine List.any_eq_true.2 ⟨l, hl, ?_⟩
  simp only [Bool.and_eq_true, beq_iff_eq, decide_eq_true_eq] at *
  exact ⟨hp.1, hp.2.1, hp.2.2.1, by omega⟩
theorem open_more {a b : List api_Lease} {now : Int} {r : api_Room} (ho : openB a now r = true) : openB (a ++ b) now r = true := by
  unfold openB at *
  rw [List.any_append, ho]; rfl
theorem mem_keep {named : List api_Named} {rooms : List api_Room} {leases : List api_Lease} {now i : Int} : i ∈ keepIds named rooms leases now ↔ (∃ n, n ∈ named ∧ n.Id = i) ∨ ∃ r, r ∈ rooms ∧ openB leases now r = true ∧ r.Id = i := by
  unfold keepIds
  simp only [List.mem_append, List.mem_map, List.mem_filter]
  constructor
  · rintro (h | ⟨r, ⟨h1, h2⟩, h3⟩)
    · exact .inl h
    · exact .inr ⟨r, h1, h2, h3⟩
  · rintro (h | ⟨r, h1, h2, h3⟩)
    · exact .inl h
    · exact .inr ⟨r, ⟨h1, h2⟩, h3⟩
theorem sorted_idx {l : List Int} (h : l.Pairwise (· < ·)) {i j : Nat} {x y : Int} (hx : l[i]? = some x) (hy : l[j]? = some y) (hij : i < j) : x < y := by
  obtain ⟨hi, ex⟩ := List.getElem?_eq_some_iff.1 hx
  obtain ⟨hj, ey⟩ := List.getElem?_eq_some_iff.1 hy
  have := List.pairwise_iff_getElem.1 h i j hi hj hij
  rw [ex, ey] at this; exact this
theorem sortI_in {ids : List Int} {n : Nat} {x : Int} (h : (sortU ids)[n]? = some x) : x ∈ ids := mem_sortU.1 (List.mem_of_getElem? h)

theorem l_SweepLater (x : law29_Set) (now : Int) (later : Int) (more : law29_Set) (h1 : ok_law29_Set x) (h2 : ok_i64 now) (h3 : ok_u16 later) (h4 : ok_law29_Set more) : law29_SweepLater x now later more = some true := by
  refine Tot.eq ?_
  unfold law29_SweepLater
  refine Tot.bindeq p_head29 (Tot.bind (R := fun b => b = false → ((FitP modest x ∧ FitP modest more) ∧ now ≤ 1099511627776) ∧ -1099511627776 ≤ now) ?_ fun v hv => Tot.ite (fun _ => Tot.ret rfl) fun hn => ?_)
  · refine Tot.bind (t_Great29 t_Great x) fun b hb => Tot.bind (R := fun b => b = false → FitP modest x ∧ FitP modest more) (Tot.ite (fun _ => Tot.ret fun e => by cases e) fun hn => Tot.bind (t_Great29 t_Great more) fun c hc => Tot.ret fun e => ⟨hb (by simpa using hn), hc e⟩) fun c1 h1 => Tot.bind (R := fun b => b = false → (FitP modest x ∧ FitP modest more) ∧ now ≤ 1099511627776) (Tot.ite (fun _ => Tot.ret fun e => by cases e) fun hn => Tot.ret fun e => ⟨h1 (by simpa using hn), by simp at e; omega⟩) fun c2 h2 => Tot.bind (R := fun b => b = false → ((FitP modest x ∧ FitP modest more) ∧ now ≤ 1099511627776) ∧ -1099511627776 ≤ now) (Tot.ite (fun _ => Tot.ret fun e => by cases e) fun hn => Tot.ret fun e => ⟨h2 (by simpa using hn), by simp at e; omega⟩) fun _ h => Tot.ret h
  obtain ⟨⟨⟨f1, f2⟩, hw1⟩, hw2⟩ := hv (by simpa using hn)
  have F := fit_of f1 h1
  have M := fit_of f2 h4
  have hN := F.n; have hR := F.r; have hL := F.l; have hD := F.d
  have mN := M.n; have mR := M.r; have mL := M.l
  have hw : IntKind.i64.wrap later = later := by
    have h3' : 0 ≤ later ∧ later ≤ 65535 := h3
    exact IntWalk.i64_in _ (show InI64 later by unfold InI64; omega)
  have h3' : 0 ≤ later ∧ later ≤ 65535 := h3
  rw [hw]
  obtain ⟨K, hK⟩ : ∃ K, K = keepIds x.Named x.Rooms x.Leases now := ⟨_, rfl⟩
  obtain ⟨K2, hK2⟩ : ∃ K, K = keepIds x.Named x.Rooms x.Leases (now + later) := ⟨_, rfl⟩
  obtain ⟨K3, hK3⟩ : ∃ K, K = keepIds (x.Named ++ more.Named) (x.Rooms ++ more.Rooms) (x.Leases ++ more.Leases) now := ⟨_, rfl⟩
  have s2 : ∀ i, i ∈ K2 → i ∈ K := fun i hi => by
    rw [hK2, mem_keep] at hi
    rw [hK, mem_keep]
    rcases hi with hi | ⟨r, a1, a2, a3⟩
    · exact .inl hi
    · exact .inr ⟨r, a1, open_later (by omega) a2, a3⟩
  have s3 : ∀ i, i ∈ K → i ∈ K3 := fun i hi => by
    rw [hK, mem_keep] at hi
    rw [hK3, mem_keep]
    rcases hi with ⟨n, a1, a2⟩ | ⟨r, a1, a2, a3⟩
    · exact .inl ⟨n, List.mem_append_left _ a1, a2⟩
    · exact .inr ⟨r, List.mem_append_left _ a1, open_more a2, a3⟩
  have smd : ∀ d, d ∈ x.Disks → smallD d := fun d hd => (F.p d hd).small (by omega)
  have hgl : ∀ K, (sortU (goneIds x.Disks K)).length ≤ 1200 := fun K => by
    have := sortU_len (goneIds x.Disks K)
    have := gone_len K x.Disks
    omega
  have hkl : (sortU K).length ≤ 1000 := by
    have := sortU_len K
    have := keepIds_len (named := x.Named) (rooms := x.Rooms) (leases := x.Leases) (now := now)
    rw [← hK] at this; omega
  refine Tot.bindeq (a := sortU (goneIds x.Disks K)) (by rw [hK]; exact p_Gone (by omega) (by omega) (by omega) F.on F.or (by omega) smd) (Tot.chk (by unfold InI64; omega) (Tot.bindeq (a := sortU (goneIds x.Disks K2)) (by rw [hK2]; exact p_Gone (by omega) (by omega) (by omega) F.on F.or (by omega) smd) ?_))
  refine Tot.chk (by omega) (Tot.chk (by omega) (Tot.chk (by omega) (Tot.chk (by omega) (Tot.chk (by omega) (Tot.chk (by omega) (Tot.bindeq (a := sortU (goneIds x.Disks K3)) ?_ (Tot.bindeq (a := sortU K) (by rw [hK]; exact p_Keeps (by omega) (by omega) (by omega) F.on F.or) ?_)))))))
  · rw [hK3]
    exact p_Gone (by simp; omega) (by simp; omega) (by simp; omega) (fun n hn => by
      rcases List.mem_append.1 hn with e | e
      · exact F.on n e
      · exact M.on n e) (fun r hr => by
      rcases List.mem_append.1 hr with e | e
      · exact F.or r e
      · exact M.or r e) (by omega) smd
  obtain ⟨G, hG⟩ : ∃ G, G = sortU (goneIds x.Disks K) := ⟨_, rfl⟩
  obtain ⟨G2, hG2⟩ : ∃ G, G = sortU (goneIds x.Disks K2) := ⟨_, rfl⟩
  obtain ⟨G3, hG3⟩ : ∃ G, G = sortU (goneIds x.Disks K3) := ⟨_, rfl⟩
  have l1 := hgl K; have l2 := hgl K2; have l3 := hgl K3
  rw [← hG] at l1; rw [← hG2] at l2; rw [← hG3] at l3
  have m1 : ∀ i, i ∈ G ↔ i ∉ K ∧ ∃ d, d ∈ x.Disks ∧ i ∈ hasN d := fun i => by rw [hG, mem_sortU, mem_gone]
  have m2 : ∀ i, i ∈ G2 ↔ i ∉ K2 ∧ ∃ d, d ∈ x.Disks ∧ i ∈ hasN d := fun i => by rw [hG2, mem_sortU, mem_gone]
  have m3 : ∀ i, i ∈ G3 ↔ i ∉ K3 ∧ ∃ d, d ∈ x.Disks ∧ i ∈ hasN d := fun i => by rw [hG3, mem_sortU, mem_gone]
  have hsort : G.Pairwise (· < ·) := by rw [hG]; exact sortU_sorted _
  rw [← hG, ← hG2, ← hG3]
  have k3 : law29_SweepLater_L3 x (sortU K) G true 0 = some true := by
    refine Tot.eq ?_
    unfold law29_SweepLater_L3
    refine Tot.loop (fun s : Int => 0 ≤ s ∧ s ≤ (x.Disks.length : Int)) (fun s => ((x.Disks.length : Int) - s).toNat) ?_ 0 ⟨by simp, by simp⟩
    rintro s ⟨g0, g1⟩
    unfold law29_SweepLater_B3 law29_SweepLater_J3
    refine Tot.ite (fun hlt => ?_) (fun _ => Tot.out (Tot.ret rfl))
    have hlt : s < x.Disks.length := by simpa using hlt
    refine Tot.bind (Tot.idx g0 hlt (Q := fun y => x.Disks[s.toNat]? = some y) fun _ h => h) fun d hd => Tot.bindeq (p_Has d (smd d (List.mem_of_getElem? hd))) ?_
    have hsz := hasN_len d
    unfold law29_SweepLater_L4
    refine Tot.loop (fun q : Int => 0 ≤ q ∧ q ≤ ((hasN d).length : Int)) (fun q => (((hasN d).length : Int) - q).toNat) ?_ 0 ⟨by simp, by simp⟩
    rintro q ⟨q0, q1⟩
    unfold law29_SweepLater_B4 law29_SweepLater_J4
    refine Tot.ite (fun hlq => ?_) (fun _ => Tot.out (Tot.chk (by unfold InI64; omega) (Tot.inl ⟨⟨by omega, by omega⟩, by omega⟩)))
    have hlq : q < (hasN d).length := by simpa using hlq
    refine Tot.bind (Tot.idx q0 hlq (Q := fun y => (hasN d)[q.toNat]? = some y) fun _ h => h) fun i hi => Tot.bindeq (r_Has29 _ _ (by omega)) ?_
    have hidx : idx (hasN d) q = some i := by unfold idx; rw [if_pos q0]; exact hi
    have him := List.mem_of_getElem? hi
    have hdm := List.mem_of_getElem? hd
    refine Tot.bindeq hidx (Tot.bindeq (r_Has29 _ _ (by omega)) (Tot.ncond ?_ (Tot.chk (by unfold InI64; omega) (Tot.inl ⟨⟨by omega, by omega⟩, by omega⟩))))
    rw [beq_iff_eq]
    intro e
    have := decide_eq_decide.1 e
    rw [mem_sortU, m1] at this
    by_cases hk : i ∈ K
    · exact (this.1 hk).1 hk
    · exact hk (this.2 ⟨hk, d, hdm, him⟩)
  have k2 : law29_SweepLater_L2 G3 G x (sortU K) true 0 = some true := by
    refine Tot.eq ?_
    unfold law29_SweepLater_L2
    refine Tot.loop (fun s : Int => 0 ≤ s ∧ s ≤ (G3.length : Int)) (fun s => ((G3.length : Int) - s).toNat) ?_ 0 ⟨by simp, by simp⟩
    rintro s ⟨g0, g1⟩
    unfold law29_SweepLater_B2 law29_SweepLater_J2
    refine Tot.ite (fun hlt => ?_) (fun _ => Tot.out (Tot.of k3))
    have hlt : s < G3.length := by simpa using hlt
    refine Tot.bind (Tot.idx g0 hlt (Q := fun y => G3[s.toNat]? = some y) fun _ h => h) fun i hi => Tot.bindeq (r_Has29 _ _ (by omega)) (Tot.ncond ?_ (Tot.chk (by unfold InI64; omega) (Tot.inl ⟨⟨by omega, by omega⟩, by omega⟩)))
    have hm := (m3 i).1 (List.mem_of_getElem? hi)
    have : i ∈ G := (m1 i).2 ⟨fun hk => hm.1 (s3 i hk), hm.2⟩
    simp [this]
  unfold law29_SweepLater_L1
  refine Tot.loop (fun s : Int => 0 ≤ s ∧ s ≤ (G.length : Int)) (fun s => ((G.length : Int) - s).toNat) ?_ 0 ⟨by simp, by simp⟩
  rintro s ⟨g0, g1⟩
  unfold law29_SweepLater_B1 law29_SweepLater_J1
  refine Tot.ite (fun hlt => ?_) (fun _ => Tot.out (Tot.of k2))
  have hlt : s < G.length := by simpa using hlt
  refine Tot.bind (R := (· = false)) ?_ fun v hv => ?_
  · refine Tot.bind (Tot.idx g0 hlt (Q := fun y => G[s.toNat]? = some y) fun _ h => h) fun i hi => Tot.bindeq (r_Has29 _ _ (by omega)) ?_
    have hidx : idx G s = some i := by unfold idx; rw [if_pos g0]; exact hi
    have hm := (m1 i).1 (List.mem_of_getElem? hi)
    have h5 : i ∈ G2 := (m2 i).2 ⟨fun hk => hm.1 (s2 i hk), hm.2⟩
    refine Tot.bind (R := (· = false)) (Tot.ncond (by simp [h5]) (Tot.bindeq hidx (Tot.bindeq (r_Has29 _ _ (by omega)) (Tot.ret (decide_eq_false (by rw [mem_sortU]; exact hm.1)))))) fun c hc => ?_
    subst hc
    refine Tot.bind (R := (· = false)) (Tot.ncond (by decide) (Tot.bind (R := (· = false)) (Tot.ite (fun hp => ?_) fun _ => Tot.ret rfl) fun _ h => Tot.ret h)) fun _ h => Tot.ret h
    have hp : 0 < s := by simpa using hp
    refine Tot.chk (by unfold InI64; omega) (Tot.bind (Tot.idx (by omega) (by omega) (Q := fun y => G[(s - 1).toNat]? = some y) fun _ h => h) fun j hj => Tot.bindeq hidx (Tot.ret (decide_eq_false ?_)))
    have := sorted_idx hsort hj hi (by omega)
    omega
  subst hv
  exact Tot.ncond (by decide) (Tot.chk (by unfold InI64; omega) (Tot.inl ⟨⟨by omega, by omega⟩, by omega⟩))
end Go.Proofs
