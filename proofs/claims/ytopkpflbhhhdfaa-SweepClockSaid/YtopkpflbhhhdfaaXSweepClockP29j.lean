/- Sweeping, plain: all that is behind a sweep. No condition. -/
import Derived.Test.YtopkpflbhhhdfaaXSweepClockP29i
namespace Go.Proofs
set_option linter.all false
open Go Go.Cat
set_option linter.all false

theorem not_gone {disks : List api_Disk} {K : List Int} {d : api_Disk} (hd : d ∈ disks) {x : Int} (hx : x ∈ hasN d) : x ∉ sortU (goneIds disks K) ↔ x ∈ K := by
  rw [mem_sortU, mem_gone]
  constructor
  · intro h
    exact Classical.byContradiction fun hk => h ⟨hk, d, hd, hx⟩
  · exact fun hk h => h.1 hk
theorem has_kept {disks : List api_Disk} {K : List Int} {d : api_Disk} (hd : d ∈ disks) : hasN (dropN d (sortU (goneIds disks K))) = (hasN d).filter fun x => decide (x ∈ K) := by
  rw [has_drop]
  refine List.filter_congr fun x hx => ?_
  exact decide_eq_decide.2 (not_gone hd hx)
theorem none_gone (disks : List api_Disk) (K : List Int) : goneIds (sweptN disks (sortU (goneIds disks K))) K = [] := by
  rw [List.eq_nil_iff_forall_not_mem]
  intro x hx
  obtain ⟨hk, e, he, hh⟩ := mem_gone.1 hx
  obtain ⟨d, hd, rfl⟩ := List.mem_map.1 he
  rw [has_kept hd, List.mem_filter] at hh
  exact hk (of_decide_eq_true hh.2)
theorem drop_nil (d : api_Disk) : dropN d (sortU []) = d := by
  have h : dropIds d (sortU []) = [] := by
    rw [List.eq_nil_iff_forall_not_mem]
    intro x hx
    exact absurd (mem_sortU.1 (mem_drop.1 hx).2) (by simp)
  unfold dropN
  rw [if_pos h]
theorem swept_nil (disks : List api_Disk) : sweptN disks (sortU []) = disks := by
  unfold sweptN
  exact (List.map_congr_left fun d _ => drop_nil d).trans (List.map_id _)
theorem keep_left (named : List api_Named) (rooms : List api_Room) (leases : List api_Lease) (now : Int) : keepIds named (rooms.filter (openB leases now)) leases now = keepIds named rooms leases now := by
  unfold keepIds
  rw [List.filter_filter]
  simp
theorem has_congr {d e : api_Disk} (h : ∀ a, thereN d a = thereN e a) : hasN d = hasN e := by
  unfold hasN
  simp only [h]
theorem len_filter {α : Type} {p : α → Bool} : ∀ {l : List α}, (l.filter p).length = l.length → ∀ x, x ∈ l → p x = true
  | [], _, x, hx => by simp at hx
  | y :: l, h, x, hx => by
    have := List.length_filter_le p l
    cases hp : p y with
    | false => rw [List.filter_cons_of_neg (by simp [hp]), List.length_cons] at h; omega
    | true =>
      rw [List.filter_cons_of_pos hp, List.length_cons, List.length_cons] at h
      rcases List.mem_cons.1 hx with e | e
      · rw [e]; exact hp
      · exact len_filter (by omega) x e

theorem l_SweepAll (x : law29_Set) (now : Int) (keep : Int) (h1 : ok_law29_Set x) (h2 : ok_i64 now) (h3 : ok_i64 keep) : law29_SweepAll x now keep = some true := by
  clear h2 h3
  refine Tot.eq ?_
  unfold law29_SweepAll
  refine Tot.bindeq p_head29 (Tot.bind (t_Great29 t_Great x) fun b hb => Tot.ite (fun _ => Tot.ret rfl) fun hn => ?_)
  have F := fit_of (hb (by simpa using hn)) h1
  have hN := F.n; have hR := F.r; have hL := F.l; have hD := F.d
  obtain ⟨K, hK⟩ : ∃ K, K = keepIds x.Named x.Rooms x.Leases now := ⟨_, rfl⟩
  obtain ⟨left, hl⟩ : ∃ l, l = x.Rooms.filter (openB x.Leases now) := ⟨_, rfl⟩
  obtain ⟨a, ha⟩ : ∃ a, a = sweptN x.Disks (sortU (goneIds x.Disks K)) := ⟨_, rfl⟩
  have hlen : a.length = x.Disks.length := by rw [ha]; unfold sweptN; rw [List.length_map]
  have hleft : left.length ≤ 60 := by rw [hl]; exact Nat.le_trans (List.length_filter_le _ _) hR
  have oka : ∀ d, d ∈ a → OkS d 320 := fun d hd => by
    rw [ha] at hd
    obtain ⟨e, he, rfl⟩ := List.mem_map.1 hd
    exact ok_drop (F.p e he) _
  refine Tot.bindeq (a := sortU K) (by rw [hK]; exact p_Keeps (by omega) (by omega) (by omega) F.on F.or) ?_
  refine Tot.bindeq (a := (a, left)) (by rw [ha, hl, hK]; exact p_Sweep (by omega) (by omega) (by omega) F.on F.or (by omega) fun d hd => (F.p d hd).mono (by omega)) ?_
  refine Tot.bindeq (a := (a, left)) ?_ ?_
  · rw [p_Sweep (by omega) (by dsimp only; omega) (by omega) F.on (fun r hr => F.or r (by rw [hl] at hr; exact (List.mem_filter.1 hr).1)) (by omega) fun d hd => (oka d hd).mono (by omega)]
    dsimp only
    rw [hl, keep_left, ← hK, ha, none_gone, swept_nil, List.filter_filter]
    simp
  dsimp only
  refine Tot.bind (R := (· = false)) ?_ fun v hv => ?_
  · refine Tot.bind (R := (· = false)) (Tot.ncond (by simp [hlen]) (Tot.bindeq (r_Disks a (by omega) fun d hd => (oka d hd).mono (by omega)) (Tot.ret rfl))) fun c hc => ?_
    subst hc
    exact Tot.bind (R := (· = false)) (Tot.ncond (by decide) (Tot.bindeq (r_Rooms left (by omega)) (Tot.ret rfl))) fun _ h => Tot.ret h
  subst hv
  refine Tot.ncond (by decide) ?_
  unfold law29_SweepAll_L1
  refine Tot.loop (fun s : Int => 0 ≤ s ∧ s ≤ (a.length : Int)) (fun s => ((a.length : Int) - s).toNat) ?_ 0 ⟨by simp, by simp⟩
  rintro s ⟨g0, g1⟩
  unfold law29_SweepAll_B1 law29_SweepAll_J1
  refine Tot.ite (fun hlt => ?_) (fun _ => Tot.out (Tot.ret rfl))
  have hlt : s < a.length := by simpa using hlt
  refine Tot.bind (Tot.idx g0 (by omega) (Q := fun y => x.Disks[s.toNat]? = some y) fun _ h => h) fun d hd => ?_
  have hdm := List.mem_of_getElem? hd
  have had : a[s.toNat]? = some (dropN d (sortU (goneIds x.Disks K))) := by rw [ha]; unfold sweptN; rw [List.getElem?_map, hd]; rfl
  have okd := F.p d hdm
  have hh := has_kept (K := K) hdm
  have okn := ok_drop okd (sortU (goneIds x.Disks K))
  obtain ⟨e, he⟩ : ∃ e, e = dropN d (sortU (goneIds x.Disks K)) := ⟨_, rfl⟩
  rw [← he] at had hh okn
  have hsz := hasN_len d
  have hKl : (sortU K).length ≤ 1000000 := by
    have := sortU_len K
    have := keepIds_len (named := x.Named) (rooms := x.Rooms) (leases := x.Leases) (now := now)
    rw [← hK] at this; omega
  have hids : idx a s = some e := by unfold idx; rw [if_pos g0]; exact had
  obtain ⟨W, hW⟩ : ∃ W, W = (hasN d).filter fun x => decide (x ∈ K) := ⟨_, rfl⟩
  rw [← hW] at hh
  have hWl : W.length ≤ 200 := by rw [hW]; exact Nat.le_trans (List.length_filter_le _ _) hsz
  refine Tot.bindeq (p_Has d (okd.small (by omega))) (Tot.bindeq (a := W) ?_ ?_)
  · unfold law29_SweepAll_L2
    have h := loop_eachN (b := hasN d) (B := law29_SweepAll_B2 (hasN d) (sortU K)) (fun w i => if decide (i ∈ K) = true then w ++ [i] else w) (fun n w => w.length ≤ n) id (fun w n i hw hx hlt => ⟨by
      refine Tot.eq ?_
      unfold law29_SweepAll_B2
      refine Tot.cond (by simp; omega) (Tot.bind (R := (· = if decide (i ∈ K) = true then w ++ [i] else w)) (Tot.bindeq (idx_some hx) (Tot.bindeq (r_Has29 _ _ hKl) (Tot.ite (fun h => ?_) fun h => ?_))) fun v hv => Tot.chk (by unfold InI64; dsimp only; omega) (Tot.ret (by rw [hv])))
      · rw [if_pos (by rw [decide_eq_true_iff, mem_sortU] at h; simpa using h)]; exact Tot.bindeq (idx_some hx) (Tot.chk (by simp; omega) (Tot.ret rfl))
      · rw [if_neg (by rw [decide_eq_true_iff, mem_sortU] at h; simpa using h)]; exact Tot.ret rfl, by
      have : (w ++ [i]).length = w.length + 1 := by simp
      split <;> omega⟩) (fun m hm => by
      unfold law29_SweepAll_B2
      rw [if_neg (by simp)]; rfl) [] (Nat.le_refl _)
    refine h.1.trans ?_
    have key : ∀ (l w : List Int), l.foldl (fun w i => if decide (i ∈ K) = true then w ++ [i] else w) w = w ++ l.filter (fun x => decide (x ∈ K)) := by
      intro l
      induction l with
      | nil => intro w; simp
      | cons y l ih =>
        intro w
        rw [List.foldl_cons, ih]
        by_cases hy : y ∈ K
        · simp [hy]
        · simp [hy]
    exact congrArg some ((key (hasN d) []).trans ((List.nil_append _).trans hW.symm))
  refine Tot.bindeq hids (Tot.bindeq (a := W) (by rw [← hh]; exact p_Has e (okn.small (by omega))) (Tot.bindeq (a := true) (Tot.eq ((p_RInts W W (by omega)).mono fun _ h => h.2 rfl)) (Tot.ncond (by decide) ?_)))
  have hgo : Tot (law29_SweepAll_J2 s ()) (RdP (fun s' : Int => (0 ≤ s' ∧ s' ≤ (a.length : Int)) ∧ ((a.length : Int) - s').toNat < ((a.length : Int) - s).toNat) (· = true)) := by
    unfold law29_SweepAll_J2
    exact Tot.chk (by unfold InI64; omega) (Tot.inl ⟨⟨by omega, by omega⟩, by omega⟩)
  refine Tot.bind (R := fun v => v = false → W.length ≠ (hasN d).length) (Tot.bind (R := fun v => v = false → W.length ≠ (hasN d).length) (Tot.ite (fun _ => Tot.ret fun e => by cases e) fun hne => Tot.bind (R := fun _ => True) (Tot.idx g0 (by omega) (Q := fun _ => True) fun _ _ => trivial) fun _ _ => Tot.ret fun _ => by simp at hne; omega) fun _ h => Tot.ret h) fun v hv => Tot.ite (fun _ => hgo) fun hf => ?_
  have hne := hv (by simpa using hf)
  have hdr : dropIds d (sortU (goneIds x.Disks K)) ≠ [] := fun h0 => hne (by rw [← hh, he]; unfold dropN; rw [if_pos h0])
  have hee : e = ⟨laidN d.Synced (d.Loose ++ (dropIds d (sortU (goneIds x.Disks K))).map pgN), [], false⟩ := by rw [he]; unfold dropN; rw [if_neg hdr]
  generalize laidN d.Synced (d.Loose ++ (dropIds d (sortU (goneIds x.Disks K))).map pgN) = S at hee
  subst hee
  have hs := okn.s
  refine Tot.bindeq hids (Tot.bindeq (a := ⟨laidN S [], [], true⟩) ?_ (Tot.bindeq (a := ⟨laidN S [], [], false⟩) rfl (Tot.bindeq (a := W) ?_ (Tot.bindeq (a := true) (Tot.eq ((p_RInts W W (by omega)).mono fun _ h => h.2 rfl)) (Tot.ncond (by decide) hgo)))))
  · unfold disk_Crash
    rw [chk_pos (by dsimp only; simp; omega), List.take_nil, p_laid S [] (by dsimp only at hs; simp; omega) (fun p hp => (okn.x p hp).2)]; rfl
  · rw [← hh, ← has_congr fun i => there_laid S [] i]
    have hs2 := laid_len S []
    exact p_Has _ ⟨by dsimp only at *; simp at hs2; omega, by simp, fun p hp => laid_all (R := fun p => p.Data.length ≤ 1000) (fun q hq => (okn.x q hq).1) p (by simpa using hp)⟩
end Go.Proofs
