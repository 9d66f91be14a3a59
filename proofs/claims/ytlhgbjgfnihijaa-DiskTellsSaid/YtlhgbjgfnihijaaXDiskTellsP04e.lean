/- Disks, plain: a disk that is down. No condition. -/
import Derived.Test.YtlhgbjgfnihijaaXDiskTellsP04d
namespace Go.Proofs
set_option linter.all false
open Go Go.Cat

theorem mset_new {α : Type} (n : Int) (v : α) : ∀ m : List (Int × α), n ∉ m.map (·.1) → mset n v m = m ++ [(n, v)]
  | [], _ => rfl
  | (j, c) :: r, h => by
    simp only [List.map_cons, List.mem_cons, not_or] at h
    unfold mset
    rw [if_neg (fun e => h.1 e.symm), mset_new n v r h.2]; rfl
theorem mset_keys {α : Type} (n : Int) (v : α) : ∀ m : List (Int × α), n ∈ m.map (·.1) → (mset n v m).map (·.1) = m.map (·.1)
  | [], h => by simp at h
  | (j, c) :: r, h => by
    unfold mset
    by_cases e : j = n
    · rw [if_pos e]; rfl
    · rw [if_neg e]
      simp only [List.map_cons, List.mem_cons] at h ⊢
      rw [mset_keys n v r (h.resolve_left fun q => e q.symm)]
theorem mset_nodup {α : Type} (n : Int) (v : α) (m : List (Int × α)) (h : (m.map (·.1)).Nodup) : ((mset n v m).map (·.1)).Nodup := by
  by_cases e : n ∈ m.map (·.1)
  · rw [mset_keys n v m e]; exact h
  · rw [mset_new n v m e, List.map_append]
    refine List.nodup_append.2 ⟨h, by simp, fun a ha b hb => ?_⟩
    have hb : b = n := by simpa using hb
    intro hab; rw [hab, hb] at ha; exact e ha
theorem by_nodup : ∀ (l : List api_Page) (m : List (Int × api_Page)), (m.map (·.1)).Nodup → ((byM m l).map (·.1)).Nodup
  | [], _, h => h
  | p :: l, m, h => by_nodup l (mset p.At p m) (mset_nodup p.At p m h)
theorem by_new : ∀ (l : List api_Page) (m : List (Int × api_Page)), (m.map (·.1) ++ l.map (·.At)).Nodup → byM m l = m ++ l.map fun p => (p.At, p)
  | [], m, _ => by simp [byM]
  | p :: l, m, h => by
    show byM (mset p.At p m) l = _
    have hn : p.At ∉ m.map (·.1) := fun hm => (List.nodup_append.1 h).2.2 _ hm _ (by simp) rfl
    rw [mset_new p.At p m hn, by_new l _ (by simpa using h)]
    simp
/-- Pages in order of their places. -/
def Asc (l : List api_Page) : Prop := l.Pairwise fun a b => a.At < b.At
theorem keys_asc (m : List (Int × api_Page)) (h : (m.map (·.1)).Nodup) : (keysI m).Pairwise (· < ·) := by
  have h1 : (keysI m).Pairwise (fun a b => decide (a ≤ b) = true) := List.pairwise_mergeSort (fun a b c h1 h2 => by simp at h1 h2 ⊢; omega) (fun a b => by simp; omega) _
  have h2 : (keysI m).Nodup := (List.mergeSort_perm _ _).nodup_iff.2 h
  exact (h1.and h2).imp fun ⟨x, y⟩ => by simp at x; omega
theorem laid_asc (l o : List api_Page) : Asc (laidN l o) := by
  unfold Asc laidN
  rw [List.pairwise_map]
  refine (List.pairwise_iff_forall_sublist.2 fun {a b} hs => ?_)
  have hk := List.pairwise_iff_forall_sublist.1 (keys_asc _ (by_nodup (l ++ o) [] (by simp))) hs
  have at_ : ∀ k, k ∈ keysI (byM [] (l ++ o)) → ((mget k (byM [] (l ++ o))).getD (⟨0, []⟩ : api_Page)).At = k := fun k hk => by
    obtain ⟨v, hv⟩ := mem_mget (mem_keys.1 hk)
    rw [hv]
    rw [mget_by0] at hv
    exact (last_at hv).1
  rw [at_ a (hs.subset (by simp)), at_ b (hs.subset (by simp))]
  exact hk
theorem laid_self {l : List api_Page} (h : Asc l) : laidN l [] = l := by
  have hA : (l.map (·.At)).Pairwise (· < ·) := List.pairwise_map.2 h
  have hn : (l.map (·.At)).Nodup := hA.imp fun h => by omega
  have hb : byM [] l = l.map fun p => (p.At, p) := by rw [by_new l [] (by simpa using hn)]; simp
  have hk : keysI (byM [] l) = l.map (·.At) := by
    unfold keysI
    rw [hb, List.map_map]
    show (l.map (·.At)).mergeSort _ = _
    exact List.mergeSort_of_pairwise (hA.imp fun h => by simp; omega)
  unfold laidN
  rw [List.append_nil, hk, List.map_map]
  conv => rhs; rw [← List.map_id l]
  refine List.map_congr_left fun p hp => ?_
  show (mget p.At (byM [] l)).getD _ = p
  obtain ⟨v, hv⟩ := mem_mget (m := byM [] l) (k := p.At) (by rw [hb, List.map_map]; exact List.mem_map.2 ⟨p, hp, rfl⟩)
  rw [hv]
  rw [mget_by0] at hv
  have hv := last_at hv
  obtain ⟨i, hi⟩ := memR hp
  obtain ⟨j, hj⟩ := memR hv.2
  have hi' := List.getElem?_eq_some_iff.1 hi
  have hj' := List.getElem?_eq_some_iff.1 hj
  rcases Nat.lt_trichotomy i j with hh | hh | hh
  · have := List.pairwise_iff_getElem.1 h i j hi'.1 hj'.1 hh; rw [hi'.2, hj'.2] at this; omega
  · subst hh; rw [hi] at hj; cases hj; rfl
  · have := List.pairwise_iff_getElem.1 h j i hj'.1 hi'.1 hh; rw [hi'.2, hj'.2] at this; omega

theorem t_Pages (a : List api_Page) (h : a.length ≤ 1000000) (hd : ∀ p, p ∈ a → p.Data.length ≤ 1000000) : ref04_Pages a a = some true := by
  refine Tot.eq ?_
  unfold ref04_Pages ref04_Pages_L1
  refine Tot.ncond (by simp) ?_
  refine Tot.search (l := a) (fun _ => False) (fun n x hx _ => ?_) (fun _ => ?_)
  · have hn := (getR hx).1
    unfold ref04_Pages_B1
    refine Tot.cond (by simp; omega) (Tot.bindeq (idx_some hx) (Tot.bindeq (idx_some hx) (Tot.bindeq (bytes_t (hd x (getR hx).2) rfl) (Tot.bind (R := (· = false)) ?_ fun v hv => ?_))))
    · exact Tot.bind (R := (· = false)) (Tot.ncond (by decide) (Tot.bindeq (idx_some hx) (Tot.bindeq (idx_some hx) (Tot.ret (by simp))))) fun _ h => Tot.ret h
    · subst hv
      exact Tot.found (by omega) (by simp) fun h => h.elim
  · unfold ref04_Pages_B1 ref04_Pages_J1
    exact Tot.ncond (by simp) (Tot.done (Tot.ret rfl))
theorem same04 {a b : api_Disk} (h : smallD a) (e : a = b) : ref04_Same a b = some true := by
  subst e
  refine Tot.eq ?_
  unfold ref04_Same
  refine Tot.bindeq (t_Pages _ (by have := h.1; omega) (fun p hp => by have := h.2.2 p (List.mem_append_left _ hp); omega)) (Tot.bindeq (t_Pages _ (by have := h.2.1; omega) (fun p hp => by have := h.2.2 p (List.mem_append_right _ hp); omega)) ?_)
  simp only [if_true, Option.bind_some, beq_self_eq_true]
  exact Tot.ret rfl

theorem l_DiskDown (p_d : api_Disk) (p_keep : Int) (p_at : Int) (p_data : List UInt8) : law04_DiskDown p_d p_keep p_at p_data = some true := by
  refine Tot.eq ?_
  unfold law04_DiskDown
  refine Tot.bindeq p_head04 (Tot.bind (t_Fits04 p_d) fun x2 h2 => Tot.ite (fun _ => Tot.ret rfl) fun hn => ?_)
  have hf := (h2 (by simpa using hn)).1
  have hc := hf.crash p_keep
  have hs := (hc.mono (m := 500) (by omega)).small
  have hw : disk_Write (crashN p_d p_keep) p_at p_data = some (crashN p_d p_keep, 40) := by unfold disk_Write; exact if_pos rfl
  have hy : disk_Sync (crashN p_d p_keep) = some (crashN p_d p_keep, 40) := by unfold disk_Sync; exact if_pos rfl
  have hr : disk_Read (crashN p_d p_keep) p_at = some ([], 40) := by unfold disk_Read; exact if_pos rfl
  have hu := hc.up false
  have e9 : syncN ⟨(crashN p_d p_keep).Synced, (crashN p_d p_keep).Loose, false⟩ = (⟨(crashN p_d p_keep).Synced, (crashN p_d p_keep).Loose, false⟩, 0) := by
    unfold syncN
    rw [if_neg Bool.false_ne_true]
    show (api_Disk.mk (laidN (crashN p_d p_keep).Synced []) [] false, (0 : Int)) = _
    rw [laid_self (show Asc (crashN p_d p_keep).Synced from laid_asc _ _)]; rfl
  have e12 : crashN (crashN p_d p_keep) p_keep = crashN p_d p_keep := by
    conv => lhs; unfold crashN
    show api_Disk.mk (laidN (crashN p_d p_keep).Synced (List.take _ [])) [] true = _
    rw [List.take_nil, laid_self (show Asc (crashN p_d p_keep).Synced from laid_asc _ _)]; rfl
  refine Tot.bindeq (p_Crash _ _ (hf.mono (by omega))) (Tot.bindeq hw (Tot.bindeq hy (Tot.bindeq hr (Tot.bindeq (same04 hs rfl) (Tot.bindeq (same04 hs rfl) (Tot.bindeq (p_Up _) (Tot.bindeq (p_Sync _ (hu.mono (by omega))) ?_)))))))
  rw [e9]
  refine Tot.bindeq (same04 (hu.mono (m := 500) (by omega)).small rfl) (Tot.bindeq (p_Crash _ _ (hc.mono (by omega))) ?_)
  rw [e12]
  refine Tot.bindeq (same04 hs rfl) ?_
  exact Tot.ret rfl
end Go.Proofs
