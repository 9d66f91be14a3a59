/- Chunks, plain: what the laws ask of a disk. No condition. -/
import Derived.Test.YtkbkfcehehofnaaXChunkRotsP25f
namespace Go.Proofs
set_option linter.all false
open Go Go.Cat

theorem t_Page (p : api_Page) : Tot (ref04_Page p) (Tells (mayN p.At p.Data.length)) :=
  Tot.bind (Tot.bind (Tot.andI (Q := p.At < 1000) (by simp) fun _ => Tot.dec (by omega)) fun _ h1 => Tot.bind (Tot.andI h1 fun _ => Tot.dec (by omega)) fun _ h2 => Tot.ret h2) fun _ h => Tot.ret h

theorem t_Right (d : api_Disk) (h1 : d.Synced.length ≤ 1000) (h2 : d.Loose.length ≤ 1000) : Tot (ref04_Right d) (fun _ => True) := by
  have k2 : Tot (ref04_Right_L2 d 0) (fun _ => True) := by
    unfold ref04_Right_L2
    refine Tot.loop (fun s : Int => 0 ≤ s ∧ s ≤ (d.Loose.length : Int)) (fun s => ((d.Loose.length : Int) - s).toNat) ?_ 0 ⟨by simp, by simp⟩
    rintro s ⟨g0, g1⟩
    unfold ref04_Right_B2 ref04_Right_J2
    refine Tot.ite (fun hlt => ?_) (fun _ => Tot.out (Tot.bind (R := fun _ => True) (Tot.bind (R := fun _ => True) (Tot.ite (fun _ => Tot.ret trivial) (fun _ => Tot.ret trivial)) fun _ _ => Tot.ret trivial) fun _ _ => Tot.ret trivial))
    have hlt : s < d.Loose.length := by simpa using hlt
    refine Tot.bind (Tot.idx g0 hlt (Q := fun _ => True) fun _ _ => trivial) fun x _ => Tot.bind (t_Page x) fun b _ => Tot.ite (fun _ => Tot.out (Tot.ret trivial)) fun _ => Tot.chk (by unfold InI64; omega) (Tot.inl ⟨⟨by omega, by omega⟩, by omega⟩)
  unfold ref04_Right ref04_Right_L1
  refine Tot.loop (fun s : Int => 0 ≤ s ∧ s ≤ (d.Synced.length : Int)) (fun s => ((d.Synced.length : Int) - s).toNat) ?_ 0 ⟨by simp, by simp⟩
  rintro s ⟨g0, g1⟩
  unfold ref04_Right_B1 ref04_Right_J1
  refine Tot.ite (fun hlt => ?_) (fun _ => Tot.out k2)
  have hlt : s < d.Synced.length := by simpa using hlt
  refine Tot.bind (Tot.idx g0 hlt (Q := fun _ => True) fun _ _ => trivial) fun x _ => Tot.bind (t_Page x) fun b _ => Tot.bind (R := fun _ => True) (Tot.bind (R := fun _ => True) (Tot.ite (fun _ => Tot.ret trivial) fun _ => Tot.bind (R := fun _ => True) (Tot.ite (fun hp => ?_) (fun _ => Tot.ret trivial)) fun _ _ => Tot.ret trivial) fun _ _ => Tot.ret trivial) fun _ _ => Tot.ite (fun _ => Tot.out (Tot.ret trivial)) fun _ => Tot.chk (by unfold InI64; omega) (Tot.inl ⟨⟨by omega, by omega⟩, by omega⟩)
  have hp : 0 < s := by simpa using hp
  exact Tot.bind (Tot.idx g0 hlt (Q := fun _ => True) fun _ _ => trivial) fun x _ => Tot.chk (by unfold InI64; omega) (Tot.bind (Tot.idx (by omega) (by omega) (Q := fun _ => True) fun _ _ => trivial) fun _ _ => Tot.ret trivial)

/-- No great disk. -/
def modest (d : api_Disk) : Prop := d.Synced.length ≤ 60 ∧ d.Loose.length ≤ 60 ∧ ∀ p ∈ d.Synced ++ d.Loose, p.Data.length ≤ 200
theorem modest.small {d : api_Disk} (h : modest d) : smallD d := ⟨by have := h.1; omega, by have := h.2.1; omega, fun p hp => by have := h.2.2 p hp; omega⟩

theorem t_Great (d : api_Disk) : Tot (law25_Great d) (fun b => b = false → modest d) := by
  unfold law25_Great law25_Great_L1
  refine Tot.bind (R := Tells (60 < d.Synced.length ∨ 60 < d.Loose.length)) (Tot.bind (Tot.orI (Q := 60 < d.Loose.length) (by simp; omega) fun _ => Tot.dec (by omega)) fun _ h => Tot.ret h) fun b hb => Tot.ite (fun _ => Tot.ret fun e => by cases e) fun hn => ?_
  have hs : d.Synced.length ≤ 60 ∧ d.Loose.length ≤ 60 := by
    constructor
    · exact Nat.le_of_not_lt fun hh => hn (hb.2 (.inl hh))
    · exact Nat.le_of_not_lt fun hh => hn (hb.2 (.inr hh))
  have k2 : (∀ p ∈ d.Synced, p.Data.length ≤ 200) → Tot (law25_Great_L2 d 0) (fun b => b = false → modest d) := fun hS => by
    unfold law25_Great_L2
    refine Tot.loop (fun s : Int => 0 ≤ s ∧ s ≤ (d.Loose.length : Int) ∧ ∀ j : Nat, j < s.toNat → ∀ x, d.Loose[j]? = some x → x.Data.length ≤ 200) (fun s => ((d.Loose.length : Int) - s).toNat) ?_ 0 ⟨by simp, by simp, fun j hj => by simp at hj⟩
    rintro s ⟨g0, g1, g2⟩
    unfold law25_Great_B2 law25_Great_J2
    refine Tot.ite (fun hlt => ?_) (fun hge => Tot.out (Tot.bind (t_Right d (by omega) (by omega)) fun b _ => Tot.ret fun _ => ⟨hs.1, hs.2, fun p hp => ?_⟩))
    · have hlt : s < d.Loose.length := by simpa using hlt
      refine Tot.bind (Tot.idx g0 hlt (Q := fun x => d.Loose[s.toNat]? = some x) fun _ h => h) fun x hx => Tot.ite (fun _ => Tot.out (Tot.ret fun e => by cases e)) fun hl => Tot.chk (by unfold InI64; omega) (Tot.inl ⟨⟨by omega, by omega, fun j hj y hy => ?_⟩, by omega⟩)
      rcases Nat.lt_or_ge j s.toNat with h | h
      · exact g2 j h y hy
      · have : j = s.toNat := by omega
        subst this
        rw [hx] at hy; cases hy
        simp at hl; omega
    · rcases List.mem_append.1 hp with hp | hp
      · exact hS p hp
      · obtain ⟨j, hj, rfl⟩ := List.getElem_of_mem hp
        have hge : ¬ s < d.Loose.length := by simpa using hge
        exact g2 j (by omega) _ (List.getElem?_eq_getElem hj)
  refine Tot.loop (fun s : Int => 0 ≤ s ∧ s ≤ (d.Synced.length : Int) ∧ ∀ j : Nat, j < s.toNat → ∀ x, d.Synced[j]? = some x → x.Data.length ≤ 200) (fun s => ((d.Synced.length : Int) - s).toNat) ?_ 0 ⟨by simp, by simp, fun j hj => by simp at hj⟩
  rintro s ⟨g0, g1, g2⟩
  unfold law25_Great_B1 law25_Great_J1
  refine Tot.ite (fun hlt => ?_) (fun hge => Tot.out (k2 fun p hp => ?_))
  · have hlt : s < d.Synced.length := by simpa using hlt
    refine Tot.bind (Tot.idx g0 hlt (Q := fun x => d.Synced[s.toNat]? = some x) fun _ h => h) fun x hx => Tot.ite (fun _ => Tot.out (Tot.ret fun e => by cases e)) fun hl => Tot.chk (by unfold InI64; omega) (Tot.inl ⟨⟨by omega, by omega, fun j hj y hy => ?_⟩, by omega⟩)
    rcases Nat.lt_or_ge j s.toNat with h | h
    · exact g2 j h y hy
    · have : j = s.toNat := by omega
      subst this
      rw [hx] at hy; cases hy
      simp at hl; omega
  · obtain ⟨j, hj, rfl⟩ := List.getElem_of_mem hp
    have hge : ¬ s < d.Synced.length := by simpa using hge
    exact g2 j (by omega) _ (List.getElem?_eq_getElem hj)

theorem t_big (c : api_Copy) : Tot (law25_big c) (Tells (100 < c.Data.length ∨ 40 < c.Sums.length)) :=
  Tot.bind (Tot.bind (Tot.orI (by simp; omega) fun _ => Tot.dec (by omega)) fun _ h => Tot.ret h) fun _ h => Tot.ret h

theorem p_head : law25_head = some true := le_law25_head 300 _ (by kernel_rfl)

theorem p_has (l : List Int) (x : Int) (h : l.length ≤ 100000) : law25_has l x = some (decide (x ∈ l)) := by
  refine Tot.eq ?_
  unfold law25_has law25_has_L1
  refine Tot.loop (fun s : Int => 0 ≤ s ∧ s ≤ (l.length : Int) ∧ ∀ j : Nat, j < s.toNat → l[j]? ≠ some x) (fun s => ((l.length : Int) - s).toNat) ?_ 0 ⟨by simp, by simp, fun j hj => by simp at hj⟩
  rintro s ⟨g0, g1, g2⟩
  unfold law25_has_B1 law25_has_J1
  refine Tot.ite (fun hlt => ?_) (fun hge => Tot.out (Tot.ret ?_))
  · have hlt : s < l.length := by simpa using hlt
    refine Tot.bind (Tot.idx g0 hlt (Q := fun y => l[s.toNat]? = some y) fun _ h => h) fun y hy => Tot.ite (fun he => Tot.out (Tot.ret ?_)) fun hl => Tot.chk (by unfold InI64; omega) (Tot.inl ⟨⟨by omega, by omega, fun j hj e => ?_⟩, by omega⟩)
    · have : y = x := by simpa using he
      subst this
      exact (decide_eq_true (List.mem_of_getElem? hy)).symm
    · rcases Nat.lt_or_ge j s.toNat with h | h
      · exact g2 j h e
      · have : j = s.toNat := by omega
        subst this
        rw [hy] at e; cases e
        simp at hl
  · refine (decide_eq_false fun hm => ?_).symm
    obtain ⟨j, hj, e⟩ := List.getElem_of_mem hm
    have hge : ¬ s < l.length := by simpa using hge
    exact g2 j (by omega) (by rw [List.getElem?_eq_getElem hj, e])

theorem hasN_len (d : api_Disk) : (hasN d).length ≤ 200 := by
  unfold hasN
  rw [List.length_map]
  exact Nat.le_trans (List.length_filter_le _ _) (by simp)
theorem hasN_mem {d : api_Disk} {x : Int} : x ∈ hasN d ↔ withinP x ∧ (thereN d x).2 = 0 := by
  unfold hasN withinP
  constructor
  · intro h
    obtain ⟨n, hn, rfl⟩ := List.mem_map.1 h
    obtain ⟨h1, h2⟩ := List.mem_filter.1 hn
    have h1 := List.mem_range.1 h1
    exact ⟨⟨Int.natCast_nonneg n, by show (n : Int) < 200; omega⟩, by simpa using h2⟩
  · rintro ⟨⟨h1, h2⟩, h3⟩
    refine List.mem_map.2 ⟨x.toNat, List.mem_filter.2 ⟨List.mem_range.2 (by omega), ?_⟩, ?_⟩
    · rw [Int.toNat_of_nonneg h1]; simpa using h3
    · exact Int.toNat_of_nonneg h1
theorem hasN_sorted (d : api_Disk) : (hasN d).Pairwise (· < ·) := by
  unfold hasN
  rw [List.pairwise_map]
  exact (List.pairwise_lt_range.filter _).imp fun h => Int.ofNat_lt.2 h

theorem id_within (p : UInt8) : withinP (Int.tmod ((p.toNat : Int)) 200) := by
  have : Int.tmod ((p.toNat : Int)) 200 = (p.toNat : Int) % 200 := Int.tmod_eq_emod_of_nonneg (by omega)
  rw [this]; unfold withinP; omega
theorem there_down {d : api_Disk} (h : d.Down = true) {id : Int} (hw : withinP id) : (thereN d id).2 = 40 := by
  unfold thereN readN
  simp [h, hw]
theorem there_up {d : api_Disk} (h : ¬ d.Down = true) {id : Int} (hw : withinP id) : (thereN d id).2 = 0 ∨ (thereN d id).2 = 41 := by
  unfold thereN
  rw [if_pos hw]
  split
  · right; rfl
  · unfold readN
    rw [if_neg h, if_pos (by unfold withinP at hw; unfold mayN; omega)]
    split
    · right; rfl
    · left; rfl

theorem l_ChunkHas (d : api_Disk) (id : UInt8) (c : api_Copy) : law25_ChunkHas d id c = some true := by
  refine Tot.eq ?_
  unfold law25_ChunkHas law25_ChunkHas_L1
  refine Tot.bindeq p_head (Tot.bind (R := fun b => b = false → modest d ∧ c.Sums.length ≤ 40) (Tot.bind (t_Great d) fun g hg => Tot.bind (R := fun b => b = false → modest d ∧ c.Sums.length ≤ 40) (Tot.ite (fun _ => Tot.ret fun e => by cases e) fun hn => Tot.bind (t_big c) fun b hb => Tot.ret fun e => ⟨hg (by simpa using hn), ?_⟩) fun _ h => Tot.ret h) fun b hb => Tot.ite (fun _ => Tot.ret rfl) fun hn => ?_)
  · refine Nat.le_of_not_lt fun hh => ?_
    rw [hb.2 (.inr hh)] at e; cases e
  obtain ⟨hm, hc⟩ := hb (by simpa using hn)
  have hd := hm.small
  refine Tot.bindeq (p_Has d hd) ?_
  have hlen := hasN_len d
  have hsort := List.pairwise_iff_getElem.1 (hasN_sorted d)
  refine Tot.loop (fun s : Int => 0 ≤ s ∧ s ≤ ((hasN d).length : Int)) (fun s => (((hasN d).length : Int) - s).toNat) ?_ 0 ⟨by simp, by simp⟩
  rintro s ⟨g0, g1⟩
  unfold law25_ChunkHas_B1 law25_ChunkHas_J1
  refine Tot.ite (fun hlt => ?_) (fun _ => Tot.out ?_)
  · have hlt : s < (hasN d).length := by simpa using hlt
    have hget : Tot (idx (hasN d) s) (fun x => (hasN d)[s.toNat]? = some x) := Tot.idx g0 hlt fun _ h => h
    obtain ⟨x, hx, hxs⟩ := hget
    have hxm := hasN_mem.1 (List.mem_of_getElem? hxs)
    unfold withinP at hxm
    refine Tot.bind (R := fun b => b = false) ?_ fun v hv => ?_
    · refine Tot.bindeq hx (Tot.bind (R := fun b => b = false) (Tot.ite (fun h => absurd h (by simp; omega)) fun _ => Tot.bindeq hx (Tot.ret (by simp; omega))) fun c2 hc2 => ?_)
      subst hc2
      refine Tot.bind (R := fun b => b = false) (Tot.ite (fun h => absurd h (by decide)) fun _ => Tot.bind (R := fun b => b = false) (Tot.ite (fun hp => ?_) fun _ => Tot.ret rfl) fun _ h => Tot.ret h) fun _ h => Tot.ret h
      have hp : 0 < s := by simpa using hp
      refine Tot.chk (by unfold InI64; omega) (Tot.bind (Tot.idx (by omega) (by omega) (Q := fun y => (hasN d)[(s - 1).toNat]? = some y) fun _ h => h) fun y hy => Tot.bindeq hx (Tot.ret ?_))
      have hl1 : (s - 1).toNat < (hasN d).length := by omega
      have hl2 : s.toNat < (hasN d).length := by omega
      have := hsort (s - 1).toNat s.toNat hl1 hl2 (by omega)
      rw [List.getElem?_eq_getElem hl1] at hy
      rw [List.getElem?_eq_getElem hl2] at hxs
      cases hy; cases hxs
      exact decide_eq_false (by omega)
    · subst hv
      exact Tot.ite (fun h => absurd h (by decide)) fun _ => Tot.chk (by unfold InI64; omega) (Tot.inl ⟨⟨by omega, by omega⟩, by omega⟩)
  · have hw := id_within id
    generalize Int.tmod ((id.toNat : Int)) 200 = i at hw ⊢
    refine Tot.bind (t_Get d i hd) fun g hg => Tot.ite (fun hdn => ?_) (fun hup => ?_)
    · have h40 := there_down hdn hw
      rw [h40, if_neg (by decide)] at hg
      have hnil : hasN d = [] := List.eq_nil_iff_forall_not_mem.2 fun x hx => by
        have := hasN_mem.1 hx
        rw [there_down hdn this.1] at this
        exact absurd this.2 (by decide)
      refine Tot.bindeq (p_Lose d i hd) (Tot.bindeq (p_Put d c hd (by omega)) ?_)
      have hl : (loseN d i).2 = 40 := by unfold loseN; rw [h40, if_neg (by decide)]
      have hp : (putN d c).2 = 40 ∨ (putN d c).2 = 1 := by
        unfold putN
        split
        · left; unfold writeN; rw [if_pos hdn]
        · right; rfl
      rw [hg, hl, hnil]
      rcases hp with hp | hp <;> rw [hp] <;> exact ⟨_, rfl, rfl⟩
    · have hthere := there_up hup hw
      rw [p_has _ _ (by omega)]
      have hdec : decide (i ∈ hasN d) = decide ((thereN d i).2 = 0) := by
        by_cases h : (thereN d i).2 = 0
        · rw [decide_eq_true (hasN_mem.2 ⟨hw, h⟩), decide_eq_true h]
        · rw [decide_eq_false (fun hh => h (hasN_mem.1 hh).2), decide_eq_false h]
      rw [hdec]
      rcases hthere with h | h
      · rw [h, if_pos rfl] at hg
        rw [h]
        rcases hg with hg | hg <;> rw [hg] <;> exact ⟨_, rfl, rfl⟩
      · rw [h, if_neg (by decide)] at hg
        rw [h, hg]
        exact ⟨_, rfl, rfl⟩
end Go.Proofs
