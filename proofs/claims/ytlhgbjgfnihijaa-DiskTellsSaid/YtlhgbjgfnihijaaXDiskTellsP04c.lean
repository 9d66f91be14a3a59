/- Disks, plain: what stands, what is lost; the document's examples; right disks. No condition. -/
import Derived.Test.YtlhgbjgfnihijaaXDiskTellsP04b
namespace Go.Proofs
set_option linter.all false
open Go Go.Cat

def GoodL (l : List api_Page) : Prop := ∀ p, p ∈ l → goodP p
theorem goodP_i {p : api_Page} (h : goodP p) : InI64 p.At := by unfold goodP at h; unfold InI64; omega
theorem good_app {l o : List api_Page} (h : GoodL l) (h' : GoodL o) : GoodL (l ++ o) := fun p hp => (List.mem_append.1 hp).elim (h p) (h' p)
def crashN (d : api_Disk) (k : Int) : api_Disk := ⟨laidN d.Synced (d.Loose.take (min (max k 0) (d.Loose.length : Int)).toNat), [], true⟩
def syncN (d : api_Disk) : api_Disk × Int := if d.Down then (d, 40) else (⟨laidN d.Synced d.Loose, [], false⟩, 0)
/-- Few pages, each right. -/
structure Few (d : api_Disk) (n : Nat) : Prop where
  s : d.Synced.length ≤ n
  l : d.Loose.length ≤ n
  gs : GoodL d.Synced
  gl : GoodL d.Loose
theorem Few.small {d : api_Disk} (h : Few d 500) : smallD d := ⟨by have := h.s; omega, by have := h.l; omega, fun p hp => by have := (good_app h.gs h.gl p hp).2; omega⟩
theorem p_Sync (d : api_Disk) (h : Few d 500) : disk_Sync d = some (syncN d) := by
  unfold disk_Sync syncN
  split
  · rfl
  · rw [p_laid d.Synced d.Loose (by have := h.s; have := h.l; omega) (fun p hp => goodP_i (good_app h.gs h.gl p hp))]; rfl
theorem p_Crash (d : api_Disk) (k : Int) (h : Few d 500) : disk_Crash d k = some (crashN d k) := by
  unfold disk_Crash crashN
  rw [chk_pos (by omega), p_laid d.Synced _ (by have := h.s; have := h.l; have := List.length_take_le (min (max k 0) (d.Loose.length : Int)).toNat d.Loose; simp only [List.length_take]; omega) (fun p hp => goodP_i (good_app h.gs (fun q hq => h.gl q (List.mem_of_mem_take hq)) p hp))]; rfl
theorem Few.mono {d : api_Disk} {n m : Nat} (h : Few d n) (e : n ≤ m) : Few d m := ⟨by have := h.s; omega, by have := h.l; omega, h.gs, h.gl⟩
theorem Few.sync {d : api_Disk} {n : Nat} (h : Few d n) : Few (syncN d).1 (n + n) := by
  unfold syncN
  split
  · exact h.mono (by omega)
  · exact ⟨Nat.le_trans (laid_len _ _) (by have := h.s; have := h.l; omega), Nat.zero_le _, laid_good (good_app h.gs h.gl), fun p hp => by cases hp⟩
theorem Few.crash {d : api_Disk} {n : Nat} (h : Few d n) (k : Int) : Few (crashN d k) (n + n) :=
  ⟨Nat.le_trans (laid_len _ _) (by have := h.s; have := h.l; simp only [List.length_take]; omega), Nat.zero_le _, laid_good (good_app h.gs fun q hq => h.gl q (List.mem_of_mem_take hq)), fun p hp => by cases hp⟩
theorem Few.up {d : api_Disk} {n : Nat} (h : Few d n) (b : Bool) : Few ⟨d.Synced, d.Loose, b⟩ n := ⟨h.s, h.l, h.gs, h.gl⟩
theorem Few.write {d : api_Disk} {n : Nat} (h : Few d n) (a : Int) (x : List UInt8) : Few (writeN d a x).1 (n + 1) := by
  unfold writeN
  split
  · exact h.mono (by omega)
  · split
    · rename_i hm
      exact ⟨by have := h.s; show d.Synced.length ≤ _; omega, by have := h.l; simp only [List.length_append, List.length_cons, List.length_nil]; omega, h.gs, good_app h.gl fun p hp => by
        rw [List.mem_singleton.1 hp]; exact hm⟩
    · exact h.mono (by omega)
theorem keys1 (p : Int × api_Page) : keysI [p] = [p.1] := List.mergeSort_singleton _

abbrev dD : api_Disk := ⟨[], [⟨3, [1, 2]⟩, ⟨3, [9]⟩], false⟩
theorem fewD : Few dD 2 := ⟨by decide, by decide, fun p hp => (by cases hp), fun p hp => (by
    rcases List.mem_cons.1 hp with e | hp
    · rw [e]; unfold goodP; decide
    · rw [List.mem_singleton.1 hp]; unfold goodP; decide)⟩
abbrev dS (x : List UInt8) (b : Bool) : api_Disk := ⟨[⟨3, x⟩], [], b⟩
theorem few1 (x : List UInt8) (b : Bool) (h : x.length ≤ 200) : Few (dS x b) 1 := ⟨Nat.le_refl _, Nat.zero_le _, fun p hp => (by rw [List.mem_singleton.1 hp]; exact ⟨⟨(by show (0 : Int) ≤ 3; decide), (by show (3 : Int) < 1000; decide)⟩, h⟩), fun p hp => (by cases hp)⟩
theorem small1 (x : List UInt8) (b : Bool) (h : x.length ≤ 200) : smallD (dS x b) := ((few1 x b h).mono (by omega)).small
theorem laidA : laidN [] [⟨3, [1, 2]⟩] = [⟨3, [1, 2]⟩] := by
  have : byM [] ([] ++ [(⟨3, [1, 2]⟩ : api_Page)]) = [(3, ⟨3, [1, 2]⟩)] := rfl
  unfold laidN; rw [this, keys1]; rfl
theorem laidB : laidN [] [⟨3, [1, 2]⟩, ⟨3, [9]⟩] = [⟨3, [9]⟩] := by
  have : byM [] ([] ++ [(⟨3, [1, 2]⟩ : api_Page), ⟨3, [9]⟩]) = [(3, ⟨3, [9]⟩)] := rfl
  unfold laidN; rw [this, keys1]; rfl
theorem laidC : laidN [⟨3, [9]⟩] [] = [⟨3, [9]⟩] := by
  have : byM [] ([(⟨3, [9]⟩ : api_Page)] ++ []) = [(3, ⟨3, [9]⟩)] := rfl
  unfold laidN; rw [this, keys1]; rfl
theorem bytes_t {a b : List UInt8} (h : a.length ≤ 1000000) (e : a = b) : ref04_Bytes a b = some true := Tot.eq ((p_RBytes a b h).mono fun _ ht => ht.2 e)

theorem p_head04 : law04_head = some true := by
  refine Tot.eq ?_
  unfold law04_head
  refine Tot.bindeq (a := ⟨[], [], false⟩) rfl (Tot.bindeq (p_Write _ _ _ (by decide) (by decide)) (Tot.bindeq (p_Write _ _ _ (by decide) (by decide)) ?_))
  have e3 : writeN (writeN ⟨[], [], false⟩ 3 [1, 2]).1 3 [9] = (dD, 0) := rfl
  have e2 : (writeN ⟨[], [], false⟩ 3 [1, 2]).2 = 0 := rfl
  rw [e3]
  have eX : crashN dD 1 = dS [1, 2] true := by
    unfold crashN
    show api_Disk.mk (laidN [] [⟨3, [1, 2]⟩]) [] true = _
    rw [laidA]
  have eS : syncN dD = (dS [9] false, 0) := by
    unfold syncN
    show (api_Disk.mk (laidN [] [⟨3, [1, 2]⟩, ⟨3, [9]⟩]) [] false, (0 : Int)) = _
    rw [laidB]
  have eC : crashN (dS [9] false) 0 = dS [9] true := by
    unfold crashN
    show api_Disk.mk (laidN [⟨3, [9]⟩] []) [] true = _
    rw [laidC]
  have hR : disk_Rot (dS [1, 2] false) 3 9 = some (dS [1, 0] false) := Tot.eq (Tot.le0 (le_disk_Rot 40 _ _ _) ⟨_, rfl, rfl⟩)
  have hG : disk_Right (dS [1, 2] true) = some true := Tot.eq (Tot.le0 (le_disk_Right 40 _) ⟨_, rfl, rfl⟩)
  have hB : disk_Right ⟨[], [⟨0, []⟩], true⟩ = some false := Tot.eq (Tot.le0 (le_disk_Right 40 _) ⟨_, rfl, rfl⟩)
  refine Tot.bindeq (p_Read dD 3 (fewD.mono (by omega)).small) (Tot.bindeq (a := dS [1, 2] true) (by rw [← eX]; exact p_Crash _ _ (fewD.mono (by omega))) ?_)
  refine Tot.bindeq (p_Read _ 3 (small1 _ _ (by decide))) (Tot.bindeq (a := dS [1, 2] false) rfl (Tot.bindeq (p_Read _ 3 (small1 _ _ (by decide))) (Tot.bindeq hR (Tot.bindeq (p_Read _ 3 (small1 _ _ (by decide))) (Tot.bindeq (p_Read _ 4 (small1 _ _ (by decide))) ?_)))))
  refine Tot.bindeq (p_Write _ _ _ (by decide) (by decide)) (Tot.bindeq (a := (dS [9] false, 0)) (by rw [← eS]; exact p_Sync _ (fewD.mono (by omega))) (Tot.bindeq (a := dS [9] true) (by rw [← eC]; exact p_Crash _ _ ((few1 _ _ (by decide)).mono (by omega))) ?_))
  refine Tot.bindeq (a := dS [9] false) rfl (Tot.bindeq (p_Read _ 3 (small1 _ _ (by decide))) ?_)
  refine Tot.bindeq (bytes_t (by decide) (by rfl)) (Tot.bindeq (bytes_t (by decide) (by rfl)) (Tot.bindeq (bytes_t (by decide) (by rfl)) (Tot.bindeq (bytes_t (by decide) (by rfl)) ?_)))
  rw [hG, hB]
  exact Tot.of rfl

theorem p_Page (p : api_Page) : Tot (ref04_Page p) (Tells (goodP p)) := by
  unfold ref04_Page
  refine Tot.bind (R := Tells (goodP p)) (Tot.bind (Tot.andI (P := 0 ≤ p.At) (Q := p.At < 1000) (by simp) fun _ => Tot.ret (by unfold Tells; simp; omega)) fun _ h1 => Tot.bind (Tot.andI h1 fun _ => Tot.ret (Q := Tells (p.Data.length ≤ 200)) (by unfold Tells; simp; omega)) fun _ h2 => Tot.ret h2) fun _ h => Tot.ret h

theorem t_Right (d : api_Disk) (hs : d.Synced.length ≤ 1000) (hl : d.Loose.length ≤ 1000) : Tot (ref04_Right d) (fun b => b = true → GoodL d.Synced ∧ GoodL d.Loose ∧ (d.Down = true → d.Loose = [])) := by
  have gl : ∀ {l : List api_Page} {s : Int}, ¬ s < (l.length : Int) → (∀ j : Nat, j < s.toNat → ∀ x, l[j]? = some x → goodP x) → GoodL l := by
    intro l s hge h p hp
    obtain ⟨j, hj⟩ := memR hp
    exact h j (by have := (getR hj).1; omega) p hj
  have step : ∀ {l : List api_Page} {s : Int} {x : api_Page}, (∀ j : Nat, j < s.toNat → ∀ x, l[j]? = some x → goodP x) → 0 ≤ s → l[s.toNat]? = some x → goodP x → ∀ j : Nat, j < (s + 1).toNat → ∀ x, l[j]? = some x → goodP x := by
    intro l s x h h0 hx hg j hj y hy
    rcases Nat.lt_or_ge j s.toNat with h1 | h1
    · exact h j h1 y hy
    · have : j = s.toNat := by omega
      subst this
      rw [hx] at hy; cases hy; exact hg
  unfold ref04_Right ref04_Right_L1
  refine Tot.loop (fun s : Int => 0 ≤ s ∧ s ≤ (d.Synced.length : Int) ∧ ∀ j : Nat, j < s.toNat → ∀ x, d.Synced[j]? = some x → goodP x) (fun s => ((d.Synced.length : Int) - s).toNat) ?_ 0 ⟨by simp, by simp, fun j hj => by simp at hj⟩
  rintro s ⟨g0, g1, g2⟩
  unfold ref04_Right_B1
  refine Tot.ite (fun hlt => ?_) (fun hge => Tot.out ?_)
  · have hlt : s < d.Synced.length := by simpa using hlt
    refine Tot.bind (Tot.idx g0 hlt (Q := fun y => d.Synced[s.toNat]? = some y) fun _ h => h) fun x hx => Tot.bind (p_Page x) fun b hb => Tot.bind (R := fun v => v = false → goodP x) ?_ fun v hv => Tot.ite (fun _ => Tot.out (Tot.ret fun e => by cases e)) fun hf => Tot.chk (by unfold InI64; omega) (Tot.inl ⟨⟨by omega, by omega, step g2 g0 hx (hv (by simpa using hf))⟩, by omega⟩)
    refine Tot.bind (R := fun v => v = false → goodP x) (Tot.ite (fun _ => Tot.ret fun e => by cases e) fun hb2 => ?_) fun v hv => Tot.ret hv
    have hg : goodP x := hb.1 (by simpa using hb2)
    refine Tot.bind (R := fun _ => True) (Tot.ite (fun hp => ?_) fun _ => Tot.ret trivial) fun _ _ => Tot.ret fun _ => hg
    have hp : 0 < s := by simpa using hp
    exact Tot.bind (Tot.idx g0 hlt (Q := fun _ => True) fun _ _ => trivial) fun _ _ => Tot.chk (by unfold InI64; omega) (Tot.bind (Tot.idx (by omega) (by omega) (Q := fun _ => True) fun _ _ => trivial) fun _ _ => Tot.ret trivial)
  · have hS : GoodL d.Synced := gl (by simpa using hge) g2
    unfold ref04_Right_J1 ref04_Right_L2
    refine Tot.loop (fun s : Int => 0 ≤ s ∧ s ≤ (d.Loose.length : Int) ∧ ∀ j : Nat, j < s.toNat → ∀ x, d.Loose[j]? = some x → goodP x) (fun s => ((d.Loose.length : Int) - s).toNat) ?_ 0 ⟨by simp, by simp, fun j hj => by simp at hj⟩
    rintro s ⟨g0, g1, g2⟩
    unfold ref04_Right_B2
    refine Tot.ite (fun hlt => ?_) (fun hge => Tot.out ?_)
    · have hlt : s < d.Loose.length := by simpa using hlt
      exact Tot.bind (Tot.idx g0 hlt (Q := fun y => d.Loose[s.toNat]? = some y) fun _ h => h) fun x hx => Tot.bind (p_Page x) fun b hb => Tot.ite (fun _ => Tot.out (Tot.ret fun e => by cases e)) fun hf => Tot.chk (by unfold InI64; omega) (Tot.inl ⟨⟨by omega, by omega, step g2 g0 hx (hb.1 (by simpa using hf))⟩, by omega⟩)
    · have hL : GoodL d.Loose := gl (by simpa using hge) g2
      unfold ref04_Right_J2
      refine Tot.bind (R := fun v => v = true → (d.Down = true → d.Loose = [])) (Tot.bind (R := fun v => v = true → (d.Down = true → d.Loose = [])) (Tot.ite (fun hd => Tot.ret fun _ h => by rw [h] at hd; cases hd) fun _ => Tot.ret fun h _ => ?_) fun v hv => Tot.ret hv) fun v hv => Tot.ret fun h => ⟨hS, hL, hv h⟩
      have : (d.Loose.length : Int) = 0 := by simpa using h
      exact List.eq_nil_of_length_eq_zero (by omega)
theorem t_Fits04 (d : api_Disk) : Tot (law04_Fits d) (fun b => b = true → Few d 60 ∧ (d.Down = true → d.Loose = [])) := by
  unfold law04_Fits
  refine Tot.bind (R := Tells (d.Synced.length > 60 ∨ d.Loose.length > 60)) (Tot.bind (Tot.orI (P := d.Synced.length > 60) (Q := d.Loose.length > 60) (by simp; omega) fun _ => Tot.ret (by unfold Tells; simp; omega)) fun _ h => Tot.ret h) fun v hv => Tot.ite (fun _ => Tot.ret fun e => by cases e) fun hn => ?_
  have hn : ¬ (d.Synced.length > 60 ∨ d.Loose.length > 60) := fun h => hn (hv.2 h)
  exact Tot.bind (t_Right d (by omega) (by omega)) fun b hb => Tot.ret fun h => ⟨⟨by omega, by omega, (hb h).1, (hb h).2.1⟩, (hb h).2.2⟩
end Go.Proofs
