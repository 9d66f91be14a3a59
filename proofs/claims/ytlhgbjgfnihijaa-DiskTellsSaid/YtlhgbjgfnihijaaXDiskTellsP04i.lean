/- Disks, plain: whether a disk may be so; rows of one's own; what is laid. No condition. -/
import Derived.Test.YtlhgbjgfnihijaaXDiskTellsP04h
namespace Go.Proofs
set_option linter.all false
open Go Go.Cat
set_option linter.all false

structure RightD (d : api_Disk) : Prop where
  gs : GoodL d.Synced
  gl : GoodL d.Loose
  dn : d.Down = true → d.Loose = []
  asc : Asc d.Synced

theorem t_find (l : List api_Page) (h : l.length ≤ 9223372036854775807) : Tot (disk_find_api_Page__disk_Right_1 l) (fun x => (decide (x ≥ 0) = true ↔ ¬ GoodL l)) := by
  unfold disk_find_api_Page__disk_Right_1 slices_IndexFunc_api_Page_api_Page__disk_Right_1 slices_IndexFunc_api_Page_api_Page__disk_Right_1_L1
  refine Tot.bind (R := fun x => (decide (x ≥ 0) = true ↔ ¬ GoodL l)) ?_ fun x hx => Tot.ret hx
  refine Tot.search (l := l) (fun p => ¬ goodP p) (fun n x hx _ => ?_) (fun hall => ?_)
  · have hn := (getR hx).1
    unfold slices_IndexFunc_api_Page_api_Page__disk_Right_1_B1 disk_Right_1
    refine Tot.cond (by simp; omega) (Tot.bindeq (idx_some hx) (Tot.bind (R := fun b => b = true ↔ ¬ goodP x) (Tot.bind (p_dmay x.At x.Data) fun b hb => Tot.ret ?_) fun b hb => Tot.ite (fun hb1 => ?_) fun hb0 => ?_))
    · have hb : b = true ↔ goodP x := hb
      cases b with
      | true => simp [hb.1 rfl]
      | false => simp; exact fun hg => by have := hb.2 hg; cases this
    · exact ⟨.inr (n : Int), rfl, .inl ⟨hb.1 hb1, _, rfl, by simp; exact fun hg => hb.1 hb1 (hg x (getR hx).2)⟩⟩
    · exact Tot.chk (by unfold InI64; omega) (Tot.ret (.inr ⟨fun hg => hb0 (hb.2 hg), rfl⟩))
  · unfold slices_IndexFunc_api_Page_api_Page__disk_Right_1_B1 slices_IndexFunc_api_Page_api_Page__disk_Right_1_J1
    exact Tot.ncond (by simp) ⟨.inr (-1), rfl, _, rfl, by simp; exact fun p hp => Classical.not_not.1 (hall p hp)⟩

theorem t_dRight (d : api_Disk) (hs : d.Synced.length ≤ 9223372036854775807) (hl : d.Loose.length ≤ 9223372036854775807) : Tot (disk_Right d) (Tells (RightD d)) := by
  unfold disk_Right
  refine Tot.bind (R := fun v => v = true ↔ ((¬ GoodL d.Synced ∨ ¬ GoodL d.Loose) ∨ (d.Down = true ∧ d.Loose ≠ []))) (Tot.bind (t_find _ hs) fun x1 h1 => Tot.bind (R := Tells (¬ GoodL d.Synced ∨ ¬ GoodL d.Loose)) (Tot.orI h1 fun _ => Tot.bind (t_find _ hl) fun x2 h2 => Tot.ret h2) fun c1 hc1 => Tot.bind (Tot.orI (Q := d.Down = true ∧ d.Loose ≠ []) hc1 fun _ => Tot.bind (Tot.andI (P := d.Down = true) (Q := d.Loose ≠ []) Iff.rfl fun _ => Tot.ret ?_) fun _ h => Tot.ret h) fun _ h => Tot.ret h) fun v hv => Tot.ite (fun hb => Tot.ret ?_) fun hb => ?_
  · unfold Tells
    cases hL : d.Loose with
    | nil => simp
    | cons a r => simp
  · refine (Tells.no fun hr => ?_)
    rcases hv.1 hb with (h | h) | h
    · exact absurd hr.gs h
    · exact absurd hr.gl h
    · exact absurd (hr.dn h.1) h.2
  · have hg : GoodL d.Synced ∧ GoodL d.Loose ∧ (d.Down = true → d.Loose = []) := by
      have hv' : ¬ ((¬ GoodL d.Synced ∨ ¬ GoodL d.Loose) ∨ (d.Down = true ∧ d.Loose ≠ [])) := fun h => hb (hv.2 h)
      refine ⟨Classical.byContradiction fun h => hv' (.inl (.inl h)), Classical.byContradiction fun h => hv' (.inl (.inr h)), fun hd => Classical.byContradiction fun h => hv' (.inr ⟨hd, h⟩)⟩
    unfold disk_Right_L1
    refine Tot.loop (fun s : Int => 1 ≤ s ∧ (s = 1 ∨ s ≤ (d.Synced.length : Int)) ∧ ∀ j : Nat, j + 1 < s.toNat → ∀ x y, d.Synced[j]? = some x → d.Synced[j + 1]? = some y → x.At < y.At) (fun s => ((d.Synced.length : Int) - s).toNat) ?_ 1 ⟨by simp, .inl rfl, fun j hj => by simp at hj⟩
    rintro s ⟨g0, g1, g2⟩
    unfold disk_Right_B1 disk_Right_J1
    refine Tot.ite (fun hlt => ?_) (fun hge => Tot.out (Tot.ret ⟨fun _ => ⟨hg.1, hg.2.1, hg.2.2, adj_asc fun j x y hx hy => ?_⟩, fun _ => rfl⟩))
    · have hlt : s < d.Synced.length := by simpa using hlt
      refine Tot.chk (by unfold InI64; omega) (Tot.bind (Tot.idx (by omega) (by omega) (Q := fun y => d.Synced[(s - 1).toNat]? = some y) fun _ h => h) fun x3 h3 => Tot.bind (Tot.idx (by omega) hlt (Q := fun y => d.Synced[s.toNat]? = some y) fun _ h => h) fun x4 h4 => Tot.ite (fun hb => Tot.out (Tot.ret (Tells.no fun hr => ?_))) fun hb => Tot.chk (by unfold InI64; omega) (Tot.inl ⟨⟨by omega, by omega, fun j hj x y hx hy => ?_⟩, by omega⟩))
      · have hb : x3.At ≥ x4.At := by simpa using hb
        have := List.pairwise_iff_getElem.1 hr.asc (s - 1).toNat s.toNat (getR h3).1 (getR h4).1 (by omega)
        rw [List.getElem?_eq_getElem (getR h3).1] at h3
        rw [List.getElem?_eq_getElem (getR h4).1] at h4
        rw [Option.some.inj h3, Option.some.inj h4] at this; omega
      · have hb : ¬ x3.At ≥ x4.At := by simpa using hb
        rcases Nat.lt_or_ge (j + 1) s.toNat with h1 | h1
        · exact g2 j h1 x y hx hy
        · have e1 : j + 1 = s.toNat := by omega
          rw [e1, h4] at hy; cases hy
          rw [show (s - 1).toNat = j by omega, hx] at h3; cases h3
          omega
    · have hge : ¬ s < d.Synced.length := by simpa using hge
      exact g2 j (by have := (getR hy).1; omega) x y hx hy

theorem t_rRight (d : api_Disk) (hs : d.Synced.length ≤ 1000) (hl : d.Loose.length ≤ 1000) : Tot (ref04_Right d) (Tells (RightD d)) := by
  unfold ref04_Right ref04_Right_L1
  refine Tot.loop (fun s : Int => 0 ≤ s ∧ s ≤ (d.Synced.length : Int) ∧ (∀ j : Nat, j < s.toNat → ∀ x, d.Synced[j]? = some x → goodP x) ∧ ∀ j : Nat, j + 1 < s.toNat → ∀ x y, d.Synced[j]? = some x → d.Synced[j + 1]? = some y → x.At < y.At) (fun s => ((d.Synced.length : Int) - s).toNat) ?_ 0 ⟨by simp, by simp, fun j hj => by simp at hj, fun j hj => by simp at hj⟩
  rintro s ⟨g0, g1, gg, g2⟩
  unfold ref04_Right_B1
  refine Tot.ite (fun hlt => ?_) (fun hge => Tot.out ?_)
  · have hlt : s < d.Synced.length := by simpa using hlt
    refine Tot.bind (Tot.idx g0 hlt (Q := fun y => d.Synced[s.toNat]? = some y) fun _ h => h) fun x hx => Tot.bind (p_Page x) fun b hb => Tot.bind (R := fun v => v = true ↔ (¬ goodP x ∨ (0 < s ∧ ∃ y, d.Synced[(s - 1).toNat]? = some y ∧ x.At ≤ y.At))) ?_ fun v hv => Tot.ite (fun ht => Tot.out (Tot.ret (Tells.no fun hr => ?_))) fun hf => Tot.chk (by unfold InI64; omega) (Tot.inl ⟨⟨by omega, by omega, fun j hj y hy => ?_, fun j hj y z hy hz => ?_⟩, by omega⟩)
    · refine Tot.bind (R := fun v => v = true ↔ (¬ goodP x ∨ (0 < s ∧ ∃ y, d.Synced[(s - 1).toNat]? = some y ∧ x.At ≤ y.At))) (Tot.orI (P := ¬ goodP x) (Q := 0 < s ∧ ∃ y, d.Synced[(s - 1).toNat]? = some y ∧ x.At ≤ y.At) (by cases b with | true => simp [hb.1 rfl] | false => simp; exact fun hg => by have := hb.2 hg; cases this) fun _ => ?_) fun v hv => Tot.ret hv
      refine Tot.bind (Tot.andI (P := 0 < s) (Q := ∃ y, d.Synced[(s - 1).toNat]? = some y ∧ x.At ≤ y.At) (by simp) fun hp => ?_) fun v hv => Tot.ret hv
      refine Tot.bind (Tot.idx g0 hlt (Q := fun y => d.Synced[s.toNat]? = some y) fun _ h => h) fun x3 hx3 => Tot.chk (by unfold InI64; omega) (Tot.bind (Tot.idx (by omega) (by omega) (Q := fun y => d.Synced[(s - 1).toNat]? = some y) fun _ h => h) fun x4 hx4 => Tot.ret ?_)
      rw [hx] at hx3; cases hx3
      refine ⟨fun e => ⟨x4, hx4, of_decide_eq_true e⟩, fun ⟨y, hy, e⟩ => ?_⟩
      rw [hx4] at hy; cases hy; exact decide_eq_true e
    · rcases hv.1 ht with h | ⟨h0, y, hy, h⟩
      · exact h (hr.gs x (getR hx).2)
      · have := List.pairwise_iff_getElem.1 hr.asc (s - 1).toNat s.toNat (getR hy).1 (getR hx).1 (by omega)
        rw [List.getElem?_eq_getElem (getR hy).1] at hy
        rw [List.getElem?_eq_getElem (getR hx).1] at hx
        rw [Option.some.inj hx, Option.some.inj hy] at this; omega
    · rcases Nat.lt_or_ge j s.toNat with h1 | h1
      · exact gg j h1 y hy
      · have e1 : j = s.toNat := by omega
        rw [e1, hx] at hy; cases hy
        exact Classical.byContradiction fun h => hf (hv.2 (.inl h))
    · rcases Nat.lt_or_ge (j + 1) s.toNat with h1 | h1
      · exact g2 j h1 y z hy hz
      · have e1 : j + 1 = s.toNat := by omega
        rw [e1, hx] at hz; cases hz
        refine Classical.byContradiction fun h => hf (hv.2 (.inr ⟨by omega, y, by rw [show (s - 1).toNat = j by omega]; exact hy, by omega⟩))
  · have hge : ¬ s < d.Synced.length := by simpa using hge
    have hA : Asc d.Synced := adj_asc fun j x y hx hy => g2 j (by have := (getR hy).1; omega) x y hx hy
    have hG : GoodL d.Synced := fun p hp => by obtain ⟨j, hj⟩ := memR hp; exact gg j (by have := (getR hj).1; omega) p hj
    unfold ref04_Right_J1 ref04_Right_L2
    refine Tot.search (l := d.Loose) (fun p => ¬ goodP p) (fun n x hx _ => ?_) (fun hall => ?_)
    · have hn := (getR hx).1
      unfold ref04_Right_B2
      refine Tot.cond (by simp; omega) (Tot.bindeq (idx_some hx) (Tot.bind (p_Page x) fun b hb => Tot.ite (fun hb1 => ?_) fun hb0 => ?_))
      · exact ⟨.inr false, rfl, .inl ⟨fun hg => (by have := hb.2 hg; subst this; simp at hb1), _, rfl, Tells.no fun hr => (by have := hb.2 (hr.gl x (getR hx).2); subst this; simp at hb1)⟩⟩
      · exact Tot.chk (by unfold InI64; omega) (Tot.ret (.inr ⟨fun h => h (hb.1 (by simpa using hb0)), rfl⟩))
    · unfold ref04_Right_B2 ref04_Right_J2
      have hGL : GoodL d.Loose := fun p hp => Classical.not_not.1 (hall p hp)
      refine Tot.ncond (by simp) (Tot.done ?_)
      refine Tot.bind (R := fun v => v = true ↔ (d.Down = false ∨ d.Loose = [])) (Tot.bind (Tot.orI (P := d.Down = false) (Q := d.Loose = []) (by simp) fun _ => Tot.ret ?_) fun _ h => Tot.ret h) fun v hv => Tot.ret ?_
      · unfold Tells
        cases d.Loose with
        | nil => simp
        | cons a r => simp; omega
      · refine hv.trans ⟨fun h => ⟨hG, hGL, fun hd => h.elim (fun h => by rw [hd] at h; cases h) id, hA⟩, fun h => ?_⟩
        cases hd : d.Down with
        | false => exact .inl rfl
        | true => exact .inr (h.dn hd)

theorem t_fits3 (d : api_Disk) : Tot (law04_Fits d) (Tells (d.Synced.length ≤ 60 ∧ d.Loose.length ≤ 60 ∧ RightD d)) := by
  unfold law04_Fits
  refine Tot.bind (R := Tells (d.Synced.length > 60 ∨ d.Loose.length > 60)) (Tot.bind (Tot.orI (P := d.Synced.length > 60) (Q := d.Loose.length > 60) (by simp; omega) fun _ => Tot.ret (by unfold Tells; simp; omega)) fun _ h => Tot.ret h) fun v hv => Tot.ite (fun ht => Tot.ret (Tells.no fun h => ?_)) fun hn => ?_
  · have := hv.1 ht; omega
  · have hn : ¬ (d.Synced.length > 60 ∨ d.Loose.length > 60) := fun h => hn (hv.2 h)
    exact Tot.bind (t_rRight d (by omega) (by omega)) fun b hb => Tot.ret (hb.trans ⟨fun h => ⟨by omega, by omega, h⟩, fun h => h.2.2⟩)

theorem loop_take {β ρ σ : Type} {b : List β} {B : Int × σ → Option ((Int × σ) ⊕ ρ)} (st : Nat → σ) (fin : ρ)
    (h1 : ∀ (n : Nat) (x : β), b[n]? = some x → B ((n : Int), st n) = some (.inl ((n : Int) + 1, st (n + 1)))) (h2 : B ((b.length : Int), st b.length) = some (.inr fin)) : Cat.loop B (0, st 0) = some fin := by
  refine Tot.eq (Tot.loop (fun s => ∃ n : Nat, s = ((n : Int), st n) ∧ n ≤ b.length) (fun s => ((b.length : Int) - s.1).toNat) ?_ _ ⟨0, rfl, Nat.zero_le _⟩)
  rintro s ⟨n, rfl, hn⟩
  rcases Nat.lt_or_ge n b.length with h | h
  · exact ⟨_, h1 n _ (getLt h), ⟨n + 1, rfl, h⟩, by dsimp only; omega⟩
  · obtain rfl : n = b.length := by omega
    exact ⟨_, h2, rfl⟩
theorem take_app {β : Type} {b : List β} {n : Nat} {x : β} (h : b[n]? = some x) : b.take n ++ [x] = b.take (n + 1) := by
  rw [List.take_succ, h]; rfl

theorem p_own (d : api_Disk) (hs : d.Synced.length ≤ 1000) (hl : d.Loose.length ≤ 1000) (hd : ∀ p, p ∈ d.Synced ++ d.Loose → p.Data.length ≤ 1000) : law04_own d = some d := by
  refine Tot.eq ?_
  unfold law04_own law04_own_L1 law04_own_L2
  refine Tot.bindeq (loop_take (b := d.Synced) (fun n => d.Synced.take n) d.Synced (fun n x hx => ?_) ?_) (Tot.bindeq (loop_take (b := d.Loose) (fun n => d.Loose.take n) d.Loose (fun n x hx => ?_) ?_) (Tot.ret rfl))
  · have hn := (getR hx).1
    have hdx := hd x (List.mem_append_left _ (getR hx).2)
    refine Tot.eq ?_
    unfold law04_own_B1
    exact Tot.cond (by simp; omega) (Tot.bindeq (idx_some hx) (Tot.bindeq (idx_some hx) (Tot.chk (by omega) (Tot.chk (by simp; omega) (Tot.chk (by unfold InI64; dsimp only; omega) (Tot.ret (by rw [← take_app hx])))))))
  · unfold law04_own_B1
    rw [if_neg (by simp), List.take_length]; rfl
  · have hn := (getR hx).1
    have hdx := hd x (List.mem_append_right _ (getR hx).2)
    refine Tot.eq ?_
    unfold law04_own_B2
    exact Tot.cond (by simp; omega) (Tot.bindeq (idx_some hx) (Tot.bindeq (idx_some hx) (Tot.chk (by omega) (Tot.chk (by simp; omega) (Tot.chk (by unfold InI64; dsimp only; omega) (Tot.ret (by rw [← take_app hx])))))))
  · unfold law04_own_B2
    rw [if_neg (by simp), List.take_length]; rfl

/-! The document's way of laying a page. -/
def layN (S : List api_Page) (p : api_Page) : List api_Page := S.filter (fun x => decide (x.At < p.At)) ++ p :: S.filter (fun x => decide (p.At < x.At))
def layG (p : api_Page) (s : Bool × List api_Page) (x : api_Page) : Bool × List api_Page :=
  let s' := if (!s.1 && decide (x.At ≥ p.At)) then (true, s.2 ++ [p]) else s
  if x.At ≠ p.At then (s'.1, s'.2 ++ [x]) else s'

theorem layG_fold (p : api_Page) : ∀ (S : List api_Page), Asc S → ∀ acc, (S.foldl (layG p) (true, acc)) = (true, acc ++ S.filter (fun x => decide (x.At ≠ p.At))) ∧
    S.foldl (layG p) (false, acc) = if S.all (fun x => decide (x.At < p.At)) then (false, acc ++ S) else (true, acc ++ layN S p)
  | [], _, acc => by simp
  | x :: S, hA, acc => by
    have hA' : Asc S := (List.pairwise_cons.1 hA).2
    have hx := (List.pairwise_cons.1 hA).1
    refine ⟨?_, ?_⟩
    · rw [List.foldl_cons]
      have e : layG p (true, acc) x = (true, if x.At ≠ p.At then acc ++ [x] else acc) := by unfold layG; simp; split <;> rfl
      rw [e, (layG_fold p S hA' _).1]
      by_cases h : x.At = p.At <;> simp [h]
    · rw [List.foldl_cons]
      by_cases h : x.At < p.At
      · have e : layG p (false, acc) x = (false, acc ++ [x]) := by
          unfold layG
          have h1 : ¬ p.At ≤ x.At := by omega
          have h2 : x.At ≠ p.At := by omega
          simp [h1, h2]
        rw [e, (layG_fold p S hA' _).2]
        have h3 : ¬ p.At < x.At := by omega
        simp only [List.all_cons, h, decide_true, Bool.true_and, List.append_assoc, List.singleton_append, List.cons_append]
        split
        · rfl
        · simp [layN, h, h3]
      · have e : layG p (false, acc) x = (true, (acc ++ [p]) ++ if x.At ≠ p.At then [x] else []) := by
          unfold layG
          have h1 : p.At ≤ x.At := by omega
          simp [h1]; split <;> simp
        rw [e, (layG_fold p S hA' _).1]
        have f1 : S.filter (fun y => decide (y.At < p.At)) = [] := by
          rw [List.filter_eq_nil_iff]; intro y hy; have := hx y hy; simp; omega
        have f2 : S.filter (fun y => decide (y.At ≠ p.At)) = S.filter (fun y => decide (p.At < y.At)) := by
          refine List.filter_congr fun y hy => ?_
          have := hx y hy
          by_cases h2 : p.At < y.At
          · simp [h2]; omega
          · simp [h2]; omega
        have h4 : (x :: S).all (fun x => decide (x.At < p.At)) = false := by simp [h]
        rw [h4, f2]
        by_cases h5 : x.At = p.At
        · simp [layN, h5, f1]
        · have h6 : p.At < x.At := by omega
          simp [layN, h5, h, h6, f1]

theorem layN_all {S : List api_Page} {p : api_Page} (h : S.all (fun x => decide (x.At < p.At)) = true) : layN S p = S ++ [p] := by
  have h' : ∀ x, x ∈ S → x.At < p.At := by simpa using h
  unfold layN
  rw [List.filter_eq_self.2 (by simpa using h'), List.filter_eq_nil_iff.2 (fun y hy => by have := h' y hy; simp; omega)]

theorem layG_len (p : api_Page) : ∀ (S : List api_Page) (s : Bool × List api_Page), (S.foldl (layG p) s).2.length ≤ s.2.length + 2 * S.length
  | [], s => by simp
  | x :: S, s => by
    rw [List.foldl_cons]
    have h := layG_len p S (layG p s x)
    have h2 : (layG p s x).2.length ≤ s.2.length + 2 := by
      unfold layG; dsimp only
      split <;> split <;> simp
    simp only [List.length_cons]; omega

theorem p_lay (S : List api_Page) (p : api_Page) (hA : Asc S) (hs : S.length ≤ 1000) : ref04_lay S p = some (layN S p) := by
  have hlen : ∀ n, ((S.take n).foldl (layG p) (false, [])).2.length ≤ 2000 := fun n => by
    have := layG_len p (S.take n) (false, []); simp only [List.length_nil, List.length_take] at this; omega
  have hL : ref04_lay_L1 S p (false, 0, []) = some (S.foldl (layG p) (false, [])) := by
    refine Tot.eq ?_
    unfold ref04_lay_L1
    refine Tot.loop (fun s => ∃ n : Nat, s = (((S.take n).foldl (layG p) (false, [])).1, (n : Int), ((S.take n).foldl (layG p) (false, [])).2) ∧ n ≤ S.length) (fun s => ((S.length : Int) - s.2.1).toNat) ?_ _ ⟨0, rfl, Nat.zero_le _⟩
    rintro s ⟨n, rfl, hn⟩
    have hl := hlen n
    unfold ref04_lay_B1
    refine Tot.ite (fun hlt => ?_) (fun hge => Tot.out (Tot.ret ?_))
    · have hlt : n < S.length := by simpa using hlt
      have hx := getLt hlt
      generalize S[n] = x at hx
      have e1 : (S.take (n + 1)).foldl (layG p) (false, []) = layG p ((S.take n).foldl (layG p) (false, [])) x := by rw [← take_app hx, List.foldl_append]; rfl
      generalize (S.take n).foldl (layG p) (false, []) = acc at hl e1
      obtain ⟨b, o⟩ := acc
      dsimp only at hl ⊢
      refine Tot.bind (R := (· = layG p (b, o) x)) (Tot.bind (R := (· = if (!b && decide (x.At ≥ p.At)) then (true, o ++ [p]) else (b, o))) (Tot.bind (R := (· = (!b && decide (x.At ≥ p.At)))) (Tot.bind (R := (· = (!b && decide (x.At ≥ p.At)))) ?_ fun _ h => Tot.ret h) fun v4 h4 => ?_) fun v3 h3 => ?_) fun v2 h2 => Tot.chk (by unfold InI64; omega) (Tot.inl ⟨⟨n + 1, ?_, hlt⟩, by dsimp only; omega⟩)
      · cases b with
        | true => exact Tot.ncond (by decide) (Tot.ret rfl)
        | false => exact Tot.cond (by decide) (Tot.bindeq (idx_some hx) (Tot.ret rfl))
      · subst h4
        exact Tot.ite (fun ht => Tot.chk (by simp; omega) (Tot.ret (by rw [if_pos ht]))) fun hf => Tot.ret (by rw [if_neg hf])
      · have hl3 : v3.2.length ≤ 2001 := by rw [h3]; split <;> simp <;> omega
        refine Tot.bindeq (idx_some hx) (Tot.ite (fun ht => Tot.bindeq (idx_some hx) (Tot.chk (by simp; omega) (Tot.ret ?_))) fun hf => Tot.ret ?_)
        · have ht : x.At ≠ p.At := by simpa using ht
          unfold layG; dsimp only; rw [if_pos ht, ← h3]
        · have hf : ¬ x.At ≠ p.At := by simpa using hf
          unfold layG; dsimp only; rw [if_neg hf, ← h3]
      · rw [e1, ← h2]; rfl
    · have : n = S.length := by have : ¬ (n : Int) < S.length := by simpa using hge
                                omega
      subst this; rw [List.take_length]
  refine Tot.eq ?_
  unfold ref04_lay
  have hl := hlen S.length
  rw [List.take_length] at hl
  refine Tot.bindeq hL (Tot.bind (R := (· = layN S p)) (Tot.ite (fun ht => Tot.chk (by simp; omega) (Tot.ret ?_)) fun hf => Tot.ret ?_) fun _ h => Tot.ret h)
  · have h2 := (layG_fold p S hA []).2
    rw [h2] at ht ⊢
    split at ht
    · rename_i hall; rw [if_pos hall, layN_all hall]; simp
    · simp at ht
  · have h2 := (layG_fold p S hA []).2
    rw [h2] at hf ⊢
    split at hf
    · simp at hf
    · rename_i hall; rw [if_neg hall]; simp

theorem lay_asc {S : List api_Page} (p : api_Page) (hA : Asc S) : Asc (layN S p) := by
  unfold layN Asc
  rw [List.pairwise_append, List.pairwise_cons]
  refine ⟨hA.filter _, ⟨fun y hy => by simpa using (List.mem_filter.1 hy).2, hA.filter _⟩, fun x hx y hy => ?_⟩
  have h1 : x.At < p.At := by simpa using (List.mem_filter.1 hx).2
  rcases List.mem_cons.1 hy with rfl | hy
  · exact h1
  · have h2 : p.At < y.At := by simpa using (List.mem_filter.1 hy).2
    omega

theorem asc_last {l : List api_Page} (h : Asc l) {p : api_Page} : lastAt l p.At = some p ↔ p ∈ l := by
  refine ⟨fun e => (last_at e).2, fun hp => ?_⟩
  cases hl : lastAt l p.At with
  | none =>
    unfold lastAt at hl
    have := List.find?_eq_none.1 hl p (by simpa using hp)
    simp at this
  | some q =>
    obtain ⟨h1, h2⟩ := last_at hl
    congr 1
    obtain ⟨i, hi⟩ := memR hp
    obtain ⟨j, hj⟩ := memR h2
    have hi' := (getR hi).1
    have hj' := (getR hj).1
    rw [List.getElem?_eq_getElem hi'] at hi
    rw [List.getElem?_eq_getElem hj'] at hj
    cases hi; cases hj
    rcases Nat.lt_trichotomy i j with h3 | h3 | h3
    · have := List.pairwise_iff_getElem.1 h i j hi' hj' h3; omega
    · subst h3; rfl
    · have := List.pairwise_iff_getElem.1 h j i hj' hi' h3; omega

theorem asc_ext {l m : List api_Page} (hl : Asc l) (hm : Asc m) (h : ∀ a, lastAt l a = lastAt m a) : l = m := by
  have hmem : ∀ p, p ∈ l ↔ p ∈ m := fun p => by rw [← asc_last hl, ← asc_last hm, h]
  have nd : ∀ {l : List api_Page}, Asc l → l.Nodup := fun h => h.imp fun {a b} hab e => by rw [e] at hab; omega
  have hp : l.Perm m := (List.perm_ext_iff_of_nodup (nd hl) (nd hm)).2 hmem
  exact List.Perm.eq_of_pairwise (le := fun a b : api_Page => a.At < b.At) (fun a b _ _ (h1 : a.At < b.At) (h2 : b.At < a.At) => absurd h2 (by omega)) hl hm hp

theorem lay_last {S : List api_Page} (p : api_Page) (hA : Asc S) (a : Int) : lastAt (layN S p) a = if p.At = a then some p else lastAt S a := by
  have hB := lay_asc p hA
  by_cases h : p.At = a
  · subst h
    rw [if_pos rfl]
    exact (asc_last hB).2 (by unfold layN; simp)
  · rw [if_neg h]
    cases hs : lastAt S a with
    | none =>
      cases hq : lastAt (layN S p) a with
      | none => rfl
      | some q =>
        obtain ⟨h1, h2⟩ := last_at hq
        subst h1
        have : q ∈ S := by
          unfold layN at h2
          rcases List.mem_append.1 h2 with h2 | h2
          · exact (List.mem_filter.1 h2).1
          · rcases List.mem_cons.1 h2 with rfl | h2
            · exact absurd rfl h
            · exact (List.mem_filter.1 h2).1
        rw [(asc_last hA).2 this] at hs; cases hs
    | some q =>
      obtain ⟨h1, h2⟩ := last_at hs
      subst h1
      refine (asc_last hB).2 ?_
      unfold layN
      rcases Int.lt_or_gt_of_ne h with h3 | h3
      · exact List.mem_append_right _ (List.mem_cons_of_mem _ (List.mem_filter.2 ⟨h2, by simpa using h3⟩))
      · exact List.mem_append_left _ (List.mem_filter.2 ⟨h2, by simpa using h3⟩)

theorem lay_fold : ∀ (L S : List api_Page), Asc S → Asc (L.foldl layN S) ∧ ∀ a, lastAt (L.foldl layN S) a = lastAt (S ++ L) a
  | [], S, h => ⟨h, fun a => by simp⟩
  | p :: L, S, h => by
    obtain ⟨h1, h2⟩ := lay_fold L (layN S p) (lay_asc p h)
    refine ⟨h1, fun a => ?_⟩
    rw [List.foldl_cons, h2, last_append, lay_last p h, last_append, last_cons]
    by_cases e : p.At = a
    · simp [e]
    · simp [e]
theorem lay_laid {L S : List api_Page} (h : Asc S) : L.foldl layN S = laidN S L :=
  asc_ext (lay_fold L S h).1 (laid_asc S L) fun a => by rw [(lay_fold L S h).2, last_laid]
end Go.Proofs
