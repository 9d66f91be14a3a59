/- Scrubbing, plain: what stands on a disk behind a cleaning and behind a copy; strays. No condition. -/
import Derived.Test.YtpohijpdclienaaGreatXScrubTellsP27r
import Derived.Test.YtpohijpdclienaaGreatXScrubTellsP27o
namespace Go.Proofs
set_option linter.all false
open Go Go.Cat
set_option linter.all false
theorem Fit.put {S L : List api_Page} {n : Nat} {i : Int} {x : List UInt8} {b : Bool} (h : Fit ⟨S, L, b⟩ n) (hi : InI64 i) (hx : x.length ≤ 200) : Fit (syncD ⟨S, L ++ [⟨i, x⟩], false⟩) (n + 1) := by
 refine Fit.sync ⟨?_, fun p hp => ?_, h.a⟩
 ·have := h.t; simp only [List.length_append, List.length_cons, List.length_nil] at *; omega
 ·simp only [List.mem_append, List.mem_singleton] at hp
  rcases hp with hp | hp | rfl
  ·exact h.x p (List.mem_append_left _ hp)
  ·exact h.x p (List.mem_append_right _ hp)
  ·exact ⟨hx, hi⟩
def strayB (l : List api_Chain) (s i : Int) : Bool := !(l.any fun c => c.Id == i && decide (s ∈ c.Servers))
def strayS (l : List api_Chain) (s : Int) (d : api_Disk) : List api_Find := ((hasN d).filter (strayB l s)).map fun i => ⟨i, s, 6⟩
def straysN (D : List api_Disk) (l : List api_Chain) (n : Nat) : List api_Find := (List.range n).flatMap fun (s : Nat) => strayS l (s : Int) (D.getD s ⟨[], [], false⟩)
theorem strays_len (D : List api_Disk) (l : List api_Chain) : ∀ n, (straysN D l n).length ≤ 200 * n
 | 0 => by simp [straysN]
 | n + 1 => by
  have ih := strays_len D l n
  unfold straysN at *
  rw [List.range_succ, List.flatMap_append, List.length_append]
  have : (strayS l (n : Int) (D.getD n ⟨[], [], false⟩)).length ≤ 200 := by
   unfold strayS; rw [List.length_map]; exact Nat.le_trans (List.length_filter_le _ _) (hasN_len _)
  simp only [List.flatMap_cons, List.flatMap_nil, List.append_nil]
  omega
theorem p_Contains (l : List Int) (x : Int) (h : l.length ≤ 100000) : slicesN41 l x = some (decide (x ∈ l)) := by
 refine Tot.eq ?_
 unfold slicesN41
 refine Tot.bind (R := fun r => 0 ≤ r ↔ x ∈ l) ?_ fun r hr => Tot.ret (by rw [decide_eq_decide]; exact hr)
 unfold slicesN66 slicesN71
 refine Tot.each0 (l := l) (fun n => x ∉ l.take n) (fun n y hlt hy hi => ?_) (fun hi => ?_) (by simp)
 ·unfold slicesN68
  refine Tot.cond (by simp; omega) (Tot.bindeq (idx_some hy) (Tot.ite (fun h => Tot.out (Tot.ret ⟨fun _ => ?_, fun _ => by omega⟩)) fun h => Tot.chk (by unfold InI64; omega) (Tot.inl ⟨rfl, ?_⟩)))
  ·have : x = y := by simpa using h
   rw [this]; exact List.mem_of_getElem? hy
  ·rw [take_snoc hy]
   simp only [List.mem_append, List.mem_singleton, not_or]
   exact ⟨hi, by simpa using h⟩
 ·unfold slicesN68 slicesN70
  rw [List.take_length] at hi
  exact Tot.ncond (by simp) (Tot.out (Tot.ret ⟨fun h => by omega, fun h => (hi h).elim⟩))
theorem p_ContainsF {l : List api_Chain} (hl : l.length ≤ 12) (hc : ∀ c, c ∈ l → ChainOk c) (i s : Int) : slicesN39 l i s = some (!strayB l s i) := by
 refine Tot.eq ?_
 unfold slicesN39
 refine Tot.bind (R := fun r => 0 ≤ r ↔ ∃ c, c ∈ l ∧ c.Id = i ∧ s ∈ c.Servers) ?_ fun r hr => Tot.ret ?_
 ·unfold slicesN45 slicesN50
  refine Tot.each0 (l := l) (fun n => ∀ c, c ∈ l.take n → ¬ (c.Id = i ∧ s ∈ c.Servers)) (fun n y hlt hy hi => ?_) (fun hi => ?_) (by simp)
  ·unfold slicesN47
   have hyo := (hc y (List.mem_of_getElem? hy)).n
   refine Tot.cond (by simp; omega) (Tot.bindeq (idx_some hy) (Tot.bind (R := Tells (y.Id = i ∧ s ∈ y.Servers)) ?_ fun b hb => Tot.ite (fun h => Tot.out (Tot.ret ⟨fun _ => ?_, fun _ => by omega⟩)) fun h => Tot.chk (by unfold InI64; omega) (Tot.inl ⟨rfl, ?_⟩)))
   ·unfold scrubN27
    refine Tot.bind (Tot.bind (Tot.andI (by simp) fun _ => Tot.bindeq (p_Contains y.Servers s (by omega)) (Tot.dec Iff.rfl)) fun _ h => Tot.ret h) fun _ h => Tot.ret h
   ·exact ⟨y, List.mem_of_getElem? hy, hb.1 h⟩
   ·intro c hcm
    rw [take_snoc hy] at hcm
    rcases List.mem_append.1 hcm with hcm | hcm
    ·exact hi c hcm
    ·rw [List.mem_singleton.1 hcm]; exact fun e => h (hb.2 e)
  ·unfold slicesN47 slicesN49
   rw [List.take_length] at hi
   exact Tot.ncond (by simp) (Tot.out (Tot.ret ⟨fun h => by omega, fun ⟨c, h1, h2⟩ => (hi c h1 h2).elim⟩))
 ·unfold strayB
  rw [Bool.not_not, Bool.eq_iff_iff, decide_eq_true_iff, List.any_eq_true]
  show r ≥ 0 ↔ _
  rw [ge_iff_le, hr]
  constructor
  ·rintro ⟨c, h1, h2, h3⟩; exact ⟨c, h1, by simp [h2, h3]⟩
  ·rintro ⟨c, h1, h2⟩; simp at h2; exact ⟨c, h1, h2⟩
theorem p_Strays {D : List api_Disk} (hD : Small D) {l : List api_Chain} (hl : l.length ≤ 12) (hc : ∀ c, c ∈ l → ChainOk c) : scrubN25 D l = some (straysN D l D.length) := by
 refine Tot.eq ?_
 unfold scrubN25
 refine Tot.bind (R := (· = straysN D l D.length)) ?_ fun r hr => Tot.ret hr
 unfold scrubN33
 have hDl := hD.1
 refine Tot.each (l := D) (fun n a => a = straysN D l n) (fun n d a hlt hd ha => ?_) (fun a ha => ?_) [] rfl
 ·subst ha
  unfold scrubN29
  have hsl := strays_len D l n
  have hh := hasN_len d
  refine Tot.cond (by simp; omega) (Tot.bind (R := (· = straysN D l (n + 1))) (Tot.bindeq (idx_some hd) (Tot.bindeq (p_Has d (hD.2 d (List.mem_of_getElem? hd))) ?_)) fun v hv => Tot.chk (by unfold InI64; dsimp only; omega) (Tot.ret ⟨rfl, hv⟩))
  unfold scrubN35
  refine Tot.each (l := hasN d) (fun m a => a = straysN D l n ++ (((hasN d).take m).filter (strayB l (n : Int))).map fun i => (⟨i, (n : Int), 6⟩ : api_Find)) (fun m i a hlt2 hi ha => ?_) (fun a ha => ?_) _ (by simp)
  ·subst ha
   unfold scrubN31
   have hf1 := List.length_filter_le (strayB l (n : Int)) ((hasN d).take m)
   have hf2 := List.length_take_le m (hasN d)
   refine Tot.cond (by simp; omega) (Tot.bind (R := (· = straysN D l n ++ (((hasN d).take (m + 1)).filter (strayB l (n : Int))).map fun i => (⟨i, (n : Int), 6⟩ : api_Find))) (Tot.bindeq (idx_some hi) (Tot.bindeq (p_ContainsF hl hc i (n : Int)) ?_)) fun v hv => Tot.chk (by unfold InI64; dsimp only; omega) (Tot.ret ⟨rfl, hv⟩))
   rw [take_snoc hi, filter_snoc]
   refine Tot.ite (fun h => Tot.chk (by simp only [List.length_cons, List.length_nil, List.length_append, List.length_map]; omega) (Tot.ret ?_)) fun h => Tot.ret ?_
   ·rw [if_pos (by simpa using h), List.map_append, List.append_assoc]; rfl
   ·rw [if_neg (by simpa using h)]
  ·subst ha
   unfold scrubN31
   refine Tot.ncond (by simp) (Tot.out (Tot.ret ?_))
   rw [List.take_length]
   unfold straysN
   rw [List.range_succ, List.flatMap_append]
   simp only [List.flatMap_cons, List.flatMap_nil, List.append_nil]
   rw [List.getD_eq_getElem?_getD, hd]; rfl
 ·subst ha
  unfold scrubN29
  exact Tot.ncond (by simp) (Tot.out (Tot.ret rfl))
end Go.Proofs
