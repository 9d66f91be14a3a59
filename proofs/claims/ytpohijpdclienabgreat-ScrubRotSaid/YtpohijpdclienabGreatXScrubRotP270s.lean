/- Scrubbing, plain: what stands on a disk behind a cleaning and behind a copy; strays. No condition. -/
import Derived.Test.YtpohijpdclienabGreatXScrubRotP270r
import Derived.Test.YtpohijpdclienabGreatXScrubRotP270o
namespace Go.Proofs
set_option linter.all false
open Go Go.Cat
set_option linter.all false
theorem there_page {d : api_Disk} {i : Int} (h : (thereN d i).2 = 0) : d.Down = false ∧ withinP i ∧ ∃ q, q ∈ d.Synced ++ d.Loose ∧ q.At = i ∧ q.Data = (thereN d i).1 := by
 unfold thereN at h ⊢
 by_cases hw : withinP i
 ·rw [if_pos hw] at h ⊢
  by_cases hz : (readN d i).2 = 0 ∧ (readN d i).1 = []
  ·rw [if_pos hz] at h; cases h
  ·rw [if_neg hz] at h ⊢
   unfold readN at h ⊢
   by_cases hd : d.Down = true
   ·rw [if_pos hd] at h; cases h
   ·rw [if_neg hd] at h ⊢
    have hm : mayN i 0 := by unfold mayN; unfold withinP at hw; omega
    rw [if_pos hm] at h ⊢
    refine ⟨by simpa using hd, hw, ?_⟩
    cases hf : (d.Synced ++ d.Loose).reverse.find? (fun p => p.At == i) with
    | none => rw [hf] at h; cases h
    | some p => exact ⟨p, List.mem_reverse.1 (List.mem_of_find?_eq_some hf), by simpa using List.find?_some hf, rfl⟩
 ·rw [if_neg hw] at h; cases h
theorem there_set {S L : List api_Page} {i : Int} {x : List UInt8} (hw : withinP i) (o : Int) : thereN (syncD ⟨S, L ++ [⟨i, x⟩], false⟩) o = if o = i then (if x = [] then ([], 41) else (x, 0)) else thereN ⟨S, L, false⟩ o := by
 have e := there_laid S (L ++ [⟨i, x⟩]) o
 refine Eq.trans e ?_
 by_cases ho : o = i
 ·subst ho
  have hm : mayN o 0 := by unfold mayN; unfold withinP at hw; omega
  unfold thereN
  rw [if_pos hw, if_pos rfl, read_add_same (by simp) hm]
  by_cases hx : x = []
  ·rw [if_pos ⟨rfl, hx⟩, if_pos hx]
  ·rw [if_neg (fun h => hx h.2), if_neg hx]
 ·rw [if_neg ho, there_other ho]
theorem Fit.put {S L : List api_Page} {n : Nat} {i : Int} {x : List UInt8} {b : Bool} (h : Fit ⟨S, L, b⟩ n) (hi : InI64 i) (hx : x.length ≤ 200) : Fit (syncD ⟨S, L ++ [⟨i, x⟩], false⟩) (n + 1) := by
 refine Fit.sync ⟨?_, fun p hp => ?_, h.a⟩
 ·have := h.t; simp only [List.length_append, List.length_cons, List.length_nil] at *; omega
 ·simp only [List.mem_append, List.mem_singleton] at hp
  rcases hp with hp | hp | rfl
  ·exact h.x p (List.mem_append_left _ hp)
  ·exact h.x p (List.mem_append_right _ hp)
  ·exact ⟨hx, hi⟩
theorem within_i64 {i : Int} (h : withinP i) : InI64 i := by unfold withinP at h; unfold InI64; omega
theorem page_ne (c : api_Copy) : pageN c ≠ [] := fun e => by
 have := congrArg List.length e
 unfold pageN tailN at this
 simp at this
theorem put_view {d : api_Disk} {n : Nat} {c : api_Copy} (hf : Fit d n) (hd : d.Down = false) (hc : mayP c) (hp : (pageN c).length ≤ 200) :
  (putN d c).2 = 0 ∧ Fit (syncD (putN d c).1) (n + 1) ∧ ∀ o, thereN (syncD (putN d c).1) o = if o = c.Id then (pageN c, 0) else thereN d o := by
 obtain ⟨S, L, b⟩ := d
 dsimp only at hd; subst hd
 have hw : withinP c.Id := by have := hc.1; unfold withinP; omega
 have hm : mayN c.Id (pageN c).length := by unfold mayN; unfold withinP at hw; omega
 have e : putN ⟨S, L, false⟩ c = (⟨S, L ++ [⟨c.Id, pageN c⟩], false⟩, 0) := by
  unfold putN; rw [if_pos hc]; unfold writeN; rw [if_neg (by simp), if_pos hm]
 rw [e]
 refine ⟨rfl, hf.put (within_i64 hw) hp, fun o => ?_⟩
 rw [there_set hw o, if_neg (page_ne c)]
def strayB (l : List api_Chain) (s i : Int) : Bool := !(l.any fun c => c.Id == i && decide (s ∈ c.Servers))
def strayS (l : List api_Chain) (s : Int) (d : api_Disk) : List api_Find := ((hasN d).filter (strayB l s)).map fun i => ⟨i, s, 6⟩
def straysN (D : List api_Disk) (l : List api_Chain) (n : Nat) : List api_Find := (List.range n).flatMap fun (s : Nat) => strayS l (s : Int) (D.getD s ⟨[], [], false⟩)
end Go.Proofs
