/- Scrubbing, plain: which servers and chains are asked of; a live question. No condition. -/
import Derived.Test.YtpohijpdclienabGreatXScrubRotP270m
namespace Go.Proofs
set_option linter.all false
open Go Go.Cat
set_option linter.all false
def cmpI (x y : Int) : Int := if x < y then -1 else if x > y then 1 else 0
theorem t_cmpI (x y : Int) : cmp_Compare_int x y = some (cmpI x y) := by
 unfold cmp_Compare_int cmp_isNaN_int cmpI
 simp only [Option.bind_some]
 by_cases h1 : x < y <;> by_cases h2 : x > y <;> simp [h1, h2]
theorem cmpI_lt {x y : Int} : cmpI x y < 0 ↔ x < y := by unfold cmpI; split <;> (try split) <;> omega
theorem plan_cmp : CmpIs scrub_Plan_1 (fun a b => cmpI a.Server b.Server) := by
 refine ⟨fun x y => by unfold scrub_Plan_1; rw [t_cmpI]; rfl, ⟨fun x => ?_, fun x y z h1 h2 => ?_, fun x y z h1 h2 => ?_⟩⟩
 ·simp [cmpI_lt]
 ·simp only [decide_eq_true_eq, cmpI_lt] at *; omega
 ·simp only [decide_eq_false_iff_not, cmpI_lt] at *; omega
instance : CmpOk scrub_Plan_1 := ⟨_, plan_cmp⟩
theorem p_head27 : law27_head = some true := le_law27_head 300 _ (by kernel_rfl)
def GreatD (D : List api_Disk) : Prop := D.length ≤ 6 ∧ ∀ d, d ∈ D → modest d ∧ uniq d.Synced
theorem GreatD.small {D : List api_Disk} (h : GreatD D) : Small D := ⟨h.1, fun d hd => (h.2 d hd).1.small⟩
def RightC (c : api_Chain) : Prop := (0 ≤ c.Id ∧ c.Id ≤ 199) ∧ (0 ≤ c.Ver ∧ c.Ver ≤ 1099511627776) ∧ c.Servers.length ≤ 5 ∧ (∀ s, s ∈ c.Servers → 0 ≤ s) ∧ c.Servers.Nodup
theorem RightC.ok {c : api_Chain} (h : RightC c) : ChainOk c := ⟨by have := h.2.2.1; omega, h.2.2.2.1⟩
def RightL (l : List api_Chain) : Prop := ∀ n c, l[n]? = some c → RightC c ∧ ∀ m a, n = m + 1 → l[m]? = some a → a.Id < c.Id
theorem RightL.mem {l : List api_Chain} (h : RightL l) {c : api_Chain} (hc : c ∈ l) : RightC c := by
 obtain ⟨n, hn, rfl⟩ := List.mem_iff_getElem.1 hc
 exact (h n _ (List.getElem?_eq_getElem hn)).1
theorem RightL.lt {l : List api_Chain} (h : RightL l) : ∀ (k n : Nat) (a c : api_Chain), l[n]? = some a → l[n + 1 + k]? = some c → a.Id < c.Id
 | 0, n, a, c, ha, hc => (h (n + 1) c hc).2 n a rfl ha
 | k + 1, n, a, c, ha, hc => by
  have hlt : n + 1 + k < l.length := by have := (List.getElem?_eq_some_iff.1 hc).1; omega
  have h1 := h.lt k n a _ ha (List.getElem?_eq_getElem hlt)
  have h2 := (h (n + 1 + (k + 1)) c hc).2 (n + 1 + k) _ rfl (List.getElem?_eq_getElem hlt)
  omega
theorem RightL.inj {l : List api_Chain} (h : RightL l) {i j : Nat} {a b : api_Chain} (ha : l[i]? = some a) (hb : l[j]? = some b) (e : a.Id = b.Id) : i = j := by
 rcases Nat.lt_trichotomy i j with hlt | rfl | hlt
 ·have := h.lt (j - i - 1) i a b ha (by rw [show i + 1 + (j - i - 1) = j by omega]; exact hb); omega
 ·rfl
 ·have := h.lt (i - j - 1) j b a hb (by rw [show j + 1 + (i - j - 1) = i by omega]; exact ha); omega
theorem RightL.uniqId {l : List api_Chain} (h : RightL l) {a b : api_Chain} (ha : a ∈ l) (hb : b ∈ l) (e : a.Id = b.Id) : a = b := by
 obtain ⟨i, hi⟩ := memR ha
 obtain ⟨j, hj⟩ := memR hb
 have := h.inj hi hj e
 subst this
 rw [hi] at hj; exact Option.some.inj hj
end Go.Proofs
