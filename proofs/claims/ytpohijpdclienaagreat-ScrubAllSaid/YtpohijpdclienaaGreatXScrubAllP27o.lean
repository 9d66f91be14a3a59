/- Scrubbing, plain: what is planned. No condition. -/
import Derived.Test.YtpohijpdclienaaGreatXScrubAllP27n
namespace Go.Proofs
set_option linter.all false
open Go Go.Cat
set_option linter.all false
theorem stand_intact {d : api_Disk} {c : api_Chain} : standD d c = 0 ↔ d.Down = false ∧ (getN d c.Id).2 = 0 ∧ (getN d c.Id).1.Ver = c.Ver := by
 unfold standD
 cases d.Down with
 | true => simp
 | false =>
  simp only [Bool.false_eq_true, if_false]
  by_cases h1 : (getN d c.Id).2 = 41
  ·rw [if_pos h1]; exact ⟨fun h => by omega, fun h => by omega⟩
  rw [if_neg h1]
  by_cases h2 : (getN d c.Id).2 ≠ 0
  ·rw [if_pos h2]; exact ⟨fun h => by omega, fun h => (h2 h.2.1).elim⟩
  rw [if_neg h2]
  by_cases h3 : (getN d c.Id).1.Ver < c.Ver
  ·rw [if_pos h3]; exact ⟨fun h => by omega, fun h => by omega⟩
  rw [if_neg h3]
  by_cases h4 : (getN d c.Id).1.Ver > c.Ver
  ·rw [if_pos h4]; exact ⟨fun h => by omega, fun h => by omega⟩
  rw [if_neg h4]
  exact ⟨fun _ => ⟨trivial, by omega, by omega⟩, fun _ => rfl⟩
theorem stands_intact {D : List api_Disk} {c : api_Chain} {s : Int} : standsN D c s = 0 ↔ ∃ d, D[s.toNat]? = some d ∧ d.Down = false ∧ (getN d c.Id).2 = 0 ∧ (getN d c.Id).1.Ver = c.Ver := by
 unfold standsN
 cases h : D[s.toNat]? with
 | none => exact ⟨fun h => (by cases h), fun ⟨d, h, _⟩ => (by cases h)⟩
 | some d => exact stand_intact.trans ⟨fun h => ⟨d, rfl, h⟩, fun ⟨d', h, h'⟩ => (by cases h; exact h')⟩
theorem stand_away {d : api_Disk} {c : api_Chain} : standD d c = 1 ↔ d.Down = true := by
 unfold standD
 cases d.Down with
 | true => simp
 | false => simp only [Bool.false_eq_true, if_false, iff_false]; (repeat' split) <;> omega
theorem stands_away {D : List api_Disk} {c : api_Chain} {s : Int} : standsN D c s = 1 ↔ D[s.toNat]? = none ∨ ∃ d, D[s.toNat]? = some d ∧ d.Down = true := by
 unfold standsN
 cases h : D[s.toNat]? with
 | none => simp
 | some d => simp [stand_away]
theorem mem_intact {D : List api_Disk} {c : api_Chain} {s : Int} : s ∈ intactN D c ↔ s ∈ c.Servers ∧ standsN D c s = 0 := by
 unfold intactN; rw [List.mem_filter]; simp
instance : Inhabited api_Find := ⟨⟨0, 0, 0⟩⟩
noncomputable def sLook (D : List api_Disk) (c : api_Chain) : List api_Find := sortBy (fun a b => cmpI a.Server b.Server) (lookN D c)
noncomputable def nextN (c : api_Chain) (own : List Int) (s : Int) : Int := (scrub_next c own s).getD 0
def d0 : api_Disk := ⟨[], [], false⟩
noncomputable def fromN (D : List api_Disk) (c : api_Chain) (s : Int) : Int := nextN c (intactN D c) s
noncomputable def jobOf (D : List api_Disk) (c : api_Chain) (f : api_Find) : api_Job :=
 ⟨c.Id, c.Ver, fromN D c f.Server, f.Server, ((intactN D c).length : Int), (((getN (D.getD (fromN D c f.Server).toNat d0) c.Id).1.Data.length : Int) + 1)⟩
noncomputable def jobsN (D : List api_Disk) (c : api_Chain) : List api_Job := ((sLook D c).filter fun f => f.What != 1).map (jobOf D c)
open Classical in
noncomputable def planJ (D : List api_Disk) (l : List api_Chain) : List api_Job := l.flatMap fun c => if intactN D c = [] then [] else jobsN D c
noncomputable def planL (D : List api_Disk) (l : List api_Chain) : List Int := (l.filter fun c => (intactN D c).isEmpty).map (·.Id)
end Go.Proofs
