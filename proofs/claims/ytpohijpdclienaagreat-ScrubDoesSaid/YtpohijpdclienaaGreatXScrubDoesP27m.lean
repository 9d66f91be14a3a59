/- Scrubbing, plain: one server's copy; how servers stand; which are intact. No condition. -/
import Derived.Test.YtpohijpdclienaaGreatXScrubDoesP27l
import Derived.Test.YtpohijpdclienaaGreatXScrubDoesCatP1
namespace Go.Proofs
set_option linter.all false
open Go Go.Cat
set_option linter.all false
noncomputable def getN (d : api_Disk) (id : Int) : api_Copy × Int := (chunk_Get d id).getD (⟨0, 0, [], []⟩, 0)
section
variable {d d' : api_Disk}
theorem p_GetN (hd : smallD d) (id : Int) : chunk_Get d id = some (getN d id) := by
 obtain ⟨r, h, _⟩ := t_GetS d id hd
 unfold getN; rw [h]; rfl
theorem getN_spec (hd : smallD d) (id : Int) : (if (thereN d id).2 = 0 then (getN d id).2 = 0 ∨ (getN d id).2 = 251 else (getN d id).2 = (thereN d id).2) ∧ ((getN d id).1.Data.length ≤ 1000 ∧ (getN d id).1.Sums.length ≤ 1000) ∧
  ((getN d id).2 = 0 → mayP (getN d id).1 ∧ (getN d id).1.Id = id ∧ pageN (getN d id).1 = (thereN d id).1) ∧ ((getN d id).2 ≠ 0 → (getN d id).1 = ⟨0, 0, [], []⟩) := by
 obtain ⟨r, h, hr⟩ := t_GetS d id hd
 have : getN d id = r := by unfold getN; rw [h]; rfl
 rw [this]; exact hr
theorem r_GetN (hd : smallD d) (hu : uniq d.Synced) (id : Int) : ref25_Get d id = some (getN d id) := by
 obtain ⟨g, h1, h2, _⟩ := Get_same d id hd hu
 rw [h2]; unfold getN; rw [h1]; rfl
end
noncomputable def standD (d : api_Disk) (c : api_Chain) : Int :=
 if d.Down = true then 1 else if (getN d c.Id).2 = 41 then 2 else if (getN d c.Id).2 ≠ 0 then 3 else if (getN d c.Id).1.Ver < c.Ver then 4 else if (getN d c.Id).1.Ver > c.Ver then 5 else 0
noncomputable def standsN (D : List api_Disk) (c : api_Chain) (s : Int) : Int := match D[s.toNat]? with
 | none => 1
 | some d => standD d c
def Small (D : List api_Disk) : Prop := D.length ≤ 6 ∧ ∀ d, d ∈ D → smallD d
noncomputable def intactN (D : List api_Disk) (c : api_Chain) : List Int := c.Servers.filter fun s => standsN D c s == 0
noncomputable def findN (D : List api_Disk) (c : api_Chain) (s : Int) : api_Find := ⟨c.Id, s, standsN D c s⟩
noncomputable def lookN (D : List api_Disk) (c : api_Chain) : List api_Find := (c.Servers.filter fun s => standsN D c s != 0).map (findN D c)
structure ChainOk (c : api_Chain) : Prop where
 n : c.Servers.length ≤ 12
 p : ∀ s, s ∈ c.Servers → 0 ≤ s
end Go.Proofs
