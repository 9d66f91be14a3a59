/- Scrubbing, plain: the order of what is planned. No condition. -/
import Derived.Test.YtpohijpdclienabGreatXScrubRotP270p
namespace Go.Proofs
set_option linter.all false
open Go Go.Cat
set_option linter.all false
theorem mem_jobs {D : List api_Disk} {c : api_Chain} {j : api_Job} : j ∈ jobsN D c ↔ ∃ s, s ∈ c.Servers ∧ standsN D c s ≠ 0 ∧ standsN D c s ≠ 1 ∧ j = jobOf D c (findN D c s) := by
 unfold jobsN
 rw [List.mem_map]
 constructor
 ·rintro ⟨f, hf, rfl⟩
  obtain ⟨hf, hw⟩ := List.mem_filter.1 hf
  obtain ⟨s, h1, h2, rfl⟩ := mem_look.1 (sLook_mem.1 hf)
  exact ⟨s, h1, h2, by simpa [findN] using hw, rfl⟩
 ·rintro ⟨s, h1, h2, h3, rfl⟩
  exact ⟨_, List.mem_filter.2 ⟨sLook_mem.2 (mem_look.2 ⟨s, h1, h2, rfl⟩), by simpa [findN] using h3⟩, rfl⟩
theorem mem_plan {D : List api_Disk} {l : List api_Chain} {j : api_Job} : j ∈ planJ D l ↔ ∃ c, c ∈ l ∧ intactN D c ≠ [] ∧ j ∈ jobsN D c := by
 unfold planJ
 rw [List.mem_flatMap]
 constructor
 ·rintro ⟨c, hc, h⟩
  by_cases h0 : intactN D c = []
  ·rw [if_pos h0] at h; cases h
  ·rw [if_neg h0] at h; exact ⟨c, hc, h0, h⟩
 ·rintro ⟨c, hc, h0, h⟩
  exact ⟨c, hc, by rw [if_neg h0]; exact h⟩
structure JobOk (D : List api_Disk) (c : api_Chain) (j : api_Job) : Prop where
 id : j.Id = c.Id
 ver : j.Ver = c.Ver
 to : j.To ∈ c.Servers
 from_ : j.From ∈ intactN D c
 not : j.To ∉ intactN D c
 have_ : j.Have = ((intactN D c).length : Int)
 left1 : 1 ≤ j.Left
 left2 : j.Left ≤ 65
theorem job_ok {D : List api_Disk} (hD : Small D) {c : api_Chain} (hc : ChainOk c) (hne : intactN D c ≠ []) {j : api_Job} (hj : j ∈ jobsN D c) : JobOk D c j := by
 obtain ⟨s, h1, h2, h3, rfl⟩ := mem_jobs.1 hj
 obtain ⟨hn1, hn2⟩ := p_next hc (intact_len hc) hne s
 have hi := mem_intact.1 hn2
 obtain ⟨d, hd, hd1, hd2, hd3⟩ := stands_intact.1 hi.2
 have hds := hD.2 d (List.mem_of_getElem? hd)
 have hgd : D.getD (fromN D c s).toNat d0 = d := by unfold fromN; rw [List.getD_eq_getElem?_getD, hd]; rfl
 have hm := ((getN_spec hds c.Id).2.2.1 hd2).1.2.2.1
 refine ⟨rfl, rfl, h1, hn2, fun h => h2 (mem_intact.1 h).2, rfl, ?_, ?_⟩
 ·show 1 ≤ ((getN (D.getD (fromN D c s).toNat d0) c.Id).1.Data.length : Int) + 1; omega
 ·show ((getN (D.getD (fromN D c s).toNat d0) c.Id).1.Data.length : Int) + 1 ≤ 65
  rw [hgd]; omega
end Go.Proofs
