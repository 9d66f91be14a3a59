/- Scrubbing, plain: what is planned. No condition. -/
import Derived.Test.YtpohijpdclienaaGreatXScrubCleanP27n
namespace Go.Proofs
set_option linter.all false
open Go Go.Cat
set_option linter.all false
instance : Inhabited api_Find := ⟨⟨0, 0, 0⟩⟩
noncomputable def sLook (D : List api_Disk) (c : api_Chain) : List api_Find := sortBy (fun a b => cmpI a.Server b.Server) (lookN D c)
theorem look_len {D : List api_Disk} {c : api_Chain} (hc : ChainOk c) : (lookN D c).length ≤ 12 := by
 unfold lookN; rw [List.length_map]; exact Nat.le_trans (List.length_filter_le _ _) hc.n
noncomputable def nextN (c : api_Chain) (own : List Int) (s : Int) : Int := (scrub_next c own s).getD 0
def d0 : api_Disk := ⟨[], [], false⟩
noncomputable def fromN (D : List api_Disk) (c : api_Chain) (s : Int) : Int := nextN c (intactN D c) s
noncomputable def jobOf (D : List api_Disk) (c : api_Chain) (f : api_Find) : api_Job :=
 ⟨c.Id, c.Ver, fromN D c f.Server, f.Server, ((intactN D c).length : Int), (((getN (D.getD (fromN D c f.Server).toNat d0) c.Id).1.Data.length : Int) + 1)⟩
noncomputable def jobsN (D : List api_Disk) (c : api_Chain) : List api_Job := ((sLook D c).filter fun f => f.What != 1).map (jobOf D c)
open Classical in
noncomputable def planJ (D : List api_Disk) (l : List api_Chain) : List api_Job := l.flatMap fun c => if intactN D c = [] then [] else jobsN D c
noncomputable def planL (D : List api_Disk) (l : List api_Chain) : List Int := (l.filter fun c => (intactN D c).isEmpty).map (·.Id)
end Go.Proofs
