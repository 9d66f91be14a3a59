/- The row of ScrubTells out of its plain program. No condition. -/
import Derived.Test.YtpohijpdclienaaGreatXScrubTellsIn
import Derived.Test.YtpohijpdclienaaGreatXScrubTellsWk0
import Derived.Test.YtpohijpdclienaaGreatXScrubTellsWk1
import Derived.Test.YtpohijpdclienaaGreatXScrubTellsWk2
import Derived.Test.YtpohijpdclienaaGreatXScrubTellsWk3
import Derived.Test.YtpohijpdclienaaGreatXScrubTellsWk4
import Derived.Test.YtpohijpdclienaaGreatRows
namespace Go.Proofs.YtpohijpdclienaaGreat
set_option linter.all false
open Go Go.Cat Go.ChangeShapes Go.WideShapes Go.RowKit Go.Proofs
set_option maxRecDepth 100000
local instance : Mono := ⟨False⟩
local instance : Off := ⟨id⟩
theorem scrubTells_pure (H : ∀ (p_disks : List api_Disk) (p_l : List api_Chain), okL_c_api_Disk p_disks → okL_c_api_Chain p_l → law27N7 p_disks p_l = some true) : ∀ xs, DatL Tryz.prog [22, 23] xs → Pure Tryz.prog 3 xs (.v (.bool true)) := by
 intro xs h
 obtain ⟨v0, ys0, e0, d0, h0⟩ := h.cons_inv
 subst e0
 have q0 := d0.one (by kernel_rfl)
 obtain ⟨x0, k0, o0⟩ := datL_c_api_Disk (by kernel_rfl) q0
 have f0 := (List.cons.inj k0).1
 subst f0
 obtain ⟨v1, ys1, e1, d1, h1⟩ := h0.cons_inv
 subst e1
 have q1 := d1.one (by kernel_rfl)
 obtain ⟨x1, k1, o1⟩ := datL_c_api_Chain (by kernel_rfl) q1
 have f1 := (List.cons.inj k1).1
 subst f1
 have e := h1.nil_inv
 subst e
 exact w_law27N2 (H x0 x1 o0 o1)
theorem scrubTells_lifted (h : ∀ xs, DatL Tryz.prog [22, 23] xs → Pure Tryz.prog 3 xs (.v (.bool true))) (os : Os) (started : os.Started) (H : Type) (enc : TypeId × Value → H) :
  ReturnsInHanded {} Tryz.checked os 3 .any (Rows.scrubTellsSpec.pre6 enc Tryz.prog Tryz.f3 [] false) (Rows.scrubTellsSpec.post enc Tryz.prog Tryz.f3 false true false false) :=
 law_handed (C := Tryz.checked) (s := Rows.scrubTellsSpec) (tb := 4) (by kernel_rfl) (by kernel_rfl) started (by kernel_rfl) Tryz.func3
   (ChangeSpec.witness6 (enc := enc) (C := Tryz.checked) false ⟨#[], #[.slice none 0 0, .slice none 0 0], []⟩ 8 (by kernel_rfl) (by kernel_rfl) (by kernel_rfl) (by kernel_rfl))
   rfl (fun ds hds => match ds, hds with | [_, _], _ => rfl) rfl (by kernel_rfl) (by kernel_rfl) h
theorem scrubTells_row (h : ∀ xs, DatL Tryz.prog [22, 23] xs → Pure Tryz.prog 3 xs (.v (.bool true))) : Rows.ScrubTellsSaid :=
 OpenClaim.holds_of_wide 3 Tryz.f3 rfl rfl rfl rfl rfl rfl rfl ⟨rfl, rfl, rfl, rfl, rfl⟩ rfl rfl rfl rfl rfl (by kernel_rfl) Tryz.func3 (by kernel_rfl)
  (of_decide_eq_true (by kernel_rfl)) (by unfold Func.isWrapper; first | (rw [if_pos (by decide +kernel)]; kernel_rfl) | (rw [if_neg (by decide +kernel)]; exact ⟨rfl, rfl⟩))
  (fun os started H enc _ => scrubTells_lifted h os started H enc)
end Go.Proofs.YtpohijpdclienaaGreat
