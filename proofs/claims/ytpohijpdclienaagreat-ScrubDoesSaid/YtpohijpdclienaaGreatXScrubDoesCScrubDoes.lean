/- The row of ScrubDoes out of its plain program. No condition. -/
import Derived.Test.YtpohijpdclienaaGreatXScrubDoesIn
import Derived.Test.YtpohijpdclienaaGreatXScrubDoesWk0
import Derived.Test.YtpohijpdclienaaGreatXScrubDoesWk1
import Derived.Test.YtpohijpdclienaaGreatXScrubDoesWk2
import Derived.Test.YtpohijpdclienaaGreatXScrubDoesWk3
import Derived.Test.YtpohijpdclienaaGreatXScrubDoesWk4
import Derived.Test.YtpohijpdclienaaGreatRows
namespace Go.Proofs.YtpohijpdclienaaGreat
set_option linter.all false
open Go Go.Cat Go.ChangeShapes Go.WideShapes Go.RowKit Go.Proofs
set_option maxRecDepth 100000
local instance : Mono := ⟨False⟩
local instance : Off := ⟨id⟩
theorem scrubDoes_pure (H : ∀ (p_disks : List api_Disk) (p_j : api_Job) (p_f : api_Find), okL_c_api_Disk p_disks → ok_api_Job p_j → ok_api_Find p_f → law27_ScrubDoes p_disks p_j p_f = some true) : ∀ xs, DatL Tryz.prog [22, 41, 43] xs → Pure Tryz.prog 4 xs (.v (.bool true)) := by
 intro xs h
 obtain ⟨v0, ys0, e0, d0, h0⟩ := h.cons_inv
 subst e0
 have q0 := d0.one (by kernel_rfl)
 obtain ⟨x0, k0, o0⟩ := datL_c_api_Disk (by kernel_rfl) q0
 have f0 := (List.cons.inj k0).1
 subst f0
 obtain ⟨v1, ys1, e1, d1, h1⟩ := h0.cons_inv
 subst e1
 obtain ⟨cs1, f1, q1⟩ := d1.agg (by kernel_rfl)
 obtain ⟨x1, k1, o1⟩ := dat_api_Job (by kernel_rfl) q1
 subst f1 k1
 obtain ⟨v2, ys2, e2, d2, h2⟩ := h1.cons_inv
 subst e2
 obtain ⟨cs2, f2, q2⟩ := d2.agg (by kernel_rfl)
 obtain ⟨x2, k2, o2⟩ := dat_api_Find (by kernel_rfl) q2
 subst f2 k2
 have e := h2.nil_inv
 subst e
 exact w_law27_ScrubDoes (H x0 x1 x2 o0 o1 o2)
theorem scrubDoes_lifted (h : ∀ xs, DatL Tryz.prog [22, 41, 43] xs → Pure Tryz.prog 4 xs (.v (.bool true))) (os : Os) (started : os.Started) (H : Type) (enc : TypeId × Value → H) :
  ReturnsInHanded {} Tryz.checked os 4 .any (Rows.scrubDoesSpec.pre6 enc Tryz.prog Tryz.f4 [] false) (Rows.scrubDoesSpec.post enc Tryz.prog Tryz.f4 false true false false) :=
 law_handed (C := Tryz.checked) (s := Rows.scrubDoesSpec) (tb := 4) (by kernel_rfl) (by kernel_rfl) started (by kernel_rfl) Tryz.func4
   (ChangeSpec.witness6 (enc := enc) (C := Tryz.checked) false ⟨#[], #[.slice none 0 0, .agg #[.int .i64 0, .int .i64 0, .int .i64 0, .int .i64 0, .int .i64 0, .int .i64 0], .agg #[.int .i64 0, .int .i64 0, .int .i64 0]], []⟩ 8 (by kernel_rfl) (by kernel_rfl) (by kernel_rfl) (by kernel_rfl))
   rfl (fun ds hds => match ds, hds with | [_, _, _], _ => rfl) rfl (by kernel_rfl) (by kernel_rfl) h
theorem scrubDoes_row (h : ∀ xs, DatL Tryz.prog [22, 41, 43] xs → Pure Tryz.prog 4 xs (.v (.bool true))) : Rows.ScrubDoesSaid :=
 OpenClaim.holds_of_wide 4 Tryz.f4 rfl rfl rfl rfl rfl rfl rfl ⟨rfl, rfl, rfl, rfl, rfl⟩ rfl rfl rfl rfl rfl (by kernel_rfl) Tryz.func4 (by kernel_rfl)
  (of_decide_eq_true (by kernel_rfl)) (by unfold Func.isWrapper; first | (rw [if_pos (by decide +kernel)]; kernel_rfl) | (rw [if_neg (by decide +kernel)]; exact ⟨rfl, rfl⟩))
  (fun os started H enc _ => scrubDoes_lifted h os started H enc)
end Go.Proofs.YtpohijpdclienaaGreat
