/- The row of LeaseApart out of its plain program. No condition. -/
import Derived.Test.YthhoomhekolbnaaXLeaseApartIn
import Derived.Test.YthhoomhekolbnaaXLeaseApartWk0
import Derived.Test.YthhoomhekolbnaaXLeaseApartWk1
import Derived.Test.YthhoomhekolbnaaRows
namespace Go.Proofs.Ythhoomhekolbnaa
set_option linter.all false
open Go Go.Cat Go.ChangeShapes Go.WideShapes Go.RowKit Go.Proofs
set_option maxRecDepth 100000
local instance : Mono := ⟨False⟩
local instance : Off := ⟨id⟩

theorem leaseApart_pure (H : ∀ (p_l : List law22_Step), okL_c_law22_Step p_l → law22_LeaseApart p_l = some true) : ∀ xs, DatL Try.prog [39] xs → Pure Try.prog 4 xs (.v (.bool true)) := by
  intro xs h
  obtain ⟨v0, ys0, e0, d0, h0⟩ := h.cons_inv
  subst e0
  have q0 := d0.one (by kernel_rfl)
  obtain ⟨x0, k0, o0⟩ := datL_c_law22_Step (by kernel_rfl) q0
  have f0 := (List.cons.inj k0).1
  subst f0
  have e := h0.nil_inv
  subst e
  exact w_law22_LeaseApart (H x0 o0)

theorem leaseApart_lifted (h : ∀ xs, DatL Try.prog [39] xs → Pure Try.prog 4 xs (.v (.bool true))) (os : Os) (started : os.Started) (H : Type) (enc : TypeId × Value → H) :
    ReturnsInHanded {} Try.checked os 4 .any (Rows.leaseApartSpec.pre6 enc Try.prog Try.f4 [] false) (Rows.leaseApartSpec.post enc Try.prog Try.f4 false true false false) :=
  law_handed (C := Try.checked) (s := Rows.leaseApartSpec) (tb := 4) (by kernel_rfl) (by kernel_rfl) started (by kernel_rfl) Try.func4
      (ChangeSpec.witness6 (enc := enc) (C := Try.checked) false ⟨#[], #[.slice none 0 0], []⟩ 8 (by kernel_rfl) (by kernel_rfl) (by kernel_rfl) (by kernel_rfl))
      rfl (fun ds hds => match ds, hds with | [_], _ => rfl) rfl (by kernel_rfl) (by kernel_rfl) h

theorem leaseApart_row (h : ∀ xs, DatL Try.prog [39] xs → Pure Try.prog 4 xs (.v (.bool true))) : Rows.LeaseApartSaid :=
  OpenClaim.holds_of_wide 4 Try.f4 rfl rfl rfl rfl rfl rfl rfl ⟨rfl, rfl, rfl, rfl, rfl⟩ rfl rfl rfl rfl rfl (by kernel_rfl) Try.func4 (by kernel_rfl)
    (of_decide_eq_true (by kernel_rfl)) (by unfold Func.isWrapper; first | (rw [if_pos (by decide +kernel)]; kernel_rfl) | (rw [if_neg (by decide +kernel)]; exact ⟨rfl, rfl⟩))
    (fun os started H enc _ => leaseApart_lifted h os started H enc)

end Go.Proofs.Ythhoomhekolbnaa
