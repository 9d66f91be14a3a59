/- The row of LeaseShares out of its plain program. No condition. -/
import Derived.Test.YthhoomhekolbnaaXLeaseSharesIn
import Derived.Test.YthhoomhekolbnaaXLeaseSharesWk0
import Derived.Test.YthhoomhekolbnaaXLeaseSharesWk1
import Derived.Test.YthhoomhekolbnaaRows
namespace Go.Proofs.Ythhoomhekolbnaa
set_option linter.all false
open Go Go.Cat Go.ChangeShapes Go.WideShapes Go.RowKit Go.Proofs
set_option maxRecDepth 100000
local instance : Mono := ⟨False⟩
local instance : Off := ⟨id⟩

theorem leaseShares_pure (H : ∀ (p_l : List api_Lease) (p_now : Int), okL_c_api_Lease p_l → ok_i64 p_now → law22_LeaseShares p_l p_now = some true) : ∀ xs, DatL Try.prog [22, 3] xs → Pure Try.prog 6 xs (.v (.bool true)) := by
  intro xs h
  obtain ⟨v0, ys0, e0, d0, h0⟩ := h.cons_inv
  subst e0
  have q0 := d0.one (by kernel_rfl)
  obtain ⟨x0, k0, o0⟩ := datL_c_api_Lease (by kernel_rfl) q0
  have f0 := (List.cons.inj k0).1
  subst f0
  obtain ⟨v1, ys1, e1, d1, h1⟩ := h0.cons_inv
  subst e1
  have q1 := d1.one (by kernel_rfl)
  obtain ⟨x1, k1, o1⟩ := dat_i64 (by kernel_rfl) q1
  have f1 := (List.cons.inj k1).1
  subst f1
  have e := h1.nil_inv
  subst e
  exact w_law22_LeaseShares (H x0 x1 o0 o1)

theorem leaseShares_lifted (h : ∀ xs, DatL Try.prog [22, 3] xs → Pure Try.prog 6 xs (.v (.bool true))) (os : Os) (started : os.Started) (H : Type) (enc : TypeId × Value → H) :
    ReturnsInHanded {} Try.checked os 6 .any (Rows.leaseSharesSpec.pre6 enc Try.prog Try.f6 [] false) (Rows.leaseSharesSpec.post enc Try.prog Try.f6 false true false false) :=
  law_handed (C := Try.checked) (s := Rows.leaseSharesSpec) (tb := 4) (by kernel_rfl) (by kernel_rfl) started (by kernel_rfl) Try.func6
      (ChangeSpec.witness6 (enc := enc) (C := Try.checked) false ⟨#[], #[.slice none 0 0, .int .i64 0], []⟩ 8 (by kernel_rfl) (by kernel_rfl) (by kernel_rfl) (by kernel_rfl))
      rfl (fun ds hds => match ds, hds with | [_, _], _ => rfl) rfl (by kernel_rfl) (by kernel_rfl) h

theorem leaseShares_row (h : ∀ xs, DatL Try.prog [22, 3] xs → Pure Try.prog 6 xs (.v (.bool true))) : Rows.LeaseSharesSaid :=
  OpenClaim.holds_of_wide 6 Try.f6 rfl rfl rfl rfl rfl rfl rfl ⟨rfl, rfl, rfl, rfl, rfl⟩ rfl rfl rfl rfl rfl (by kernel_rfl) Try.func6 (by kernel_rfl)
    (of_decide_eq_true (by kernel_rfl)) (by unfold Func.isWrapper; first | (rw [if_pos (by decide +kernel)]; kernel_rfl) | (rw [if_neg (by decide +kernel)]; exact ⟨rfl, rfl⟩))
    (fun os started H enc _ => leaseShares_lifted h os started H enc)

end Go.Proofs.Ythhoomhekolbnaa
