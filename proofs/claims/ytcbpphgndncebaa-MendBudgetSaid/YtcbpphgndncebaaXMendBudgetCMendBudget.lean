/- The row of MendBudget out of its plain program. No condition. -/
import Derived.Test.YtcbpphgndncebaaXMendBudgetIn
import Derived.Test.YtcbpphgndncebaaXMendBudgetWk0
import Derived.Test.YtcbpphgndncebaaRows
namespace Go.Proofs.Ytcbpphgndncebaa
set_option linter.all false
open Go Go.Cat Go.ChangeShapes Go.WideShapes Go.RowKit Go.Proofs
set_option maxRecDepth 100000

theorem mendBudget_pure (H : ∀ (p_x : List api_Job) (p_budget : Int), okL_c_api_Job p_x → ok_i64 p_budget → law28_MendBudget p_x p_budget = some true) : ∀ xs, DatL Try.prog [22, 3] xs → Pure Try.prog 5 xs (.v (.bool true)) := by
  intro xs h
  obtain ⟨v0, ys0, e0, d0, h0⟩ := h.cons_inv
  subst e0
  have q0 := d0.one (by kernel_rfl)
  obtain ⟨x0, k0, o0⟩ := datL_c_api_Job (by kernel_rfl) q0
  have f0 := (List.cons.inj k0).1
  subst f0
  obtain ⟨v1, ys1, e1, d1, h1⟩ := h0.cons_inv
  subst e1
  have q1 := d1.one (by kernel_rfl)
  obtain ⟨x1, k1, o1⟩ := dat_i64 (by kernel_rfl) q1
  have f1 := (List.cons.inj k1).1
  subst f1
  have e := h1.nil_inv
  subst e
  exact w_law28_MendBudget (H x0 x1 o0 o1)

theorem mendBudget_lifted (h : ∀ xs, DatL Try.prog [22, 3] xs → Pure Try.prog 5 xs (.v (.bool true))) (os : Os) (started : os.Started) (H : Type) (enc : TypeId × Value → H) :
    ReturnsInHanded {} Try.checked os 5 .any (Rows.mendBudgetSpec.pre6 enc Try.prog Try.f5 [] false) (Rows.mendBudgetSpec.post enc Try.prog Try.f5 false true false false) :=
  law_handed (C := Try.checked) (s := Rows.mendBudgetSpec) (tb := 4) (by kernel_rfl) (by kernel_rfl) started (by kernel_rfl) Try.func5
      (ChangeSpec.witness6 (enc := enc) (C := Try.checked) false ⟨#[], #[.slice none 0 0, .int .i64 0], []⟩ 8 (by kernel_rfl) (by kernel_rfl) (by kernel_rfl) (by kernel_rfl))
      rfl (fun ds hds => match ds, hds with | [_, _], _ => rfl) rfl (by kernel_rfl) (by kernel_rfl) h

theorem mendBudget_row (h : ∀ xs, DatL Try.prog [22, 3] xs → Pure Try.prog 5 xs (.v (.bool true))) : Rows.MendBudgetSaid :=
  OpenClaim.holds_of_wide 5 Try.f5 rfl rfl rfl rfl rfl rfl rfl ⟨rfl, rfl, rfl, rfl, rfl⟩ rfl rfl rfl rfl rfl (by kernel_rfl) Try.func5 (by kernel_rfl)
    (of_decide_eq_true (by kernel_rfl)) (by unfold Func.isWrapper; first | (rw [if_pos (by decide +kernel)]; kernel_rfl) | (rw [if_neg (by decide +kernel)]; exact ⟨rfl, rfl⟩))
    (fun os started H enc _ => mendBudget_lifted h os started H enc)

end Go.Proofs.Ytcbpphgndncebaa
