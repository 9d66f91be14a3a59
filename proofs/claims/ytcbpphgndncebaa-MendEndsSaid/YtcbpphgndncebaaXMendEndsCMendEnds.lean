/- The row of MendEnds out of its plain program. No condition. -/
import Derived.Test.YtcbpphgndncebaaXMendEndsIn
import Derived.Test.YtcbpphgndncebaaXMendEndsWk0
import Derived.Test.YtcbpphgndncebaaRows
namespace Go.Proofs.Ytcbpphgndncebaa
set_option linter.all false
open Go Go.Cat Go.ChangeShapes Go.WideShapes Go.RowKit Go.Proofs
set_option maxRecDepth 100000

theorem mendEnds_pure (H : ∀ (p_x : List api_Job) (p_by : UInt8), okL_c_api_Job p_x → ok_u8 p_by → law28_MendEnds p_x p_by = some true) : ∀ xs, DatL Try.prog [22, 5] xs → Pure Try.prog 6 xs (.v (.bool true)) := by
  intro xs h
  obtain ⟨v0, ys0, e0, d0, h0⟩ := h.cons_inv
  subst e0
  have q0 := d0.one (by kernel_rfl)
  obtain ⟨x0, k0, o0⟩ := datL_c_api_Job (by kernel_rfl) q0
  have f0 := (List.cons.inj k0).1
  subst f0
  obtain ⟨v1, ys1, e1, d1, h1⟩ := h0.cons_inv
  subst e1
  have q1 := d1.one (by kernel_rfl)
  obtain ⟨x1, k1, o1⟩ := dat_u8 (by kernel_rfl) q1
  have f1 := (List.cons.inj k1).1
  subst f1
  have e := h1.nil_inv
  subst e
  exact w_law28_MendEnds (H x0 x1 o0 o1)

theorem mendEnds_lifted (h : ∀ xs, DatL Try.prog [22, 5] xs → Pure Try.prog 6 xs (.v (.bool true))) (os : Os) (started : os.Started) (H : Type) (enc : TypeId × Value → H) :
    ReturnsInHanded {} Try.checked os 6 .any (Rows.mendEndsSpec.pre6 enc Try.prog Try.f6 [] false) (Rows.mendEndsSpec.post enc Try.prog Try.f6 false true false false) :=
  law_handed (C := Try.checked) (s := Rows.mendEndsSpec) (tb := 4) (by kernel_rfl) (by kernel_rfl) started (by kernel_rfl) Try.func6
      (ChangeSpec.witness6 (enc := enc) (C := Try.checked) false ⟨#[], #[.slice none 0 0, .int .u8 0], []⟩ 8 (by kernel_rfl) (by kernel_rfl) (by kernel_rfl) (by kernel_rfl))
      rfl (fun ds hds => match ds, hds with | [_, _], _ => rfl) rfl (by kernel_rfl) (by kernel_rfl) h

theorem mendEnds_row (h : ∀ xs, DatL Try.prog [22, 5] xs → Pure Try.prog 6 xs (.v (.bool true))) : Rows.MendEndsSaid :=
  OpenClaim.holds_of_wide 6 Try.f6 rfl rfl rfl rfl rfl rfl rfl ⟨rfl, rfl, rfl, rfl, rfl⟩ rfl rfl rfl rfl rfl (by kernel_rfl) Try.func6 (by kernel_rfl)
    (of_decide_eq_true (by kernel_rfl)) (by unfold Func.isWrapper; first | (rw [if_pos (by decide +kernel)]; kernel_rfl) | (rw [if_neg (by decide +kernel)]; exact ⟨rfl, rfl⟩))
    (fun os started H enc _ => mendEnds_lifted h os started H enc)

end Go.Proofs.Ytcbpphgndncebaa
