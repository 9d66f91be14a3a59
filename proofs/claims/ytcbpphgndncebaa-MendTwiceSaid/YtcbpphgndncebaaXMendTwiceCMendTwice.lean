/- The row of MendTwice out of its plain program. No condition. -/
import Derived.Test.YtcbpphgndncebaaXMendTwiceIn
import Derived.Test.YtcbpphgndncebaaXMendTwiceWk0
import Derived.Test.YtcbpphgndncebaaRows
namespace Go.Proofs.Ytcbpphgndncebaa
set_option linter.all false
open Go Go.Cat Go.ChangeShapes Go.WideShapes Go.RowKit Go.Proofs
set_option maxRecDepth 100000

theorem mendTwice_pure (H : ∀ (p_x : List api_Job) (p_a : Int) (p_b : Int), okL_c_api_Job p_x → ok_u16 p_a → ok_u16 p_b → law28_MendTwice p_x p_a p_b = some true) : ∀ xs, DatL Try.prog [22, 37, 37] xs → Pure Try.prog 7 xs (.v (.bool true)) := by
  intro xs h
  obtain ⟨v0, ys0, e0, d0, h0⟩ := h.cons_inv
  subst e0
  have q0 := d0.one (by kernel_rfl)
  obtain ⟨x0, k0, o0⟩ := datL_c_api_Job (by kernel_rfl) q0
  have f0 := (List.cons.inj k0).1
  subst f0
  obtain ⟨v1, ys1, e1, d1, h1⟩ := h0.cons_inv
  subst e1
  have q1 := d1.one (by kernel_rfl)
  obtain ⟨x1, k1, o1⟩ := dat_u16 (by kernel_rfl) q1
  have f1 := (List.cons.inj k1).1
  subst f1
  obtain ⟨v2, ys2, e2, d2, h2⟩ := h1.cons_inv
  subst e2
  have q2 := d2.one (by kernel_rfl)
  obtain ⟨x2, k2, o2⟩ := dat_u16 (by kernel_rfl) q2
  have f2 := (List.cons.inj k2).1
  subst f2
  have e := h2.nil_inv
  subst e
  exact w_law28_MendTwice (H x0 x1 x2 o0 o1 o2)

theorem mendTwice_lifted (h : ∀ xs, DatL Try.prog [22, 37, 37] xs → Pure Try.prog 7 xs (.v (.bool true))) (os : Os) (started : os.Started) (H : Type) (enc : TypeId × Value → H) :
    ReturnsInHanded {} Try.checked os 7 .any (Rows.mendTwiceSpec.pre6 enc Try.prog Try.f7 [] false) (Rows.mendTwiceSpec.post enc Try.prog Try.f7 false true false false) :=
  law_handed (C := Try.checked) (s := Rows.mendTwiceSpec) (tb := 4) (by kernel_rfl) (by kernel_rfl) started (by kernel_rfl) Try.func7
      (ChangeSpec.witness6 (enc := enc) (C := Try.checked) false ⟨#[], #[.slice none 0 0, .int .u16 0, .int .u16 0], []⟩ 8 (by kernel_rfl) (by kernel_rfl) (by kernel_rfl) (by kernel_rfl))
      rfl (fun ds hds => match ds, hds with | [_, _, _], _ => rfl) rfl (by kernel_rfl) (by kernel_rfl) h

theorem mendTwice_row (h : ∀ xs, DatL Try.prog [22, 37, 37] xs → Pure Try.prog 7 xs (.v (.bool true))) : Rows.MendTwiceSaid :=
  OpenClaim.holds_of_wide 7 Try.f7 rfl rfl rfl rfl rfl rfl rfl ⟨rfl, rfl, rfl, rfl, rfl⟩ rfl rfl rfl rfl rfl (by kernel_rfl) Try.func7 (by kernel_rfl)
    (of_decide_eq_true (by kernel_rfl)) (by unfold Func.isWrapper; first | (rw [if_pos (by decide +kernel)]; kernel_rfl) | (rw [if_neg (by decide +kernel)]; exact ⟨rfl, rfl⟩))
    (fun os started H enc _ => mendTwice_lifted h os started H enc)

end Go.Proofs.Ytcbpphgndncebaa
