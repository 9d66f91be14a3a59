/- The row of MendRenews out of its plain program. No condition. -/
import Derived.Test.YtcbpphgndncebaaXMendRenewsIn
import Derived.Test.YtcbpphgndncebaaXMendRenewsWk0
import Derived.Test.YtcbpphgndncebaaRows
namespace Go.Proofs.Ytcbpphgndncebaa
set_option linter.all false
open Go Go.Cat Go.ChangeShapes Go.WideShapes Go.RowKit Go.Proofs
set_option maxRecDepth 100000

theorem mendRenews_pure (H : ∀ (p_x : List api_Job) (p_y : List api_Job) (p_budget : Int), okL_c_api_Job p_x → okL_c_api_Job p_y → ok_u16 p_budget → law28_MendRenews p_x p_y p_budget = some true) : ∀ xs, DatL Try.prog [22, 22, 37] xs → Pure Try.prog 8 xs (.v (.bool true)) := by
  intro xs h
  obtain ⟨v0, ys0, e0, d0, h0⟩ := h.cons_inv
  subst e0
  have q0 := d0.one (by kernel_rfl)
  obtain ⟨x0, k0, o0⟩ := datL_c_api_Job (by kernel_rfl) q0
  have f0 := (List.cons.inj k0).1
  subst f0
  obtain ⟨v1, ys1, e1, d1, h1⟩ := h0.cons_inv
  subst e1
  have q1 := d1.one (by kernel_rfl)
  obtain ⟨x1, k1, o1⟩ := datL_c_api_Job (by kernel_rfl) q1
  have f1 := (List.cons.inj k1).1
  subst f1
  obtain ⟨v2, ys2, e2, d2, h2⟩ := h1.cons_inv
  subst e2
  have q2 := d2.one (by kernel_rfl)
  obtain ⟨x2, k2, o2⟩ := dat_u16 (by kernel_rfl) q2
  have f2 := (List.cons.inj k2).1
  subst f2
  have e := h2.nil_inv
  subst e
  exact w_law28_MendRenews (H x0 x1 x2 o0 o1 o2)

theorem mendRenews_lifted (h : ∀ xs, DatL Try.prog [22, 22, 37] xs → Pure Try.prog 8 xs (.v (.bool true))) (os : Os) (started : os.Started) (H : Type) (enc : TypeId × Value → H) :
    ReturnsInHanded {} Try.checked os 8 .any (Rows.mendRenewsSpec.pre6 enc Try.prog Try.f8 [] false) (Rows.mendRenewsSpec.post enc Try.prog Try.f8 false true false false) :=
  law_handed (C := Try.checked) (s := Rows.mendRenewsSpec) (tb := 4) (by kernel_rfl) (by kernel_rfl) started (by kernel_rfl) Try.func8
      (ChangeSpec.witness6 (enc := enc) (C := Try.checked) false ⟨#[], #[.slice none 0 0, .slice none 0 0, .int .u16 0], []⟩ 8 (by kernel_rfl) (by kernel_rfl) (by kernel_rfl) (by kernel_rfl))
      rfl (fun ds hds => match ds, hds with | [_, _, _], _ => rfl) rfl (by kernel_rfl) (by kernel_rfl) h

theorem mendRenews_row (h : ∀ xs, DatL Try.prog [22, 22, 37] xs → Pure Try.prog 8 xs (.v (.bool true))) : Rows.MendRenewsSaid :=
  OpenClaim.holds_of_wide 8 Try.f8 rfl rfl rfl rfl rfl rfl rfl ⟨rfl, rfl, rfl, rfl, rfl⟩ rfl rfl rfl rfl rfl (by kernel_rfl) Try.func8 (by kernel_rfl)
    (of_decide_eq_true (by kernel_rfl)) (by unfold Func.isWrapper; first | (rw [if_pos (by decide +kernel)]; kernel_rfl) | (rw [if_neg (by decide +kernel)]; exact ⟨rfl, rfl⟩))
    (fun os started H enc _ => mendRenews_lifted h os started H enc)

end Go.Proofs.Ytcbpphgndncebaa
