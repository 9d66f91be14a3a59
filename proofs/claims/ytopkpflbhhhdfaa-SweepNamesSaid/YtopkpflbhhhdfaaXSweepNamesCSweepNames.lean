/- The row of SweepNames out of its plain program. No condition. -/
import Derived.Test.YtopkpflbhhhdfaaXSweepNamesIn
import Derived.Test.YtopkpflbhhhdfaaXSweepNamesWk0
import Derived.Test.YtopkpflbhhhdfaaXSweepNamesWk1
import Derived.Test.YtopkpflbhhhdfaaXSweepNamesWk2
import Derived.Test.YtopkpflbhhhdfaaRows
namespace Go.Proofs.Ytopkpflbhhhdfaa
set_option linter.all false
open Go Go.Cat Go.ChangeShapes Go.WideShapes Go.RowKit Go.Proofs
set_option maxRecDepth 100000
local instance : Mono := ⟨False⟩
local instance : Off := ⟨id⟩

theorem sweepNames_pure (H : ∀ (p_x : law29_Set) (p_now : Int) (p_a : api_Named) (p_b : api_Named), ok_law29_Set p_x → ok_i64 p_now → ok_api_Named p_a → ok_api_Named p_b → law29_SweepNames p_x p_now p_a p_b = some true) : ∀ xs, DatL Try.prog [27, 3, 41, 41] xs → Pure Try.prog 4 xs (.v (.bool true)) := by
  intro xs h
  obtain ⟨v0, ys0, e0, d0, h0⟩ := h.cons_inv
  subst e0
  obtain ⟨cs0, f0, q0⟩ := d0.agg (by kernel_rfl)
  obtain ⟨x0, k0, o0⟩ := dat_law29_Set (by kernel_rfl) q0
  subst f0 k0
  obtain ⟨v1, ys1, e1, d1, h1⟩ := h0.cons_inv
  subst e1
  have q1 := d1.one (by kernel_rfl)
  obtain ⟨x1, k1, o1⟩ := dat_i64 (by kernel_rfl) q1
  have f1 := (List.cons.inj k1).1
  subst f1
  obtain ⟨v2, ys2, e2, d2, h2⟩ := h1.cons_inv
  subst e2
  obtain ⟨cs2, f2, q2⟩ := d2.agg (by kernel_rfl)
  obtain ⟨x2, k2, o2⟩ := dat_api_Named (by kernel_rfl) q2
  subst f2 k2
  obtain ⟨v3, ys3, e3, d3, h3⟩ := h2.cons_inv
  subst e3
  obtain ⟨cs3, f3, q3⟩ := d3.agg (by kernel_rfl)
  obtain ⟨x3, k3, o3⟩ := dat_api_Named (by kernel_rfl) q3
  subst f3 k3
  have e := h3.nil_inv
  subst e
  exact w_law29_SweepNames (H x0 x1 x2 x3 o0 o1 o2 o3)

theorem sweepNames_lifted (h : ∀ xs, DatL Try.prog [27, 3, 41, 41] xs → Pure Try.prog 4 xs (.v (.bool true))) (os : Os) (started : os.Started) (H : Type) (enc : TypeId × Value → H) :
    ReturnsInHanded {} Try.checked os 4 .any (Rows.sweepNamesSpec.pre6 enc Try.prog Try.f4 [] false) (Rows.sweepNamesSpec.post enc Try.prog Try.f4 false true false false) :=
  law_handed (C := Try.checked) (s := Rows.sweepNamesSpec) (tb := 4) (by kernel_rfl) (by kernel_rfl) started (by kernel_rfl) Try.func4
      (ChangeSpec.witness6 (enc := enc) (C := Try.checked) false ⟨#[], #[.agg #[.slice none 0 0, .slice none 0 0, .slice none 0 0, .slice none 0 0], .int .i64 0, .agg #[.int .i64 0, .int .i64 0, .int .i64 0, .int .i64 0], .agg #[.int .i64 0, .int .i64 0, .int .i64 0, .int .i64 0]], []⟩ 8 (by kernel_rfl) (by kernel_rfl) (by kernel_rfl) (by kernel_rfl))
      rfl (fun ds hds => match ds, hds with | [_, _, _, _], _ => rfl) rfl (by kernel_rfl) (by kernel_rfl) h

theorem sweepNames_row (h : ∀ xs, DatL Try.prog [27, 3, 41, 41] xs → Pure Try.prog 4 xs (.v (.bool true))) : Rows.SweepNamesSaid :=
  OpenClaim.holds_of_wide 4 Try.f4 rfl rfl rfl rfl rfl rfl rfl ⟨rfl, rfl, rfl, rfl, rfl⟩ rfl rfl rfl rfl rfl (by kernel_rfl) Try.func4 (by kernel_rfl)
    (of_decide_eq_true (by kernel_rfl)) (by unfold Func.isWrapper; first | (rw [if_pos (by decide +kernel)]; kernel_rfl) | (rw [if_neg (by decide +kernel)]; exact ⟨rfl, rfl⟩))
    (fun os started H enc _ => sweepNames_lifted h os started H enc)

end Go.Proofs.Ytopkpflbhhhdfaa
