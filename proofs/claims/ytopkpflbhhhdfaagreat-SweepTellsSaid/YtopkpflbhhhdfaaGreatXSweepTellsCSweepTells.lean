/- The row of SweepTells out of its plain program. No condition. -/
import Derived.Test.YtopkpflbhhhdfaaGreatXSweepTellsIn
import Derived.Test.YtopkpflbhhhdfaaGreatXSweepTellsWk0
import Derived.Test.YtopkpflbhhhdfaaGreatXSweepTellsWk1
import Derived.Test.YtopkpflbhhhdfaaGreatXSweepTellsWk2
import Derived.Test.YtopkpflbhhhdfaaGreatXSweepTellsWk3
import Derived.Test.YtopkpflbhhhdfaaGreatRows
namespace Go.Proofs.YtopkpflbhhhdfaaGreat
set_option linter.all false
open Go Go.Cat Go.ChangeShapes Go.WideShapes Go.RowKit Go.Proofs
set_option maxRecDepth 100000
local instance : Mono := ⟨False⟩
local instance : Off := ⟨id⟩

theorem sweepTells_pure (H : ∀ (p_x : law29_Set) (p_now : Int), ok_law29_Set p_x → ok_i64 p_now → law29_SweepTells p_x p_now = some true) : ∀ xs, DatL Tryz.prog [27, 3] xs → Pure Tryz.prog 3 xs (.v (.bool true)) := by
  intro xs h
  obtain ⟨v0, ys0, e0, d0, h0⟩ := h.cons_inv
  subst e0
  obtain ⟨cs0, f0, q0⟩ := d0.agg (by kernel_rfl)
  obtain ⟨x0, k0, o0⟩ := dat_law29_Set (by kernel_rfl) q0
  subst f0 k0
  obtain ⟨v1, ys1, e1, d1, h1⟩ := h0.cons_inv
  subst e1
  have q1 := d1.one (by kernel_rfl)
  obtain ⟨x1, k1, o1⟩ := dat_i64 (by kernel_rfl) q1
  have f1 := (List.cons.inj k1).1
  subst f1
  have e := h1.nil_inv
  subst e
  exact w_law29_SweepTells (H x0 x1 o0 o1)

theorem sweepTells_lifted (h : ∀ xs, DatL Tryz.prog [27, 3] xs → Pure Tryz.prog 3 xs (.v (.bool true))) (os : Os) (started : os.Started) (H : Type) (enc : TypeId × Value → H) :
    ReturnsInHanded {} Tryz.checked os 3 .any (Rows.sweepTellsSpec.pre6 enc Tryz.prog Tryz.f3 [] false) (Rows.sweepTellsSpec.post enc Tryz.prog Tryz.f3 false true false false) :=
  law_handed (C := Tryz.checked) (s := Rows.sweepTellsSpec) (tb := 4) (by kernel_rfl) (by kernel_rfl) started (by kernel_rfl) Tryz.func3
      (ChangeSpec.witness6 (enc := enc) (C := Tryz.checked) false ⟨#[], #[.agg #[.slice none 0 0, .slice none 0 0, .slice none 0 0, .slice none 0 0], .int .i64 0], []⟩ 8 (by kernel_rfl) (by kernel_rfl) (by kernel_rfl) (by kernel_rfl))
      rfl (fun ds hds => match ds, hds with | [_, _], _ => rfl) rfl (by kernel_rfl) (by kernel_rfl) h

theorem sweepTells_row (h : ∀ xs, DatL Tryz.prog [27, 3] xs → Pure Tryz.prog 3 xs (.v (.bool true))) : Rows.SweepTellsSaid :=
  OpenClaim.holds_of_wide 3 Tryz.f3 rfl rfl rfl rfl rfl rfl rfl ⟨rfl, rfl, rfl, rfl, rfl⟩ rfl rfl rfl rfl rfl (by kernel_rfl) Tryz.func3 (by kernel_rfl)
    (of_decide_eq_true (by kernel_rfl)) (by unfold Func.isWrapper; first | (rw [if_pos (by decide +kernel)]; kernel_rfl) | (rw [if_neg (by decide +kernel)]; exact ⟨rfl, rfl⟩))
    (fun os started H enc _ => sweepTells_lifted h os started H enc)

end Go.Proofs.YtopkpflbhhhdfaaGreat
