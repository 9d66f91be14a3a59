/- The row of SweepKeeps out of its plain program. No condition. -/
import Derived.Test.YtopkpflbhhhdfaaGreatXSweepKeepsIn
import Derived.Test.YtopkpflbhhhdfaaGreatXSweepKeepsWk0
import Derived.Test.YtopkpflbhhhdfaaGreatXSweepKeepsWk1
import Derived.Test.YtopkpflbhhhdfaaGreatXSweepKeepsWk2
import Derived.Test.YtopkpflbhhhdfaaGreatRows
namespace Go.Proofs.YtopkpflbhhhdfaaGreat
set_option linter.all false
open Go Go.Cat Go.ChangeShapes Go.WideShapes Go.RowKit Go.Proofs
set_option maxRecDepth 100000
local instance : Mono := ⟨False⟩
local instance : Off := ⟨id⟩

theorem sweepKeeps_pure (H : ∀ (p_x : law29_Set) (p_now : Int) (p_at : UInt8), ok_law29_Set p_x → ok_i64 p_now → ok_u8 p_at → law29_SweepKeeps p_x p_now p_at = some true) : ∀ xs, DatL Tryz.prog [27, 3, 5] xs → Pure Tryz.prog 4 xs (.v (.bool true)) := by
  intro xs h
  obtain ⟨v0, ys0, e0, d0, h0⟩ := h.cons_inv
  subst e0
  obtain ⟨cs0, f0, q0⟩ := d0.agg (by kernel_rfl)
  obtain ⟨x0, k0, o0⟩ := dat_law29_Set (by kernel_rfl) q0
  subst f0 k0
  obtain ⟨v1, ys1, e1, d1, h1⟩ := h0.cons_inv
  subst e1
  have q1 := d1.one (by kernel_rfl)
  obtain ⟨x1, k1, o1⟩ := dat_i64 (by kernel_rfl) q1
  have f1 := (List.cons.inj k1).1
  subst f1
  obtain ⟨v2, ys2, e2, d2, h2⟩ := h1.cons_inv
  subst e2
  have q2 := d2.one (by kernel_rfl)
  obtain ⟨x2, k2, o2⟩ := dat_u8 (by kernel_rfl) q2
  have f2 := (List.cons.inj k2).1
  subst f2
  have e := h2.nil_inv
  subst e
  exact w_law29_SweepKeeps (H x0 x1 x2 o0 o1 o2)

theorem sweepKeeps_lifted (h : ∀ xs, DatL Tryz.prog [27, 3, 5] xs → Pure Tryz.prog 4 xs (.v (.bool true))) (os : Os) (started : os.Started) (H : Type) (enc : TypeId × Value → H) :
    ReturnsInHanded {} Tryz.checked os 4 .any (Rows.sweepKeepsSpec.pre6 enc Tryz.prog Tryz.f4 [] false) (Rows.sweepKeepsSpec.post enc Tryz.prog Tryz.f4 false true false false) :=
  law_handed (C := Tryz.checked) (s := Rows.sweepKeepsSpec) (tb := 4) (by kernel_rfl) (by kernel_rfl) started (by kernel_rfl) Tryz.func4
      (ChangeSpec.witness6 (enc := enc) (C := Tryz.checked) false ⟨#[], #[.agg #[.slice none 0 0, .slice none 0 0, .slice none 0 0, .slice none 0 0], .int .i64 0, .int .u8 0], []⟩ 8 (by kernel_rfl) (by kernel_rfl) (by kernel_rfl) (by kernel_rfl))
      rfl (fun ds hds => match ds, hds with | [_, _, _], _ => rfl) rfl (by kernel_rfl) (by kernel_rfl) h

theorem sweepKeeps_row (h : ∀ xs, DatL Tryz.prog [27, 3, 5] xs → Pure Tryz.prog 4 xs (.v (.bool true))) : Rows.SweepKeepsSaid :=
  OpenClaim.holds_of_wide 4 Tryz.f4 rfl rfl rfl rfl rfl rfl rfl ⟨rfl, rfl, rfl, rfl, rfl⟩ rfl rfl rfl rfl rfl (by kernel_rfl) Tryz.func4 (by kernel_rfl)
    (of_decide_eq_true (by kernel_rfl)) (by unfold Func.isWrapper; first | (rw [if_pos (by decide +kernel)]; kernel_rfl) | (rw [if_neg (by decide +kernel)]; exact ⟨rfl, rfl⟩))
    (fun os started H enc _ => sweepKeeps_lifted h os started H enc)

end Go.Proofs.YtopkpflbhhhdfaaGreat
