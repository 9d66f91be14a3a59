/- The row of SweepLater out of its plain program. No condition. -/
import Derived.Test.YtopkpflbhhhdfaaXSweepLaterIn
import Derived.Test.YtopkpflbhhhdfaaXSweepLaterWk0
import Derived.Test.YtopkpflbhhhdfaaXSweepLaterWk1
import Derived.Test.YtopkpflbhhhdfaaXSweepLaterWk2
import Derived.Test.YtopkpflbhhhdfaaRows
namespace Go.Proofs.Ytopkpflbhhhdfaa
set_option linter.all false
open Go Go.Cat Go.ChangeShapes Go.WideShapes Go.RowKit Go.Proofs
set_option maxRecDepth 100000
local instance : Mono := ⟨False⟩
local instance : Off := ⟨id⟩

theorem sweepLater_pure (H : ∀ (p_x : law29_Set) (p_now : Int) (p_later : Int) (p_more : law29_Set), ok_law29_Set p_x → ok_i64 p_now → ok_u16 p_later → ok_law29_Set p_more → law29_SweepLater p_x p_now p_later p_more = some true) : ∀ xs, DatL Try.prog [27, 3, 28, 27] xs → Pure Try.prog 3 xs (.v (.bool true)) := by
  intro xs h
  obtain ⟨v0, ys0, e0, d0, h0⟩ := h.cons_inv
  subst e0
  obtain ⟨cs0, f0, q0⟩ := d0.agg (by kernel_rfl)
  obtain ⟨x0, k0, o0⟩ := dat_law29_Set (by kernel_rfl) q0
  subst f0 k0
  obtain ⟨v1, ys1, e1, d1, h1⟩ := h0.cons_inv
  subst e1
  have q1 := d1.one (by kernel_rfl)
  obtain ⟨x1, k1, o1⟩ := dat_i64 (by kernel_rfl) q1
  have f1 := (List.cons.inj k1).1
  subst f1
  obtain ⟨v2, ys2, e2, d2, h2⟩ := h1.cons_inv
  subst e2
  have q2 := d2.one (by kernel_rfl)
  obtain ⟨x2, k2, o2⟩ := dat_u16 (by kernel_rfl) q2
  have f2 := (List.cons.inj k2).1
  subst f2
  obtain ⟨v3, ys3, e3, d3, h3⟩ := h2.cons_inv
  subst e3
  obtain ⟨cs3, f3, q3⟩ := d3.agg (by kernel_rfl)
  obtain ⟨x3, k3, o3⟩ := dat_law29_Set (by kernel_rfl) q3
  subst f3 k3
  have e := h3.nil_inv
  subst e
  exact w_law29_SweepLater (H x0 x1 x2 x3 o0 o1 o2 o3)

theorem sweepLater_lifted (h : ∀ xs, DatL Try.prog [27, 3, 28, 27] xs → Pure Try.prog 3 xs (.v (.bool true))) (os : Os) (started : os.Started) (H : Type) (enc : TypeId × Value → H) :
    ReturnsInHanded {} Try.checked os 3 .any (Rows.sweepLaterSpec.pre6 enc Try.prog Try.f3 [] false) (Rows.sweepLaterSpec.post enc Try.prog Try.f3 false true false false) :=
  law_handed (C := Try.checked) (s := Rows.sweepLaterSpec) (tb := 4) (by kernel_rfl) (by kernel_rfl) started (by kernel_rfl) Try.func3
      (ChangeSpec.witness6 (enc := enc) (C := Try.checked) false ⟨#[], #[.agg #[.slice none 0 0, .slice none 0 0, .slice none 0 0, .slice none 0 0], .int .i64 0, .int .u16 0, .agg #[.slice none 0 0, .slice none 0 0, .slice none 0 0, .slice none 0 0]], []⟩ 8 (by kernel_rfl) (by kernel_rfl) (by kernel_rfl) (by kernel_rfl))
      rfl (fun ds hds => match ds, hds with | [_, _, _, _], _ => rfl) rfl (by kernel_rfl) (by kernel_rfl) h

theorem sweepLater_row (h : ∀ xs, DatL Try.prog [27, 3, 28, 27] xs → Pure Try.prog 3 xs (.v (.bool true))) : Rows.SweepLaterSaid :=
  OpenClaim.holds_of_wide 3 Try.f3 rfl rfl rfl rfl rfl rfl rfl ⟨rfl, rfl, rfl, rfl, rfl⟩ rfl rfl rfl rfl rfl (by kernel_rfl) Try.func3 (by kernel_rfl)
    (of_decide_eq_true (by kernel_rfl)) (by unfold Func.isWrapper; first | (rw [if_pos (by decide +kernel)]; kernel_rfl) | (rw [if_neg (by decide +kernel)]; exact ⟨rfl, rfl⟩))
    (fun os started H enc _ => sweepLater_lifted h os started H enc)

end Go.Proofs.Ytopkpflbhhhdfaa
