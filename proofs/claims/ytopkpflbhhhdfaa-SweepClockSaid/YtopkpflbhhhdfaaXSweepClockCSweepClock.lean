/- The row of SweepClock out of its plain program. No condition. -/
import Derived.Test.YtopkpflbhhhdfaaXSweepClockIn
import Derived.Test.YtopkpflbhhhdfaaXSweepClockWk0
import Derived.Test.YtopkpflbhhhdfaaXSweepClockWk1
import Derived.Test.YtopkpflbhhhdfaaXSweepClockWk2
import Derived.Test.YtopkpflbhhhdfaaRows
namespace Go.Proofs.Ytopkpflbhhhdfaa
set_option linter.all false
open Go Go.Cat Go.ChangeShapes Go.WideShapes Go.RowKit Go.Proofs
set_option maxRecDepth 100000
local instance : Mono := ⟨False⟩
local instance : Off := ⟨id⟩

theorem sweepClock_pure (H : ∀ (p_room : api_Room) (p_from : Int) (p_many : UInt8) (p_real : Int) (p_drift : UInt8), ok_api_Room p_room → ok_u16 p_from → ok_u8 p_many → ok_u16 p_real → ok_u8 p_drift → law29_SweepClock p_room p_from p_many p_real p_drift = some true) : ∀ xs, DatL Try.prog [43, 28, 5, 28, 5] xs → Pure Try.prog 6 xs (.v (.bool true)) := by
  intro xs h
  obtain ⟨v0, ys0, e0, d0, h0⟩ := h.cons_inv
  subst e0
  obtain ⟨cs0, f0, q0⟩ := d0.agg (by kernel_rfl)
  obtain ⟨x0, k0, o0⟩ := dat_api_Room (by kernel_rfl) q0
  subst f0 k0
  obtain ⟨v1, ys1, e1, d1, h1⟩ := h0.cons_inv
  subst e1
  have q1 := d1.one (by kernel_rfl)
  obtain ⟨x1, k1, o1⟩ := dat_u16 (by kernel_rfl) q1
  have f1 := (List.cons.inj k1).1
  subst f1
  obtain ⟨v2, ys2, e2, d2, h2⟩ := h1.cons_inv
  subst e2
  have q2 := d2.one (by kernel_rfl)
  obtain ⟨x2, k2, o2⟩ := dat_u8 (by kernel_rfl) q2
  have f2 := (List.cons.inj k2).1
  subst f2
  obtain ⟨v3, ys3, e3, d3, h3⟩ := h2.cons_inv
  subst e3
  have q3 := d3.one (by kernel_rfl)
  obtain ⟨x3, k3, o3⟩ := dat_u16 (by kernel_rfl) q3
  have f3 := (List.cons.inj k3).1
  subst f3
  obtain ⟨v4, ys4, e4, d4, h4⟩ := h3.cons_inv
  subst e4
  have q4 := d4.one (by kernel_rfl)
  obtain ⟨x4, k4, o4⟩ := dat_u8 (by kernel_rfl) q4
  have f4 := (List.cons.inj k4).1
  subst f4
  have e := h4.nil_inv
  subst e
  exact w_law29_SweepClock (H x0 x1 x2 x3 x4 o0 o1 o2 o3 o4)

theorem sweepClock_lifted (h : ∀ xs, DatL Try.prog [43, 28, 5, 28, 5] xs → Pure Try.prog 6 xs (.v (.bool true))) (os : Os) (started : os.Started) (H : Type) (enc : TypeId × Value → H) :
    ReturnsInHanded {} Try.checked os 6 .any (Rows.sweepClockSpec.pre6 enc Try.prog Try.f6 [] false) (Rows.sweepClockSpec.post enc Try.prog Try.f6 false true false false) :=
  law_handed (C := Try.checked) (s := Rows.sweepClockSpec) (tb := 4) (by kernel_rfl) (by kernel_rfl) started (by kernel_rfl) Try.func6
      (ChangeSpec.witness6 (enc := enc) (C := Try.checked) false ⟨#[], #[.agg #[.int .i64 0, .int .i64 0, .int .i64 0], .int .u16 0, .int .u8 0, .int .u16 0, .int .u8 0], []⟩ 8 (by kernel_rfl) (by kernel_rfl) (by kernel_rfl) (by kernel_rfl))
      rfl (fun ds hds => match ds, hds with | [_, _, _, _, _], _ => rfl) rfl (by kernel_rfl) (by kernel_rfl) h

theorem sweepClock_row (h : ∀ xs, DatL Try.prog [43, 28, 5, 28, 5] xs → Pure Try.prog 6 xs (.v (.bool true))) : Rows.SweepClockSaid :=
  OpenClaim.holds_of_wide 6 Try.f6 rfl rfl rfl rfl rfl rfl rfl ⟨rfl, rfl, rfl, rfl, rfl⟩ rfl rfl rfl rfl rfl (by kernel_rfl) Try.func6 (by kernel_rfl)
    (of_decide_eq_true (by kernel_rfl)) (by unfold Func.isWrapper; first | (rw [if_pos (by decide +kernel)]; kernel_rfl) | (rw [if_neg (by decide +kernel)]; exact ⟨rfl, rfl⟩))
    (fun os started H enc _ => sweepClock_lifted h os started H enc)

end Go.Proofs.Ytopkpflbhhhdfaa
