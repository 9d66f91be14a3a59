/- The row of LeaseTells out of its plain program. No condition. -/
import Derived.Test.YthhoomhekolbnaaXLeaseTellsIn
import Derived.Test.YthhoomhekolbnaaXLeaseTellsWk0
import Derived.Test.YthhoomhekolbnaaXLeaseTellsWk1
import Derived.Test.YthhoomhekolbnaaXLeaseTellsWk2
import Derived.Test.YthhoomhekolbnaaRows
namespace Go.Proofs.Ythhoomhekolbnaa
set_option linter.all false
open Go Go.Cat Go.ChangeShapes Go.WideShapes Go.RowKit Go.Proofs
set_option maxRecDepth 100000
local instance : Mono := ⟨False⟩
local instance : Off := ⟨id⟩

theorem leaseTells_pure (H : ∀ (p_l : List api_Lease) (p_now : Int) (p_q : api_Lease) (p_long : Int) (p_s : api_Span), okL_c_api_Lease p_l → ok_i64 p_now → ok_api_Lease p_q → ok_i64 p_long → ok_api_Span p_s → law22_LeaseTells p_l p_now p_q p_long p_s = some true) : ∀ xs, DatL Try.prog [22, 3, 26, 3, 24] xs → Pure Try.prog 3 xs (.v (.bool true)) := by
  intro xs h
  obtain ⟨v0, ys0, e0, d0, h0⟩ := h.cons_inv
  subst e0
  have q0 := d0.one (by kernel_rfl)
  obtain ⟨x0, k0, o0⟩ := datL_c_api_Lease (by kernel_rfl) q0
  have f0 := (List.cons.inj k0).1
  subst f0
  obtain ⟨v1, ys1, e1, d1, h1⟩ := h0.cons_inv
  subst e1
  have q1 := d1.one (by kernel_rfl)
  obtain ⟨x1, k1, o1⟩ := dat_i64 (by kernel_rfl) q1
  have f1 := (List.cons.inj k1).1
  subst f1
  obtain ⟨v2, ys2, e2, d2, h2⟩ := h1.cons_inv
  subst e2
  obtain ⟨cs2, f2, q2⟩ := d2.agg (by kernel_rfl)
  obtain ⟨x2, k2, o2⟩ := dat_api_Lease (by kernel_rfl) q2
  subst f2 k2
  obtain ⟨v3, ys3, e3, d3, h3⟩ := h2.cons_inv
  subst e3
  have q3 := d3.one (by kernel_rfl)
  obtain ⟨x3, k3, o3⟩ := dat_i64 (by kernel_rfl) q3
  have f3 := (List.cons.inj k3).1
  subst f3
  obtain ⟨v4, ys4, e4, d4, h4⟩ := h3.cons_inv
  subst e4
  obtain ⟨cs4, f4, q4⟩ := d4.agg (by kernel_rfl)
  obtain ⟨x4, k4, o4⟩ := dat_api_Span (by kernel_rfl) q4
  subst f4 k4
  have e := h4.nil_inv
  subst e
  exact w_law22_LeaseTells (H x0 x1 x2 x3 x4 o0 o1 o2 o3 o4)

theorem leaseTells_lifted (h : ∀ xs, DatL Try.prog [22, 3, 26, 3, 24] xs → Pure Try.prog 3 xs (.v (.bool true))) (os : Os) (started : os.Started) (H : Type) (enc : TypeId × Value → H) :
    ReturnsInHanded {} Try.checked os 3 .any (Rows.leaseTellsSpec.pre6 enc Try.prog Try.f3 [] false) (Rows.leaseTellsSpec.post enc Try.prog Try.f3 false true false false) :=
  law_handed (C := Try.checked) (s := Rows.leaseTellsSpec) (tb := 4) (by kernel_rfl) (by kernel_rfl) started (by kernel_rfl) Try.func3
      (ChangeSpec.witness6 (enc := enc) (C := Try.checked) false ⟨#[], #[.slice none 0 0, .int .i64 0, .agg #[.int .i64 0, .int .i64 0, .int .i64 0, .int .i64 0, .int .i64 0, .int .i64 0, .int .i64 0], .int .i64 0, .agg #[.int .i64 0, .int .i64 0]], []⟩ 8 (by kernel_rfl) (by kernel_rfl) (by kernel_rfl) (by kernel_rfl))
      rfl (fun ds hds => match ds, hds with | [_, _, _, _, _], _ => rfl) rfl (by kernel_rfl) (by kernel_rfl) h

theorem leaseTells_row (h : ∀ xs, DatL Try.prog [22, 3, 26, 3, 24] xs → Pure Try.prog 3 xs (.v (.bool true))) : Rows.LeaseTellsSaid :=
  OpenClaim.holds_of_wide 3 Try.f3 rfl rfl rfl rfl rfl rfl rfl ⟨rfl, rfl, rfl, rfl, rfl⟩ rfl rfl rfl rfl rfl (by kernel_rfl) Try.func3 (by kernel_rfl)
    (of_decide_eq_true (by kernel_rfl)) (by unfold Func.isWrapper; first | (rw [if_pos (by decide +kernel)]; kernel_rfl) | (rw [if_neg (by decide +kernel)]; exact ⟨rfl, rfl⟩))
    (fun os started H enc _ => leaseTells_lifted h os started H enc)

end Go.Proofs.Ythhoomhekolbnaa
