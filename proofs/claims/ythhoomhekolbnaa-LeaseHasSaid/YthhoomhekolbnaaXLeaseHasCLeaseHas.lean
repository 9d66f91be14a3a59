/- The row of LeaseHas out of its plain program. No condition. -/
import Derived.Test.YthhoomhekolbnaaXLeaseHasIn
import Derived.Test.YthhoomhekolbnaaXLeaseHasWk0
import Derived.Test.YthhoomhekolbnaaXLeaseHasWk1
import Derived.Test.YthhoomhekolbnaaRows
namespace Go.Proofs.Ythhoomhekolbnaa
set_option linter.all false
open Go Go.Cat Go.ChangeShapes Go.WideShapes Go.RowKit Go.Proofs
set_option maxRecDepth 100000
local instance : Mono := ⟨False⟩
local instance : Off := ⟨id⟩

theorem leaseHas_pure (H : ∀ (p_l : List law22_Step) (p_q : api_Lease) (p_long : Int) (p_cut : List Int), okL_c_law22_Step p_l → ok_api_Lease p_q → ok_i64 p_long → okA_ok_u16_2 p_cut → law22_LeaseHas p_l p_q p_long p_cut = some true) : ∀ xs, DatL Try.prog [39, 26, 3, 49] xs → Pure Try.prog 7 xs (.v (.bool true)) := by
  intro xs h
  obtain ⟨v0, ys0, e0, d0, h0⟩ := h.cons_inv
  subst e0
  have q0 := d0.one (by kernel_rfl)
  obtain ⟨x0, k0, o0⟩ := datL_c_law22_Step (by kernel_rfl) q0
  have f0 := (List.cons.inj k0).1
  subst f0
  obtain ⟨v1, ys1, e1, d1, h1⟩ := h0.cons_inv
  subst e1
  obtain ⟨cs1, f1, q1⟩ := d1.agg (by kernel_rfl)
  obtain ⟨x1, k1, o1⟩ := dat_api_Lease (by kernel_rfl) q1
  subst f1 k1
  obtain ⟨v2, ys2, e2, d2, h2⟩ := h1.cons_inv
  subst e2
  have q2 := d2.one (by kernel_rfl)
  obtain ⟨x2, k2, o2⟩ := dat_i64 (by kernel_rfl) q2
  have f2 := (List.cons.inj k2).1
  subst f2
  obtain ⟨v3, ys3, e3, d3, h3⟩ := h2.cons_inv
  subst e3
  obtain ⟨cs3, f3, q3⟩ := d3.agg (by kernel_rfl)
  obtain ⟨x3, k3, o3⟩ := datA_okA_ok_u16_2 (by kernel_rfl) q3
  subst f3 k3
  have e := h3.nil_inv
  subst e
  exact w_law22_LeaseHas (H x0 x1 x2 x3 o0 o1 o2 o3)

theorem leaseHas_lifted (h : ∀ xs, DatL Try.prog [39, 26, 3, 49] xs → Pure Try.prog 7 xs (.v (.bool true))) (os : Os) (started : os.Started) (H : Type) (enc : TypeId × Value → H) :
    ReturnsInHanded {} Try.checked os 7 .any (Rows.leaseHasSpec.pre6 enc Try.prog Try.f7 [] false) (Rows.leaseHasSpec.post enc Try.prog Try.f7 false true false false) :=
  law_handed (C := Try.checked) (s := Rows.leaseHasSpec) (tb := 4) (by kernel_rfl) (by kernel_rfl) started (by kernel_rfl) Try.func7
      (ChangeSpec.witness6 (enc := enc) (C := Try.checked) false ⟨#[], #[.slice none 0 0, .agg #[.int .i64 0, .int .i64 0, .int .i64 0, .int .i64 0, .int .i64 0, .int .i64 0, .int .i64 0], .int .i64 0, .agg #[.int .u16 0, .int .u16 0]], []⟩ 8 (by kernel_rfl) (by kernel_rfl) (by kernel_rfl) (by kernel_rfl))
      rfl (fun ds hds => match ds, hds with | [_, _, _, _], _ => rfl) rfl (by kernel_rfl) (by kernel_rfl) h

theorem leaseHas_row (h : ∀ xs, DatL Try.prog [39, 26, 3, 49] xs → Pure Try.prog 7 xs (.v (.bool true))) : Rows.LeaseHasSaid :=
  OpenClaim.holds_of_wide 7 Try.f7 rfl rfl rfl rfl rfl rfl rfl ⟨rfl, rfl, rfl, rfl, rfl⟩ rfl rfl rfl rfl rfl (by kernel_rfl) Try.func7 (by kernel_rfl)
    (of_decide_eq_true (by kernel_rfl)) (by unfold Func.isWrapper; first | (rw [if_pos (by decide +kernel)]; kernel_rfl) | (rw [if_neg (by decide +kernel)]; exact ⟨rfl, rfl⟩))
    (fun os started H enc _ => leaseHas_lifted h os started H enc)

end Go.Proofs.Ythhoomhekolbnaa
