/- The row of LeaseClocks out of its plain program. No condition. -/
import Derived.Test.YthhoomhekolbnaaXLeaseClocksIn
import Derived.Test.YthhoomhekolbnaaXLeaseClocksWk0
import Derived.Test.YthhoomhekolbnaaXLeaseClocksWk1
import Derived.Test.YthhoomhekolbnaaXLeaseClocksWk2
import Derived.Test.YthhoomhekolbnaaRows
namespace Go.Proofs.Ythhoomhekolbnaa
set_option linter.all false
open Go Go.Cat Go.ChangeShapes Go.WideShapes Go.RowKit Go.Proofs
set_option maxRecDepth 100000
local instance : Mono := ⟨False⟩
local instance : Off := ⟨id⟩

theorem leaseClocks_pure (H : ∀ (p_gaps : List Int) (p_server : List Int) (p_client : List Int) (p_long : UInt8) (p_kind : Bool), okL_c_u16 p_gaps → okL_c_u16 p_server → okL_c_u16 p_client → ok_u8 p_long → ok_bool p_kind → law22_LeaseClocks p_gaps p_server p_client p_long p_kind = some true) : ∀ xs, DatL Try.prog [51, 51, 51, 5, 4] xs → Pure Try.prog 8 xs (.v (.bool true)) := by
  intro xs h
  obtain ⟨v0, ys0, e0, d0, h0⟩ := h.cons_inv
  subst e0
  have q0 := d0.one (by kernel_rfl)
  obtain ⟨x0, k0, o0⟩ := datL_c_u16 (by kernel_rfl) q0
  have f0 := (List.cons.inj k0).1
  subst f0
  obtain ⟨v1, ys1, e1, d1, h1⟩ := h0.cons_inv
  subst e1
  have q1 := d1.one (by kernel_rfl)
  obtain ⟨x1, k1, o1⟩ := datL_c_u16 (by kernel_rfl) q1
  have f1 := (List.cons.inj k1).1
  subst f1
  obtain ⟨v2, ys2, e2, d2, h2⟩ := h1.cons_inv
  subst e2
  have q2 := d2.one (by kernel_rfl)
  obtain ⟨x2, k2, o2⟩ := datL_c_u16 (by kernel_rfl) q2
  have f2 := (List.cons.inj k2).1
  subst f2
  obtain ⟨v3, ys3, e3, d3, h3⟩ := h2.cons_inv
  subst e3
  have q3 := d3.one (by kernel_rfl)
  obtain ⟨x3, k3, o3⟩ := dat_u8 (by kernel_rfl) q3
  have f3 := (List.cons.inj k3).1
  subst f3
  obtain ⟨v4, ys4, e4, d4, h4⟩ := h3.cons_inv
  subst e4
  have q4 := d4.one (by kernel_rfl)
  obtain ⟨x4, k4, o4⟩ := dat_bool (by kernel_rfl) q4
  have f4 := (List.cons.inj k4).1
  subst f4
  have e := h4.nil_inv
  subst e
  exact w_law22_LeaseClocks (H x0 x1 x2 x3 x4 o0 o1 o2 o3 o4)

theorem leaseClocks_lifted (h : ∀ xs, DatL Try.prog [51, 51, 51, 5, 4] xs → Pure Try.prog 8 xs (.v (.bool true))) (os : Os) (started : os.Started) (H : Type) (enc : TypeId × Value → H) :
    ReturnsInHanded {} Try.checked os 8 .any (Rows.leaseClocksSpec.pre6 enc Try.prog Try.f8 [] false) (Rows.leaseClocksSpec.post enc Try.prog Try.f8 false true false false) :=
  law_handed (C := Try.checked) (s := Rows.leaseClocksSpec) (tb := 4) (by kernel_rfl) (by kernel_rfl) started (by kernel_rfl) Try.func8
      (ChangeSpec.witness6 (enc := enc) (C := Try.checked) false ⟨#[], #[.slice none 0 0, .slice none 0 0, .slice none 0 0, .int .u8 0, .bool false], []⟩ 8 (by kernel_rfl) (by kernel_rfl) (by kernel_rfl) (by kernel_rfl))
      rfl (fun ds hds => match ds, hds with | [_, _, _, _, _], _ => rfl) rfl (by kernel_rfl) (by kernel_rfl) h

theorem leaseClocks_row (h : ∀ xs, DatL Try.prog [51, 51, 51, 5, 4] xs → Pure Try.prog 8 xs (.v (.bool true))) : Rows.LeaseClocksSaid :=
  OpenClaim.holds_of_wide 8 Try.f8 rfl rfl rfl rfl rfl rfl rfl ⟨rfl, rfl, rfl, rfl, rfl⟩ rfl rfl rfl rfl rfl (by kernel_rfl) Try.func8 (by kernel_rfl)
    (of_decide_eq_true (by kernel_rfl)) (by unfold Func.isWrapper; first | (rw [if_pos (by decide +kernel)]; kernel_rfl) | (rw [if_neg (by decide +kernel)]; exact ⟨rfl, rfl⟩))
    (fun os started H enc _ => leaseClocks_lifted h os started H enc)

end Go.Proofs.Ythhoomhekolbnaa
