/- The row of DiskTells out of its plain program. No condition. -/
import Derived.Test.YtlhgbjgfnihijaaXDiskTellsIn
import Derived.Test.YtlhgbjgfnihijaaXDiskTellsWk0
import Derived.Test.YtlhgbjgfnihijaaXDiskTellsWk1
import Derived.Test.YtlhgbjgfnihijaaRows
namespace Go.Proofs.Ytlhgbjgfnihijaa
set_option linter.all false
open Go Go.Cat Go.ChangeShapes Go.WideShapes Go.RowKit Go.Proofs
set_option maxRecDepth 100000
local instance : Mono := ⟨False⟩
local instance : Off := ⟨id⟩

theorem diskTells_pure (H : ∀ (p_d : api_Disk) (p_l : List law04_Act) (p_at : Int), ok_api_Disk p_d → okL_c_law04_Act p_l → ok_i64 p_at → law04_DiskTells p_d p_l p_at = some true) : ∀ xs, DatL Try.prog [24, 25, 3] xs → Pure Try.prog 3 xs (.v (.bool true)) := by
  intro xs h
  obtain ⟨v0, ys0, e0, d0, h0⟩ := h.cons_inv
  subst e0
  obtain ⟨cs0, f0, q0⟩ := d0.agg (by kernel_rfl)
  obtain ⟨x0, k0, o0⟩ := dat_api_Disk (by kernel_rfl) q0
  subst f0 k0
  obtain ⟨v1, ys1, e1, d1, h1⟩ := h0.cons_inv
  subst e1
  have q1 := d1.one (by kernel_rfl)
  obtain ⟨x1, k1, o1⟩ := datL_c_law04_Act (by kernel_rfl) q1
  have f1 := (List.cons.inj k1).1
  subst f1
  obtain ⟨v2, ys2, e2, d2, h2⟩ := h1.cons_inv
  subst e2
  have q2 := d2.one (by kernel_rfl)
  obtain ⟨x2, k2, o2⟩ := dat_i64 (by kernel_rfl) q2
  have f2 := (List.cons.inj k2).1
  subst f2
  have e := h2.nil_inv
  subst e
  exact w_law04_DiskTells (H x0 x1 x2 o0 o1 o2)

theorem diskTells_lifted (h : ∀ xs, DatL Try.prog [24, 25, 3] xs → Pure Try.prog 3 xs (.v (.bool true))) (os : Os) (started : os.Started) (H : Type) (enc : TypeId × Value → H) :
    ReturnsInHanded {} Try.checked os 3 .any (Rows.diskTellsSpec.pre6 enc Try.prog Try.f3 [] false) (Rows.diskTellsSpec.post enc Try.prog Try.f3 false true false false) :=
  law_handed (C := Try.checked) (s := Rows.diskTellsSpec) (tb := 4) (by kernel_rfl) (by kernel_rfl) started (by kernel_rfl) Try.func3
      (ChangeSpec.witness6 (enc := enc) (C := Try.checked) false ⟨#[], #[.agg #[.slice none 0 0, .slice none 0 0, .bool false], .slice none 0 0, .int .i64 0], []⟩ 8 (by kernel_rfl) (by kernel_rfl) (by kernel_rfl) (by kernel_rfl))
      rfl (fun ds hds => match ds, hds with | [_, _, _], _ => rfl) rfl (by kernel_rfl) (by kernel_rfl) h

theorem diskTells_row (h : ∀ xs, DatL Try.prog [24, 25, 3] xs → Pure Try.prog 3 xs (.v (.bool true))) : Rows.DiskTellsSaid :=
  OpenClaim.holds_of_wide 3 Try.f3 rfl rfl rfl rfl rfl rfl rfl ⟨rfl, rfl, rfl, rfl, rfl⟩ rfl rfl rfl rfl rfl (by kernel_rfl) Try.func3 (by kernel_rfl)
    (of_decide_eq_true (by kernel_rfl)) (by unfold Func.isWrapper; first | (rw [if_pos (by decide +kernel)]; kernel_rfl) | (rw [if_neg (by decide +kernel)]; exact ⟨rfl, rfl⟩))
    (fun os started H enc _ => diskTells_lifted h os started H enc)

end Go.Proofs.Ytlhgbjgfnihijaa
