/- The row of MendDoes out of its plain program. No condition. -/
import Derived.Test.YtcbpphgndncebabGreatXMendDoesIn
import Derived.Test.YtcbpphgndncebabGreatXMendDoesWk0
import Derived.Test.YtcbpphgndncebabGreatXMendDoesWk1
import Derived.Test.YtcbpphgndncebabGreatXMendDoesWk2
import Derived.Test.YtcbpphgndncebabGreatXMendDoesWk3
import Derived.Test.YtcbpphgndncebabGreatXMendDoesWk4
import Derived.Test.YtcbpphgndncebabGreatRows
namespace Go.Proofs.YtcbpphgndncebabGreat
set_option linter.all false
open Go Go.Cat Go.ChangeShapes Go.WideShapes Go.RowKit Go.Proofs
set_option maxRecDepth 100000
local instance : Mono := ⟨False⟩
local instance : Off := ⟨id⟩
theorem mendDoes_pure (H : ∀ (p_disks : List api_Disk) (p_chains : List api_Chain) (p_x : List api_Job) (p_budget : Int), okL_c_api_Disk p_disks → okL_c_api_Chain p_chains → okL_c_api_Job p_x → ok_i64 p_budget → law28N1 p_disks p_chains p_x p_budget = some true) : ∀ xs, DatL Tryz.prog [22, 23, 24, 3] xs → Pure Tryz.prog 3 xs (.v (.bool true)) := by
 intro xs h
 obtain ⟨v0, ys0, e0, d0, h0⟩ := h.cons_inv
 subst e0
 have q0 := d0.one (by kernel_rfl)
 obtain ⟨x0, k0, o0⟩ := datL_c_api_Disk (by kernel_rfl) q0
 have f0 := (List.cons.inj k0).1
 subst f0
 obtain ⟨v1, ys1, e1, d1, h1⟩ := h0.cons_inv
 subst e1
 have q1 := d1.one (by kernel_rfl)
 obtain ⟨x1, k1, o1⟩ := datL_c_api_Chain (by kernel_rfl) q1
 have f1 := (List.cons.inj k1).1
 subst f1
 obtain ⟨v2, ys2, e2, d2, h2⟩ := h1.cons_inv
 subst e2
 have q2 := d2.one (by kernel_rfl)
 obtain ⟨x2, k2, o2⟩ := datL_c_api_Job (by kernel_rfl) q2
 have f2 := (List.cons.inj k2).1
 subst f2
 obtain ⟨v3, ys3, e3, d3, h3⟩ := h2.cons_inv
 subst e3
 have q3 := d3.one (by kernel_rfl)
 obtain ⟨x3, k3, o3⟩ := dat_i64 (by kernel_rfl) q3
 have f3 := (List.cons.inj k3).1
 subst f3
 have e := h3.nil_inv
 subst e
 exact w_law28N1 (H x0 x1 x2 x3 o0 o1 o2 o3)
theorem mendDoes_lifted (h : ∀ xs, DatL Tryz.prog [22, 23, 24, 3] xs → Pure Tryz.prog 3 xs (.v (.bool true))) (os : Os) (started : os.Started) (H : Type) (enc : TypeId × Value → H) :
  ReturnsInHanded {} Tryz.checked os 3 .any (Rows.mendDoesSpec.pre6 enc Tryz.prog Tryz.f3 [] false) (Rows.mendDoesSpec.post enc Tryz.prog Tryz.f3 false true false false) :=
 law_handed (C := Tryz.checked) (s := Rows.mendDoesSpec) (tb := 4) (by kernel_rfl) (by kernel_rfl) started (by kernel_rfl) Tryz.func3
   (ChangeSpec.witness6 (enc := enc) (C := Tryz.checked) false ⟨#[], #[.slice none 0 0, .slice none 0 0, .slice none 0 0, .int .i64 0], []⟩ 8 (by kernel_rfl) (by kernel_rfl) (by kernel_rfl) (by kernel_rfl))
   rfl (fun ds hds => match ds, hds with | [_, _, _, _], _ => rfl) rfl (by kernel_rfl) (by kernel_rfl) h
theorem mendDoes_row (h : ∀ xs, DatL Tryz.prog [22, 23, 24, 3] xs → Pure Tryz.prog 3 xs (.v (.bool true))) : Rows.MendDoesSaid :=
 OpenClaim.holds_of_wide 3 Tryz.f3 rfl rfl rfl rfl rfl rfl rfl ⟨rfl, rfl, rfl, rfl, rfl⟩ rfl rfl rfl rfl rfl (by kernel_rfl) Tryz.func3 (by kernel_rfl)
  (of_decide_eq_true (by kernel_rfl)) (by unfold Func.isWrapper; first | (rw [if_pos (by decide +kernel)]; kernel_rfl) | (rw [if_neg (by decide +kernel)]; exact ⟨rfl, rfl⟩))
  (fun os started H enc _ => mendDoes_lifted h os started H enc)
end Go.Proofs.YtcbpphgndncebabGreat
