/- The row of ScrubRot out of its plain program. No condition. -/
import Derived.Test.YtpohijpdclienabGreatXScrubRotIn
import Derived.Test.YtpohijpdclienabGreatXScrubRotWk0
import Derived.Test.YtpohijpdclienabGreatXScrubRotWk1
import Derived.Test.YtpohijpdclienabGreatXScrubRotWk2
import Derived.Test.YtpohijpdclienabGreatXScrubRotWk3
import Derived.Test.YtpohijpdclienabGreatRows
namespace Go.Proofs.YtpohijpdclienabGreat
set_option linter.all false
open Go Go.Cat Go.ChangeShapes Go.WideShapes Go.RowKit Go.Proofs
set_option maxRecDepth 100000
local instance : Mono := ⟨False⟩
local instance : Off := ⟨id⟩
theorem scrubRot_pure (H : ∀ (p_id : UInt8) (p_ver : Int) (p_data : List UInt8) (p_many : UInt8) (p_at : UInt8) (p_bit : Int), ok_u8 p_id → ok_u16 p_ver → okL_cU8 p_data → ok_u8 p_many → ok_u8 p_at → ok_u16 p_bit → law27_ScrubRot p_id p_ver p_data p_many p_at p_bit = some true) : ∀ xs, DatL Tryz.prog [5, 22, 23, 5, 5, 22] xs → Pure Tryz.prog 3 xs (.v (.bool true)) := by
 intro xs h
 obtain ⟨v0, ys0, e0, d0, h0⟩ := h.cons_inv
 subst e0
 have q0 := d0.one (by kernel_rfl)
 obtain ⟨x0, k0, o0⟩ := dat_u8 (by kernel_rfl) q0
 have f0 := (List.cons.inj k0).1
 subst f0
 obtain ⟨v1, ys1, e1, d1, h1⟩ := h0.cons_inv
 subst e1
 have q1 := d1.one (by kernel_rfl)
 obtain ⟨x1, k1, o1⟩ := dat_u16 (by kernel_rfl) q1
 have f1 := (List.cons.inj k1).1
 subst f1
 obtain ⟨v2, ys2, e2, d2, h2⟩ := h1.cons_inv
 subst e2
 have q2 := d2.one (by kernel_rfl)
 obtain ⟨x2, k2, o2⟩ := datL_cU8 (by kernel_rfl) q2
 have f2 := (List.cons.inj k2).1
 subst f2
 obtain ⟨v3, ys3, e3, d3, h3⟩ := h2.cons_inv
 subst e3
 have q3 := d3.one (by kernel_rfl)
 obtain ⟨x3, k3, o3⟩ := dat_u8 (by kernel_rfl) q3
 have f3 := (List.cons.inj k3).1
 subst f3
 obtain ⟨v4, ys4, e4, d4, h4⟩ := h3.cons_inv
 subst e4
 have q4 := d4.one (by kernel_rfl)
 obtain ⟨x4, k4, o4⟩ := dat_u8 (by kernel_rfl) q4
 have f4 := (List.cons.inj k4).1
 subst f4
 obtain ⟨v5, ys5, e5, d5, h5⟩ := h4.cons_inv
 subst e5
 have q5 := d5.one (by kernel_rfl)
 obtain ⟨x5, k5, o5⟩ := dat_u16 (by kernel_rfl) q5
 have f5 := (List.cons.inj k5).1
 subst f5
 have e := h5.nil_inv
 subst e
 exact w_law27_ScrubRot (H x0 x1 x2 x3 x4 x5 o0 o1 o2 o3 o4 o5)
theorem scrubRot_lifted (h : ∀ xs, DatL Tryz.prog [5, 22, 23, 5, 5, 22] xs → Pure Tryz.prog 3 xs (.v (.bool true))) (os : Os) (started : os.Started) (H : Type) (enc : TypeId × Value → H) :
  ReturnsInHanded {} Tryz.checked os 3 .any (Rows.scrubRotSpec.pre6 enc Tryz.prog Tryz.f3 [] false) (Rows.scrubRotSpec.post enc Tryz.prog Tryz.f3 false true false false) :=
 law_handed (C := Tryz.checked) (s := Rows.scrubRotSpec) (tb := 4) (by kernel_rfl) (by kernel_rfl) started (by kernel_rfl) Tryz.func3
   (ChangeSpec.witness6 (enc := enc) (C := Tryz.checked) false ⟨#[], #[.int .u8 0, .int .u16 0, .slice none 0 0, .int .u8 0, .int .u8 0, .int .u16 0], []⟩ 8 (by kernel_rfl) (by kernel_rfl) (by kernel_rfl) (by kernel_rfl))
   rfl (fun ds hds => match ds, hds with | [_, _, _, _, _, _], _ => rfl) rfl (by kernel_rfl) (by kernel_rfl) h
theorem scrubRot_row (h : ∀ xs, DatL Tryz.prog [5, 22, 23, 5, 5, 22] xs → Pure Tryz.prog 3 xs (.v (.bool true))) : Rows.ScrubRotSaid :=
 OpenClaim.holds_of_wide 3 Tryz.f3 rfl rfl rfl rfl rfl rfl rfl ⟨rfl, rfl, rfl, rfl, rfl⟩ rfl rfl rfl rfl rfl (by kernel_rfl) Tryz.func3 (by kernel_rfl)
  (of_decide_eq_true (by kernel_rfl)) (by unfold Func.isWrapper; first | (rw [if_pos (by decide +kernel)]; kernel_rfl) | (rw [if_neg (by decide +kernel)]; exact ⟨rfl, rfl⟩))
  (fun os started H enc _ => scrubRot_lifted h os started H enc)
end Go.Proofs.YtpohijpdclienabGreat
