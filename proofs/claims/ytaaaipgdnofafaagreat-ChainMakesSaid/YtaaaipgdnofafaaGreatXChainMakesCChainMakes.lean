/- The row of ChainMakes out of its plain program. No condition. -/
import Derived.Test.YtaaaipgdnofafaaGreatXChainMakesIn
import Derived.Test.YtaaaipgdnofafaaGreatXChainMakesWk0
import Derived.Test.YtaaaipgdnofafaaGreatXChainMakesWk1
import Derived.Test.YtaaaipgdnofafaaGreatXChainMakesWk2
import Derived.Test.YtaaaipgdnofafaaGreatXChainMakesWk3
import Derived.Test.YtaaaipgdnofafaaGreatXChainMakesWk4
import Derived.Test.YtaaaipgdnofafaaGreatRows
namespace Go.Proofs.YtaaaipgdnofafaaGreat
set_option linter.all false
open Go Go.Cat Go.ChangeShapes Go.WideShapes Go.RowKit Go.Proofs
set_option maxRecDepth 100000
local instance : Mono := ⟨False⟩
local instance : Off := ⟨id⟩
theorem chainMakes_pure (H : ∀ (p_id : Int) (p_l : List Int) (p_down : List Bool) (p_data : List UInt8) (p_ver : Int), ok_i64 p_id → okL_encI p_l → okA_ok_bool_6 p_down → okL_cU8 p_data → ok_i64 p_ver → law26_ChainMakes p_id p_l p_down p_data p_ver = some true) : ∀ xs, DatL Tryz.prog [3, 22, 23, 24, 3] xs → Pure Tryz.prog 3 xs (.v (.bool true)) := by
 intro xs h
 obtain ⟨v0, ys0, e0, d0, h0⟩ := h.cons_inv
 subst e0
 have q0 := d0.one (by kernel_rfl)
 obtain ⟨x0, k0, o0⟩ := dat_i64 (by kernel_rfl) q0
 have f0 := (List.cons.inj k0).1
 subst f0
 obtain ⟨v1, ys1, e1, d1, h1⟩ := h0.cons_inv
 subst e1
 have q1 := d1.one (by kernel_rfl)
 obtain ⟨x1, k1, o1⟩ := datL_encI (by kernel_rfl) q1
 have f1 := (List.cons.inj k1).1
 subst f1
 obtain ⟨v2, ys2, e2, d2, h2⟩ := h1.cons_inv
 subst e2
 obtain ⟨cs2, f2, q2⟩ := d2.agg (by kernel_rfl)
 obtain ⟨x2, k2, o2⟩ := datA_okA_ok_bool_6 (by kernel_rfl) q2
 subst f2 k2
 obtain ⟨v3, ys3, e3, d3, h3⟩ := h2.cons_inv
 subst e3
 have q3 := d3.one (by kernel_rfl)
 obtain ⟨x3, k3, o3⟩ := datL_cU8 (by kernel_rfl) q3
 have f3 := (List.cons.inj k3).1
 subst f3
 obtain ⟨v4, ys4, e4, d4, h4⟩ := h3.cons_inv
 subst e4
 have q4 := d4.one (by kernel_rfl)
 obtain ⟨x4, k4, o4⟩ := dat_i64 (by kernel_rfl) q4
 have f4 := (List.cons.inj k4).1
 subst f4
 have e := h4.nil_inv
 subst e
 exact w_law26_ChainMakes (H x0 x1 x2 x3 x4 o0 o1 o2 o3 o4)
theorem chainMakes_lifted (h : ∀ xs, DatL Tryz.prog [3, 22, 23, 24, 3] xs → Pure Tryz.prog 3 xs (.v (.bool true))) (os : Os) (started : os.Started) (H : Type) (enc : TypeId × Value → H) :
  ReturnsInHanded {} Tryz.checked os 3 .any (Rows.chainMakesSpec.pre6 enc Tryz.prog Tryz.f3 [] false) (Rows.chainMakesSpec.post enc Tryz.prog Tryz.f3 false true false false) :=
 law_handed (C := Tryz.checked) (s := Rows.chainMakesSpec) (tb := 4) (by kernel_rfl) (by kernel_rfl) started (by kernel_rfl) Tryz.func3
   (ChangeSpec.witness6 (enc := enc) (C := Tryz.checked) false ⟨#[], #[.int .i64 0, .slice none 0 0, .agg #[.bool false, .bool false, .bool false, .bool false, .bool false, .bool false], .slice none 0 0, .int .i64 0], []⟩ 8 (by kernel_rfl) (by kernel_rfl) (by kernel_rfl) (by kernel_rfl))
   rfl (fun ds hds => match ds, hds with | [_, _, _, _, _], _ => rfl) rfl (by kernel_rfl) (by kernel_rfl) h
theorem chainMakes_row (h : ∀ xs, DatL Tryz.prog [3, 22, 23, 24, 3] xs → Pure Tryz.prog 3 xs (.v (.bool true))) : Rows.ChainMakesSaid :=
 OpenClaim.holds_of_wide 3 Tryz.f3 rfl rfl rfl rfl rfl rfl rfl ⟨rfl, rfl, rfl, rfl, rfl⟩ rfl rfl rfl rfl rfl (by kernel_rfl) Tryz.func3 (by kernel_rfl)
  (of_decide_eq_true (by kernel_rfl)) (by unfold Func.isWrapper; first | (rw [if_pos (by decide +kernel)]; kernel_rfl) | (rw [if_neg (by decide +kernel)]; exact ⟨rfl, rfl⟩))
  (fun os started H enc _ => chainMakes_lifted h os started H enc)
end Go.Proofs.YtaaaipgdnofafaaGreat
