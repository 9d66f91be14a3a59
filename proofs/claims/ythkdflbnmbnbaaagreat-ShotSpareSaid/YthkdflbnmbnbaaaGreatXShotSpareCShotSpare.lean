/- The row of ShotSpare out of its plain program. No condition. -/
import Derived.Test.YthkdflbnmbnbaaaGreatXShotSpareIn
import Derived.Test.YthkdflbnmbnbaaaGreatXShotSpareWk0
import Derived.Test.YthkdflbnmbnbaaaGreatXShotSpareWk1
import Derived.Test.YthkdflbnmbnbaaaGreatXShotSpareWk2
import Derived.Test.YthkdflbnmbnbaaaGreatXShotSpareWk3
import Derived.Test.YthkdflbnmbnbaaaGreatXShotSpareWk4
import Derived.Test.YthkdflbnmbnbaaaGreatXShotSpareWk5
import Derived.Test.YthkdflbnmbnbaaaGreatRows
namespace Go.Proofs.YthkdflbnmbnbaaaGreat
set_option linter.all false
open Go Go.Cat Go.ChangeShapes Go.WideShapes Go.RowKit Go.Proofs
set_option maxRecDepth 100000
local instance:Mono:=⟨False⟩
local instance:Off:=⟨id⟩
theorem shotSpare_pure (H:∀(p_l:List law10_Act),okL_c_law10_Act p_l→law10_ShotSpare p_l=some true):∀xs,DatL Tryz.prog [22] xs→Pure Tryz.prog 6 xs (.v (.bool true)):=by
 intro xs h
 obtain ⟨v0,ys0,e0,d0,h0⟩:=h.cons_inv
 subst e0
 have q0:=d0.one (by kernel_rfl)
 obtain ⟨x0,k0,o0⟩:=datL_c_law10_Act (by kernel_rfl) q0
 have f0:=(List.cons.inj k0).1
 subst f0
 have e:=h0.nil_inv
 subst e
 exact w_law10_ShotSpare (H x0 o0)
theorem shotSpare_lifted (h:∀xs,DatL Tryz.prog [22] xs→Pure Tryz.prog 6 xs (.v (.bool true))) (os:Os) (started:os.Started) (H:Type) (enc:TypeId×Value→H) :
  ReturnsInHanded {} Tryz.checked os 6 .any (Rows.shotSpareSpec.pre6 enc Tryz.prog Tryz.f6 [] false) (Rows.shotSpareSpec.post enc Tryz.prog Tryz.f6 false true false false) :=
 law_handed (C:=Tryz.checked) (s:=Rows.shotSpareSpec) (tb:=4) (by kernel_rfl) (by kernel_rfl) started (by kernel_rfl) Tryz.func6
   (ChangeSpec.witness6 (enc:=enc) (C:=Tryz.checked) false ⟨#[],#[.slice none 0 0],[]⟩ 8 (by kernel_rfl) (by kernel_rfl) (by kernel_rfl) (by kernel_rfl))
   rfl (fun ds hds=>match ds,hds with | [_],_=>rfl) rfl (by kernel_rfl) (by kernel_rfl) h
theorem shotSpare_row (h:∀xs,DatL Tryz.prog [22] xs→Pure Tryz.prog 6 xs (.v (.bool true))):Rows.ShotSpareSaid :=
 OpenClaim.holds_of_wide 6 Tryz.f6 rfl rfl rfl rfl rfl rfl rfl ⟨rfl,rfl,rfl,rfl,rfl⟩ rfl rfl rfl rfl rfl (by kernel_rfl) Tryz.func6 (by kernel_rfl)
  (of_decide_eq_true (by kernel_rfl)) (by unfold Func.isWrapper; first | (rw [if_pos (by decide +kernel)]; kernel_rfl) | (rw [if_neg (by decide +kernel)]; exact ⟨rfl,rfl⟩))
  (fun os started H enc _=>shotSpare_lifted h os started H enc)
end Go.Proofs.YthkdflbnmbnbaaaGreat
