/- The row of ShotTaken out of its plain program. No condition. -/
import Derived.Test.YthkdflbnmbnbaaaGreatXShotTakenIn
import Derived.Test.YthkdflbnmbnbaaaGreatXShotTakenWk0
import Derived.Test.YthkdflbnmbnbaaaGreatXShotTakenWk1
import Derived.Test.YthkdflbnmbnbaaaGreatXShotTakenWk2
import Derived.Test.YthkdflbnmbnbaaaGreatXShotTakenWk3
import Derived.Test.YthkdflbnmbnbaaaGreatXShotTakenWk4
import Derived.Test.YthkdflbnmbnbaaaGreatXShotTakenWk5
import Derived.Test.YthkdflbnmbnbaaaGreatRows
namespace Go.Proofs.YthkdflbnmbnbaaaGreat
set_option linter.all false
open Go Go.Cat Go.ChangeShapes Go.WideShapes Go.RowKit Go.Proofs
set_option maxRecDepth 100000
local instance:Mono:=⟨False⟩
local instance:Off:=⟨id⟩
theorem shotTaken_pure (H:∀(p_l:List law10_Act) (p_n:UInt8),okL_c_law10_Act p_l→ok_u8 p_n→law10_ShotTaken p_l p_n=some true):∀xs,DatL Tryz.prog [22,5] xs→Pure Tryz.prog 5 xs (.v (.bool true)):=by
 intro xs h
 obtain ⟨v0,ys0,e0,d0,h0⟩:=h.cons_inv
 subst e0
 have q0:=d0.one (by kernel_rfl)
 obtain ⟨x0,k0,o0⟩:=datL_c_law10_Act (by kernel_rfl) q0
 have f0:=(List.cons.inj k0).1
 subst f0
 obtain ⟨v1,ys1,e1,d1,h1⟩:=h0.cons_inv
 subst e1
 have q1:=d1.one (by kernel_rfl)
 obtain ⟨x1,k1,o1⟩:=dat_u8 (by kernel_rfl) q1
 have f1:=(List.cons.inj k1).1
 subst f1
 have e:=h1.nil_inv
 subst e
 exact w_law10_ShotTaken (H x0 x1 o0 o1)
theorem shotTaken_lifted (h:∀xs,DatL Tryz.prog [22,5] xs→Pure Tryz.prog 5 xs (.v (.bool true))) (os:Os) (started:os.Started) (H:Type) (enc:TypeId×Value→H) :
  ReturnsInHanded {} Tryz.checked os 5 .any (Rows.shotTakenSpec.pre6 enc Tryz.prog Tryz.f5 [] false) (Rows.shotTakenSpec.post enc Tryz.prog Tryz.f5 false true false false) :=
 law_handed (C:=Tryz.checked) (s:=Rows.shotTakenSpec) (tb:=4) (by kernel_rfl) (by kernel_rfl) started (by kernel_rfl) Tryz.func5
   (ChangeSpec.witness6 (enc:=enc) (C:=Tryz.checked) false ⟨#[],#[.slice none 0 0,.int .u8 0],[]⟩ 8 (by kernel_rfl) (by kernel_rfl) (by kernel_rfl) (by kernel_rfl))
   rfl (fun ds hds=>match ds,hds with | [_,_],_=>rfl) rfl (by kernel_rfl) (by kernel_rfl) h
theorem shotTaken_row (h:∀xs,DatL Tryz.prog [22,5] xs→Pure Tryz.prog 5 xs (.v (.bool true))):Rows.ShotTakenSaid :=
 OpenClaim.holds_of_wide 5 Tryz.f5 rfl rfl rfl rfl rfl rfl rfl ⟨rfl,rfl,rfl,rfl,rfl⟩ rfl rfl rfl rfl rfl (by kernel_rfl) Tryz.func5 (by kernel_rfl)
  (of_decide_eq_true (by kernel_rfl)) (by unfold Func.isWrapper; first | (rw [if_pos (by decide +kernel)]; kernel_rfl) | (rw [if_neg (by decide +kernel)]; exact ⟨rfl,rfl⟩))
  (fun os started H enc _=>shotTaken_lifted h os started H enc)
end Go.Proofs.YthkdflbnmbnbaaaGreat
