/- The row of ChainTells out of its plain program. No condition. -/
import Derived.Test.YtaaaipgdnofafaaGreatXChainTellsIn
import Derived.Test.YtaaaipgdnofafaaGreatXChainTellsWk0
import Derived.Test.YtaaaipgdnofafaaGreatXChainTellsWk1
import Derived.Test.YtaaaipgdnofafaaGreatXChainTellsWk2
import Derived.Test.YtaaaipgdnofafaaGreatXChainTellsWk3
import Derived.Test.YtaaaipgdnofafaaGreatXChainTellsWk4
import Derived.Test.YtaaaipgdnofafaaGreatXChainTellsWk5
import Derived.Test.YtaaaipgdnofafaaGreatRows
namespace Go.Proofs.YtaaaipgdnofafaaGreat
set_option linter.all false
open Go Go.Cat Go.ChangeShapes Go.WideShapes Go.RowKit Go.Proofs
set_option maxRecDepth 100000
local instance:Mono:=⟨False⟩
local instance:Off:=⟨id⟩
theorem chainTells_pure (H:∀(p_length:UInt8) (p_l:List law26_Act) (p_who:Int) (p_data:List UInt8),ok_u8 p_length→okL_c_law26_Act p_l→ok_i64 p_who→okL_cU8 p_data→law26N1 p_length p_l p_who p_data=some true):∀xs,DatL Tryz.prog [5,44,3,24] xs→Pure Tryz.prog 4 xs (.v (.bool true)):=by
 intro xs h
 obtain ⟨v0,ys0,e0,d0,h0⟩:=h.cons_inv
 subst e0
 have q0:=d0.one (by kernel_rfl)
 obtain ⟨x0,k0,o0⟩:=dat_u8 (by kernel_rfl) q0
 have f0:=(List.cons.inj k0).1
 subst f0
 obtain ⟨v1,ys1,e1,d1,h1⟩:=h0.cons_inv
 subst e1
 have q1:=d1.one (by kernel_rfl)
 obtain ⟨x1,k1,o1⟩:=datL_c_law26_Act (by kernel_rfl) q1
 have f1:=(List.cons.inj k1).1
 subst f1
 obtain ⟨v2,ys2,e2,d2,h2⟩:=h1.cons_inv
 subst e2
 have q2:=d2.one (by kernel_rfl)
 obtain ⟨x2,k2,o2⟩:=dat_i64 (by kernel_rfl) q2
 have f2:=(List.cons.inj k2).1
 subst f2
 obtain ⟨v3,ys3,e3,d3,h3⟩:=h2.cons_inv
 subst e3
 have q3:=d3.one (by kernel_rfl)
 obtain ⟨x3,k3,o3⟩:=datL_cU8 (by kernel_rfl) q3
 have f3:=(List.cons.inj k3).1
 subst f3
 have e:=h3.nil_inv
 subst e
 exact w_law26N1 (H x0 x1 x2 x3 o0 o1 o2 o3)
theorem chainTells_lifted (h:∀xs,DatL Tryz.prog [5,44,3,24] xs→Pure Tryz.prog 4 xs (.v (.bool true))) (os:Os) (started:os.Started) (H:Type) (enc:TypeId×Value→H) :
  ReturnsInHanded {} Tryz.checked os 4 .any (Rows.chainTellsSpec.pre6 enc Tryz.prog Tryz.f4 [] false) (Rows.chainTellsSpec.post enc Tryz.prog Tryz.f4 false true false false) :=
 law_handed (C:=Tryz.checked) (s:=Rows.chainTellsSpec) (tb:=4) (by kernel_rfl) (by kernel_rfl) started (by kernel_rfl) Tryz.func4
   (ChangeSpec.witness6 (enc:=enc) (C:=Tryz.checked) false ⟨#[],#[.int .u8 0,.slice none 0 0,.int .i64 0,.slice none 0 0],[]⟩ 8 (by kernel_rfl) (by kernel_rfl) (by kernel_rfl) (by kernel_rfl))
   rfl (fun ds hds=>match ds,hds with | [_,_,_,_],_=>rfl) rfl (by kernel_rfl) (by kernel_rfl) h
theorem chainTells_row (h:∀xs,DatL Tryz.prog [5,44,3,24] xs→Pure Tryz.prog 4 xs (.v (.bool true))):Rows.ChainTellsSaid :=
 OpenClaim.holds_of_wide 4 Tryz.f4 rfl rfl rfl rfl rfl rfl rfl ⟨rfl,rfl,rfl,rfl,rfl⟩ rfl rfl rfl rfl rfl (by kernel_rfl) Tryz.func4 (by kernel_rfl)
  (of_decide_eq_true (by kernel_rfl)) (by unfold Func.isWrapper; first | (rw [if_pos (by decide +kernel)]; kernel_rfl) | (rw [if_neg (by decide +kernel)]; exact ⟨rfl,rfl⟩))
  (fun os started H enc _=>chainTells_lifted h os started H enc)
end Go.Proofs.YtaaaipgdnofafaaGreat
