/- The row of TopUnseen out of its plain program. No condition. -/
import Derived.LaidLaws
import Derived.LaidHandle
import Derived.Stop.Joined
import Derived.Test.YtdcgbodbejgliaaGreatDoorXTopUnseenJf
import Derived.Test.YtdcgbodbejgliaaGreatDoorXTopUnseenIn
import Derived.Test.YtdcgbodbejgliaaGreatDoorXTopUnseenWk0
import Derived.Test.YtdcgbodbejgliaaGreatDoorXTopUnseenWk1
import Derived.Test.YtdcgbodbejgliaaGreatDoorXTopUnseenWk2
import Derived.Test.YtdcgbodbejgliaaGreatDoorXTopUnseenWk3
import Derived.Test.YtdcgbodbejgliaaGreatDoorXTopUnseenWk4
import Derived.Test.YtdcgbodbejgliaaGreatDoorXTopUnseenWk5
import Derived.Test.YtdcgbodbejgliaaGreatDoorXTopUnseenWk6
import Derived.Test.YtdcgbodbejgliaaGreatDoorXTopUnseenWk7
import Derived.Test.YtdcgbodbejgliaaGreatDoorXTopUnseenWk8
import Derived.Test.YtdcgbodbejgliaaGreatDoorRows
namespace Go.Proofs.YtdcgbodbejgliaaGreatDoor
set_option linter.all false
open Go Go.Cat Go.ChangeShapes Go.WideShapes Go.RowKit Go.Proofs
set_option maxRecDepth 100000
local instance:bK:=⟨False⟩
local instance:oV:=⟨id⟩
theorem ahX (H:∀(Wc:List bN) (V0:UInt8) (Wj:List UInt8),Jf Wc→E8 V0→E7 Wj→Gd Wc V0 Wj=some true):∀xs,oi Tryz.prog [22,5,9] xs→Pure Tryz.prog 4 xs (.v (.bool true)):=by
 intro xs h
 obtain ⟨v0,ys0,e0,d0,h0⟩:=h.cons_inv
 subst e0
 have q0:=d0.one (by kernel_rfl)
 obtain ⟨x0,k0,o0⟩:=aaj (by kernel_rfl) q0
 have f0:=(List.cons.inj k0).1
 subst f0
 obtain ⟨v1,ys1,e1,d1,h1⟩:=h0.cons_inv
 subst e1
 have q1:=d1.one (by kernel_rfl)
 obtain ⟨x1,k1,o1⟩:=Sb (by kernel_rfl) q1
 have f1:=(List.cons.inj k1).1
 subst f1
 obtain ⟨v2,ys2,e2,d2,h2⟩:=h1.cons_inv
 subst e2
 have q2:=d2.one (by kernel_rfl)
 obtain ⟨x2,k2,o2⟩:=LL (by kernel_rfl) q2
 have f2:=(List.cons.inj k2).1
 subst f2
 have e:=h2.Ou
 subst e
 exact ajh (H x0 x1 x2 o0 o1 o2)
theorem adB : Rows.topUnseenRow.laid = [("errors.errorType", .iface "internal/reflectlite.rtype" (.agg [.ptr (.lit (.string [101, 114, 114, 111, 114]))]))] := rfl
theorem aa7 : Tryz.prog.globalNamed "errors.errorType" = some 0 := by kernel_rfl
theorem agn : (Tryz.prog.cutTypes.find? (·.1 == "internal/reflectlite.rtype")).map (·.2) = some 173 := by kernel_rfl
theorem aep:((List.range 393).filter fun t=>Tryz.prog.rowNamed t [101,114,114,111,114])=[68]:=by kernel_rfl
theorem ah3:Tryz.prog.types.size=393:=by kernel_rfl
theorem abu {W:World} (h:laidMetH Tryz.prog Rows.topUnseenRow.laid W):W.cell? ⟨0,0,none⟩=some (.iface 173 (.agg #[.pointer (some ⟨2,68,none⟩)])):=by
 rw [adB] at h
 obtain ⟨name,u,ty,e1,e2,e3,e4,e5⟩:=h.2 _ (List.mem_singleton.2 rfl)
 have en:name=[101,114,114,111,114]:=(Option.some.inj e1).symm
 subst en
 obtain rfl:=Option.some.inj (agn.symm.trans e2)
 have hm:ty∈(List.range 393).filter fun t=>Tryz.prog.rowNamed t [101,114,114,111,114]:=List.mem_filter.2 ⟨List.mem_range.2 (by rw [←ah3]; exact e3),e4⟩
 rw [aep] at hm
 obtain rfl:=List.mem_singleton.1 hm
 have hh:typeHandle Tryz.prog 68=.pointer (some ⟨2,68,none⟩):=by kernel_rfl
 rw [hh] at e5
 simpa using World.var?_cell aa7 e5 0
theorem abk {W:World} (h:laidMetH Tryz.prog Rows.topUnseenRow.laid W):cL.ok W (Old W):=fun b v hm=>by
 obtain ⟨rfl,rfl⟩:=Prod.mk.inj (List.mem_singleton.1 hm)
 have e:=abu h
 exact ⟨aaa e,e⟩
noncomputable def Vk (os:Os):World :=
 let w0:=World.holding Tryz.prog os ⟨#[],#[],[]⟩
 { w0 with heap:=w0.heap.modify 0 fun
   | .cells _ t frozen=>.cells #[.iface 173 (.agg #[.pointer (some ⟨2,68,none⟩)])] t frozen
   | o=>o }
theorem adA (os:Os) (args:Array Value):laidMetH Tryz.prog Rows.topUnseenRow.laid ((Vk os).forCall (fun _ _=>0) ⟨#[],args,[]⟩).memory :=
 laidMetH_of_parts (laidMet_nil _ _) (by kernel_rfl)
theorem ahW (h:∀xs,oi Tryz.prog [22,5,9] xs→Pure Tryz.prog 4 xs (.v (.bool true))) (os:Os) (started:os.Started) (H:Type) (enc:TypeId×Value→H) :
  ReturnsInHanded {} Tryz.checked os 4 .any (fun w args=>(Rows.topUnseenSpec.pre enc Tryz.prog Tryz.f4 [] false w args∧laidMetH Tryz.prog Rows.topUnseenRow.laid w)∧sizedMet enc Tryz.prog Tryz.f4 (OpenSpec.ofChange Rows.topUnseenSpec) false w args) (Rows.topUnseenSpec.post enc Tryz.prog Tryz.f4 false true false false) :=
 adE (C:=Tryz.checked) (s:=Rows.topUnseenSpec) (tb:=4) (X:=fun w=>laidMetH Tryz.prog Rows.topUnseenRow.laid w) (fun _ _ hh h=>laidMetH.of_heap hh h) (by kernel_rfl) (by kernel_rfl) started (by kernel_rfl) Tryz.func4
   (ChangeSpec.witness_at (enc:=enc) (C:=Tryz.checked) (os:=os) (X:=fun w _=>laidMetH Tryz.prog Rows.topUnseenRow.laid w) false (Vk os) #[.slice none 0 0,.int .u8 0,.string ⟨#[]⟩] 8 rfl (by kernel_rfl) (by kernel_rfl) (by kernel_rfl) (by kernel_rfl) (by kernel_rfl) (adA os _))
   rfl (fun ds Eh=>match ds,Eh with | [_,_,_],_=>rfl) rfl (by kernel_rfl) (by kernel_rfl) (fun _ hx=>abk hx) h
theorem ahY (h:∀xs,oi Tryz.prog [22,5,9] xs→Pure Tryz.prog 4 xs (.v (.bool true))):Rows.TopUnseenSaid :=
 OpenClaim.holds_of_wide 4 Tryz.f4 rfl rfl rfl rfl rfl rfl rfl ⟨rfl,rfl,rfl,rfl,rfl⟩ rfl rfl rfl rfl rfl (by kernel_rfl) Tryz.func4 jf
  (of_decide_eq_true (by kernel_rfl)) (by unfold Func.isWrapper; first | (rw [if_pos (by decide +kernel)]; kernel_rfl) | (rw [if_neg (by decide +kernel)]; exact ⟨rfl,rfl⟩))
  (fun os started H enc _=>ahW h os started H enc)
end Go.Proofs.YtdcgbodbejgliaaGreatDoor
