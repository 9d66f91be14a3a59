/- The row of TopClients out of its plain program. No condition. -/
import Derived.LaidLaws
import Derived.LaidHandle
import Derived.Stop.Joined
import Derived.Test.YtdcgbodbejgliaaGreatDoorXTopClientsJf
import Derived.Test.YtdcgbodbejgliaaGreatDoorXTopClientsIn
import Derived.Test.YtdcgbodbejgliaaGreatDoorXTopClientsWk0
import Derived.Test.YtdcgbodbejgliaaGreatDoorXTopClientsWk1
import Derived.Test.YtdcgbodbejgliaaGreatDoorXTopClientsWk2
import Derived.Test.YtdcgbodbejgliaaGreatDoorXTopClientsWk3
import Derived.Test.YtdcgbodbejgliaaGreatDoorXTopClientsWk4
import Derived.Test.YtdcgbodbejgliaaGreatDoorXTopClientsWk5
import Derived.Test.YtdcgbodbejgliaaGreatDoorXTopClientsWk6
import Derived.Test.YtdcgbodbejgliaaGreatDoorXTopClientsWk7
import Derived.Test.YtdcgbodbejgliaaGreatDoorXTopClientsWk8
import Derived.Test.YtdcgbodbejgliaaGreatDoorRows
namespace Go.Proofs.YtdcgbodbejgliaaGreatDoor
set_option linter.all false
open Go Go.Cat Go.ChangeShapes Go.WideShapes Go.RowKit Go.Proofs
set_option maxRecDepth 100000
local instance:bM:=⟨False⟩
local instance:oY:=⟨id⟩
theorem ah_ (H:∀(Wr:List bF),Jy Wr→Gm Wr=some true):∀xs,oi Tryz.prog [22] xs→Pure Tryz.prog 6 xs (.v (.bool true)):=by
 intro xs h
 obtain ⟨v0,ys0,e0,d0,h0⟩:=h.cons_inv
 subst e0
 have q0:=d0.one (by kernel_rfl)
 obtain ⟨x0,k0,o0⟩:=aav (by kernel_rfl) q0
 have f0:=(List.cons.inj k0).1
 subst f0
 have e:=h0.OO
 subst e
 exact ajq (H x0 o0)
theorem adQ : Rows.topClientsRow.laid = [("errors.errorType", .iface "internal/reflectlite.rtype" (.agg [.ptr (.lit (.string [101, 114, 114, 111, 114]))]))] := rfl
theorem abi : Tryz.prog.globalNamed "errors.errorType" = some 0 := by kernel_rfl
theorem agB : (Tryz.prog.cutTypes.find? (·.1 == "internal/reflectlite.rtype")).map (·.2) = some 173 := by kernel_rfl
theorem aeF:((List.range 393).filter fun t=>Tryz.prog.rowNamed t [101,114,114,111,114])=[68]:=by kernel_rfl
theorem aie:Tryz.prog.types.size=393:=by kernel_rfl
theorem abI {W:World} (h:laidMetH Tryz.prog Rows.topClientsRow.laid W):W.cell? ⟨0,0,none⟩=some (.iface 173 (.agg #[.pointer (some ⟨2,68,none⟩)])):=by
 rw [adQ] at h
 obtain ⟨name,u,ty,e1,e2,e3,e4,e5⟩:=h.2 _ (List.mem_singleton.2 rfl)
 have en:name=[101,114,114,111,114]:=(Option.some.inj e1).symm
 subst en
 obtain rfl:=Option.some.inj (agB.symm.trans e2)
 have hm:ty∈(List.range 393).filter fun t=>Tryz.prog.rowNamed t [101,114,114,111,114]:=List.mem_filter.2 ⟨List.mem_range.2 (by rw [←aie]; exact e3),e4⟩
 rw [aeF] at hm
 obtain rfl:=List.mem_singleton.1 hm
 have hh:typeHandle Tryz.prog 68=.pointer (some ⟨2,68,none⟩):=by kernel_rfl
 rw [hh] at e5
 simpa using World.var?_cell abi e5 0
theorem abz {W:World} (h:laidMetH Tryz.prog Rows.topClientsRow.laid W):cK.ok W (Old W):=fun b v hm=>by
 obtain ⟨rfl,rfl⟩:=Prod.mk.inj (List.mem_singleton.1 hm)
 have e:=abI h
 exact ⟨aam e,e⟩
noncomputable def Vv (os:Os):World :=
 let w0:=World.holding Tryz.prog os ⟨#[],#[],[]⟩
 { w0 with heap:=w0.heap.modify 0 fun
   | .cells _ t frozen=>.cells #[.iface 173 (.agg #[.pointer (some ⟨2,68,none⟩)])] t frozen
   | o=>o }
theorem adP (os:Os) (args:Array Value):laidMetH Tryz.prog Rows.topClientsRow.laid ((Vv os).forCall (fun _ _=>0) ⟨#[],args,[]⟩).memory :=
 laidMetH_of_parts (laidMet_nil _ _) (by kernel_rfl)
theorem ah9 (h:∀xs,oi Tryz.prog [22] xs→Pure Tryz.prog 6 xs (.v (.bool true))) (os:Os) (started:os.Started) (H:Type) (enc:TypeId×Value→H) :
  ReturnsInHanded {} Tryz.checked os 6 .any (fun w args=>(Rows.topClientsSpec.pre enc Tryz.prog Tryz.f6 [] false w args∧laidMetH Tryz.prog Rows.topClientsRow.laid w)∧sizedMet enc Tryz.prog Tryz.f6 (OpenSpec.ofChange Rows.topClientsSpec) false w args) (Rows.topClientsSpec.post enc Tryz.prog Tryz.f6 false true false false) :=
 adT (C:=Tryz.checked) (s:=Rows.topClientsSpec) (tb:=4) (X:=fun w=>laidMetH Tryz.prog Rows.topClientsRow.laid w) (fun _ _ hh h=>laidMetH.of_heap hh h) (by kernel_rfl) (by kernel_rfl) started (by kernel_rfl) Tryz.func6
   (ChangeSpec.witness_at (enc:=enc) (C:=Tryz.checked) (os:=os) (X:=fun w _=>laidMetH Tryz.prog Rows.topClientsRow.laid w) false (Vv os) #[.slice none 0 0] 8 rfl (by kernel_rfl) (by kernel_rfl) (by kernel_rfl) (by kernel_rfl) (by kernel_rfl) (adP os _))
   rfl (fun ds Es=>match ds,Es with | [_],_=>rfl) rfl (by kernel_rfl) (by kernel_rfl) (fun _ hx=>abz hx) h
theorem ah' (h:∀xs,oi Tryz.prog [22] xs→Pure Tryz.prog 6 xs (.v (.bool true))):Rows.TopClientsSaid :=
 OpenClaim.holds_of_wide 6 Tryz.f6 rfl rfl rfl rfl rfl rfl rfl ⟨rfl,rfl,rfl,rfl,rfl⟩ rfl rfl rfl rfl rfl (by kernel_rfl) Tryz.func6 jf
  (of_decide_eq_true (by kernel_rfl)) (by unfold Func.isWrapper; first | (rw [if_pos (by decide +kernel)]; kernel_rfl) | (rw [if_neg (by decide +kernel)]; exact ⟨rfl,rfl⟩))
  (fun os started H enc _=>ah9 h os started H enc)
end Go.Proofs.YtdcgbodbejgliaaGreatDoor
