/- errors.As at the number type of fs.Do: lines of the kit's worked proof, turned to this translation. No condition. -/
import Derived.Test.YtdcgbodbejgliaaGreatDoorXTopThereAndBackEn
import Derived.WalkKit
import Derived.LaidEql
import Derived.Stop.Asserts
import Derived.RowKitTokens
set_option linter.all false
open Option renaming some->V
open Go renaming method->KI
open Go.Result renaming andThen->CF
open Go.Sem renaming run_bind->kP
open Go.World renaming cell?_alloc_lt->zV,frozen?_alloc_old->K2
namespace Go.Proofs.As11
open Go.Proofs.Tryz
set_option linter.all false
open Go Go.RowKit Go.Extern.Stop Go.Stop Go.Extern
def ahR(t:Addr)(w:World):(ReflectliteValue.unpack (.iface 71 (.pointer (V t)))).run prog w
  = .ok (.agg #[.pointer (V ⟨2,71,none⟩),.pointer (V ⟨w.heap.size,0,none⟩),.int .u64 150]) (w.alloc (.cells #[.pointer (V t)] 71)):=by kernel_rfl
def type71(a:Addr)(w:World):(ReflectliteValue.methodAny (ReflectliteValue.valueError "reflectlite.Value.Type" 0) (λt _ _ _ => ReflectliteType.toType t) #[.agg #[.pointer (V ⟨2,71,none⟩),.pointer (V a),.int .u64 150]]).run prog w
  = .ok (.iface 173 (.agg #[.pointer (V ⟨2,71,none⟩)])) w:=by kernel_rfl
def aeC(h:Value)(w:World):(KI 493 173 (.agg #[h]) "Kind").run prog w=.ok (344,h) w:=by kernel_rfl
def aee(w:World):((ReflectliteType.abiMethod λt=>(λa:Nat=>Value.int IntKind.u8 (a:Int)) <$> Rtype.kind t) #[.pointer (V ⟨2,71,none⟩)]).run prog w=.ok (.int .u8 22) w:=by kernel_rfl
def aed(w:World):((ReflectliteType.abiMethod λt=>(λa:Nat=>Value.int IntKind.u8 (a:Int)) <$> Rtype.kind t) #[.pointer (V ⟨2,45,none⟩)]).run prog w=.ok (.int .u8 2) w:=by kernel_rfl
def X1(z:Sem Value)(f:TypeId->Addr->Nat->Nat->Sem Value)(v:Value):
  ReflectliteValue.method z f #[v]=(do match <-ReflectliteValue.parts v with|none=>z|some (t,a,fl)=>f t a fl (fl % 32)):=rfl
def WO(a:Addr)(w:World):(ReflectliteValue.parts (.agg #[.pointer (V ⟨2,71,none⟩),.pointer (V a),.int .u64 150])).run prog w=.ok (V (71,a,150)) w:=by kernel_rfl
def aeb(a p:Addr)(W:World)(ha:W.cell? a=V (.pointer (V p))):
  (ReflectliteValue.method (ReflectliteValue.valueError "reflectlite.Value.IsNil" 0) ReflectliteValue.isNil #[.agg #[.pointer (V ⟨2,71,none⟩),.pointer (V a),.int .u64 150]]).run prog W=.ok (.bool false) W:=by
 rw[X1];simp only[kP,WO,CF];simp[ReflectliteValue.isNil,loadVar,isAgg,underlying,underlying71,ha,CF]
def aeA(h:Value)(w:World):(KI 493 173 (.agg #[h]) "Elem").run prog w=.ok (354,.agg #[h]) w:=by kernel_rfl
def aeB(h:Value)(w:World):(KI 493 173 (.agg #[h]) "Implements").run prog w=.ok (355,.agg #[h]) w:=by kernel_rfl
def aez(h:Value)(w:World):(KI 493 173 (.agg #[h]) "AssignableTo").run prog w=.ok (352,.agg #[h]) w:=by kernel_rfl
def abY(w:World):(ReflectliteType.method ReflectliteType.elem #[.agg #[.pointer (V ⟨2,71,none⟩)]]).run prog w=.ok (.iface 173 (.agg #[.pointer (V ⟨2,45,none⟩)])) w:=by kernel_rfl
def adZ(w:World):(ReflectliteType.relation "Implements" ReflectliteType.implements_ #[.agg #[.pointer (V ⟨2,45,none⟩)],.iface 173 (.agg #[.pointer (V ⟨2,68,none⟩)])]).run prog w=.ok (.bool true) w:=by kernel_rfl
def ahI(v:Value)(w:World):(ReflectliteType.typeOf #[.iface 45 v]).run prog w=.ok (.iface 173 (.agg #[.pointer (V ⟨2,45,none⟩)])) w:=by kernel_rfl
def aaB(w:World):(ReflectliteType.relation "AssignableTo" ReflectliteType.assignableTo #[.agg #[.pointer (V ⟨2,45,none⟩)],.iface 173 (.agg #[.pointer (V ⟨2,45,none⟩)])]).run prog w=.ok (.bool true) w:=by kernel_rfl
def ahQ(m:Int)(w:World):(ReflectliteValue.unpack (.iface 45 (.int .i64 m))).run prog w
  = .ok (.agg #[.pointer (V ⟨2,45,none⟩),.pointer (V ⟨w.heap.size,0,none⟩),.int .u64 130]) (w.alloc (.cells #[.int .i64 m] 45)):=by kernel_rfl
def abZ(w:World):(Rtype.elem? 71).run prog w=.ok (V 45) w:=by kernel_rfl
def aeD(p:Addr)(w:World):(ReflectliteValue.mk 45 p ReflectliteValue.flagAddr).run prog w=.ok (.agg #[.pointer (V ⟨2,45,none⟩),.pointer (V p),.int .u64 386]) w:=by kernel_rfl
def ab0(a p:Addr)(W:World)(ha:W.cell? a=V (.pointer (V p))):
  (ReflectliteValue.method (ReflectliteValue.valueError "reflectlite.Value.Elem" 0) ReflectliteValue.elem #[.agg #[.pointer (V ⟨2,71,none⟩),.pointer (V a),.int .u64 150]]).run prog W
   = .ok (.agg #[.pointer (V ⟨2,45,none⟩),.pointer (V p),.int .u64 386]) W:=by
 rw[X1];simp only[kP,WO,CF];simp[ReflectliteValue.elem,loadVar,isAgg,underlying,underlying71,ha,CF,abZ,aeD]
def rls(v x:Value):ReflectliteValue.set #[v,x]=(do
  let(V (dst,a,fl),V (src,b,_)):=(<-ReflectliteValue.parts v,<-ReflectliteValue.parts x)
   | unsupported (.noEntry "extern/(internal/reflectlite.Value).Set.zeroValue")
  if fl / ReflectliteValue.flagAddr % 2 == 0 then unsupported (.noEntry "extern/(internal/reflectlite.Value).Set.unaddressable")
  let val <-loadVar src b
  if <-Rtype.directlyAssignable dst src then storeVar dst a val
  else if <-Rtype.implements dst src then
   if(<-Rtype.kind src)==20 then
    match val with
    | .nilIface => unsupported (.noEntry "extern/reflectlite: a nil value of one interface type handed on as a value of another")
    |_=>storeVar dst a val
   else storeVar dst a (.iface src val)
  else panicString ("reflectlite.Set: value of type " ++ (<- Rtype.spelt src) ++ " is not assignable to type " ++ (<- Rtype.spelt dst))
  pure (.tuple #[])):=rfl
def afI(a:Addr)(w:World):(ReflectliteValue.parts (.agg #[.pointer (V ⟨2,45,none⟩),.pointer (V a),.int .u64 386])).run prog w=.ok (V (45,a,386)) w:=by kernel_rfl
def afH(a:Addr)(w:World):(ReflectliteValue.parts (.agg #[.pointer (V ⟨2,45,none⟩),.pointer (V a),.int .u64 130])).run prog w=.ok (V (45,a,130)) w:=by kernel_rfl
def abd(w:World):(Rtype.directlyAssignable 45 45).run prog w=.ok true w:=by kernel_rfl
def agX(ta b:Addr)(m:Int)(old:Value)(W:World)(hb:W.cell? b=V (.int .i64 m))(ht:W.cell? ta=V old)(hf:W.frozen? ta=false):
  (ReflectliteValue.set #[.agg #[.pointer (V ⟨2,45,none⟩),.pointer (V ta),.int .u64 386],.agg #[.pointer (V ⟨2,45,none⟩),.pointer (V b),.int .u64 130]]).run prog W=.ok (.tuple #[]) (W.setCell ta (.int .i64 m)):=by
 rw[rls];simp only[kP,afI,afH,CF];simp[ReflectliteValue.flagAddr,loadVar,isAgg,underlying,underlying45,hb,CF,abd,storeVar,Value.cells,storeCells,Addr.add];rw[run_store prog W ta _ _ (by rfl)];simp[ht,hf]
set_option maxHeartbeats 4000000 in
def aaA(m:Int)(t:Addr)(old:Value)(w:World)(hg:w.cell? ⟨0,0,none⟩=V (.iface 173 (.agg #[.pointer (V ⟨2,68,none⟩)])))(Vh:w.cell? t=V old)(hf0:w.frozen? t=false):
  Calls prog 27 #[.iface 45 (.int .i64 m),.iface 71 (.pointer (V t))] w λev w'=>ev=.returned (.bool true)/\w'=((((w.alloc (.cells #[.pointer (V t)] 71)).alloc (.cells #[.pointer (V ⟨2,71,none⟩),.pointer (V ⟨w.heap.size,0,none⟩),.int .u64 150] 121)).alloc (.cells #[.pointer (V ⟨2,71,none⟩),.pointer (V ⟨w.heap.size,0,none⟩),.int .u64 150] 121)).alloc (.cells #[.int .i64 m] 45)).setCell t (.int .i64 m):=by
 have h6:=@run_callFunc_extern prog 58 _ (λargs=>ReflectliteValue.unpack (args.getD 0 (.tuple #[]))) func58 (by kernel_rfl) (by kernel_rfl) (by kernel_rfl) (by kernel_rfl);have h7:=@run_callFunc_extern prog 59 _ (ReflectliteValue.methodAny (ReflectliteValue.valueError "reflectlite.Value.Type" 0) (λt _ _ _ => ReflectliteType.toType t)) func59 (by kernel_rfl) (by kernel_rfl) (by kernel_rfl) (by kernel_rfl);have h8:=@run_callFunc_extern prog 60 _ (ReflectliteValue.method (ReflectliteValue.valueError "reflectlite.Value.IsNil" 0) ReflectliteValue.isNil) func60 (by kernel_rfl) (by kernel_rfl) (by kernel_rfl) (by kernel_rfl);have h27:=@run_callFunc_extern prog 344 _ (ReflectliteType.abiMethod λt=>do pure (.int .u8 (<-Rtype.kind t))) func344 (by kernel_rfl) (by kernel_rfl) (by kernel_rfl) (by kernel_rfl);have h37:=@run_callFunc_extern prog 354 _ (ReflectliteType.method ReflectliteType.elem) func354 (by kernel_rfl) (by kernel_rfl) (by kernel_rfl) (by kernel_rfl);have h38:=@run_callFunc_extern prog 355 _ (ReflectliteType.relation "Implements" ReflectliteType.implements_) func355 (by kernel_rfl) (by kernel_rfl) (by kernel_rfl) (by kernel_rfl);have HC:=@run_callFunc_extern prog 110 _ ReflectliteType.typeOf func110 (by kernel_rfl) (by kernel_rfl) (by kernel_rfl) (by kernel_rfl);have h35:=@run_callFunc_extern prog 352 _ (ReflectliteType.relation "AssignableTo" ReflectliteType.assignableTo) func352 (by kernel_rfl) (by kernel_rfl) (by kernel_rfl) (by kernel_rfl);have Ay:=@run_callFunc_extern prog 111 _ (ReflectliteValue.method (ReflectliteValue.valueError "reflectlite.Value.Elem" 0) ReflectliteValue.elem) func111 (by kernel_rfl) (by kernel_rfl) (by kernel_rfl) (by kernel_rfl);have oJ:=@run_callFunc_extern prog 112 _ ReflectliteValue.set func112 (by kernel_rfl) (by kernel_rfl) (by kernel_rfl) (by kernel_rfl);have tO:=ahI;have mA:=aez;have a25:=aaB;have v25:=ahQ;have f6:=ahR;have f7:=type71;have mK:=aeC;have mE:=aeA;have mI:=aeB;have VO:=aee;have N9:=aed;have e27:=abY;have i25:=adZ;have n8:=aeb ⟨w.heap.size,0,none⟩ t ((w.alloc (.cells #[.pointer (V t)] 71)).alloc (.cells #[.pointer (V ⟨2,71,none⟩),.pointer (V ⟨w.heap.size,0,none⟩),.int .u64 150] 121)) (by simp)
 have Ξ:0<w.heap.size:=by
  rcases Nat.eq_zero_or_pos w.heap.size with h0|h
  .simp[World.cell?,h0]at hg
  .exact h
 have az:((w.alloc (.cells #[.pointer (V t)] 71)).alloc (.cells #[.pointer (V ⟨2,71,none⟩),.pointer (V ⟨w.heap.size,0,none⟩),.int .u64 150] 121)).cell? ⟨0,0,none⟩=V (.iface 173 (.agg #[.pointer (V ⟨2,68,none⟩)])):=by
  rw[zV _ _ ⟨0,0,none⟩ (by simp),zV _ _ ⟨0,0,none⟩ Ξ];exact hg
 have yu:t.block<w.heap.size:=by
  rcases Nat.lt_or_ge t.block w.heap.size with h|h
  .exact h
  .simp[World.cell?,Array.getElem?_eq_none h]at Vh
 have el:=ab0 ⟨w.heap.size,0,none⟩ t (((w.alloc (.cells #[.pointer (V t)] 71)).alloc (.cells #[.pointer (V ⟨2,71,none⟩),.pointer (V ⟨w.heap.size,0,none⟩),.int .u64 150] 121)).alloc (.cells #[.pointer (V ⟨2,71,none⟩),.pointer (V ⟨w.heap.size,0,none⟩),.int .u64 150] 121)) (by rw[zV _ _ ⟨w.heap.size,0,none⟩ (by simp;omega)];simp);have st:=agX t ⟨w.heap.size+1+1+1,0,none⟩ m old ((((w.alloc (.cells #[.pointer (V t)] 71)).alloc (.cells #[.pointer (V ⟨2,71,none⟩),.pointer (V ⟨w.heap.size,0,none⟩),.int .u64 150] 121)).alloc (.cells #[.pointer (V ⟨2,71,none⟩),.pointer (V ⟨w.heap.size,0,none⟩),.int .u64 150] 121)).alloc (.cells #[.int .i64 m] 45))
  (by rw[World.cell?_alloc_at _ _ _ _ (by simp)];rfl)
  (by rw[zV _ _ t (by simp;omega),zV _ _ t (by simp;omega),zV _ _ t (by simp;omega),zV _ _ t yu];exact Vh)
  (by rw[K2 _ _ t (by simp;omega),K2 _ _ t (by simp;omega),K2 _ _ t (by simp;omega),K2 _ _ t (Nat.ne_of_lt yu)];exact hf0)
 go_enter func27,ntmps27;go_wp2;refine wp_loop_rounds 1 ?_;rw[rounds_succ];go_wp2;go_ret;exact⟨rfl,rfl⟩
end Go.Proofs.As11
