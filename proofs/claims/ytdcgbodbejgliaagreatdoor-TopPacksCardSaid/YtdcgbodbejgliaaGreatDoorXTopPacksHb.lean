/- Contracts of what is taken from Go's own library, and of the closure that takes panics back. No condition. -/
import Derived.Test.YtdcgbodbejgliaaGreatDoorXTopPacksHs
import Derived.Test.YtdcgbodbejgliaaGreatDoorXTopPacksHc
set_option linter.all false
set_option maxRecDepth 100000
open Go.Extern.SlicesOverlaps renaming overlaps → rZ
open Go.Shelf renaming Ren → vE
open List renaming length_map → ax, mem_map → dq, all_eq_true → ej
namespace Go.Proofs
open Go.Proofs.Tryz
set_option linter.all false
open Go Go.Cat
variable [M:cM]
def wY (f ov rr s e:Nat):vE:=⟨fun|22=>f|29=>ov|30=>rr|n=>n,fun|9=>e|24=>s|n=>n,fun|n=>n⟩
def wb (f s e:Nat):vE:=⟨fun|45=>f|n=>n,fun|23=>e|22=>s|n=>n,fun|n=>n⟩
def ad8 {inf:TypeInfo} {z:Value} (h1:prog.info? 84=some inf) (h2:inf.zero=some z) (h3:inf.size=3) (h4:z.cells.size=3) (h5:z.cells.toList.all (fun v=>v.oneCell')=true):uq prog (wY 199 250 251 33 84) inf z where
 mixed:=by kernel_rfl
 f22:=⟨f199.name,by decide,func199.trans (congrArg some (by kernel_rfl))⟩
 zh:=fun args w w' v h=>by
  show (callFunc 250 args).run prog w=_;rw [run_callFunc_extern func250 (by kernel_rfl) (by kernel_rfl) (by kernel_rfl) (e:=rZ #[33,33] #[4]) (by kernel_rfl)];have h:(rZ #[33,33] #[4] args).run prog w=.ok v w':=h;rw [h];rfl
 t0:=underlying0
 a0:=isAgg0
 z0:=sizeOf0
 v0:=zeroValue0
 t3:=underlying3
 a3:=isAgg3
 z3:=sizeOf3
 v3:=zeroValue3
 t4:=underlying4
 a4:=isAgg4
 z4:=sizeOf4
 v4:=zeroValue4
 t24:=underlying33
 a24:=isAgg33
 z24:=sizeOf33
 v24:=zeroValue33
 i9:=h1
 z9:=fun w=>by rw [h3];exact sizeOf84 w
 k9:=by rw [h3];decide
 hz:=h2
 zs:=by rw [h3,h4]
 z1:=fun v hv=>ej.1 h5 v hv
def adI (l:List ay) (i:Int) (x:List ay) (h:(0:Int)≤i∧i≤(l.length:Int)∧0<x.length∧(l.length+x.length)*24≤140737488355328) :
  ae prog (.f 199) [.o 1000,vi i,.s (x.map p_)] ⟨aG,[(1000,.own 84 3 (l.map p_))]⟩ fun r s=>r=.o 900∧s.H=[(900,.own 84 3 ((dM l i x).map p_))]:=by
 obtain ⟨inf,h1,h2,h3,h4⟩:=(tok 84 _ rfl).info
 have:=Jb (ρ:=wY 199 250 251 33 84) (ad8 h1 h2 h3 rfl (by kernel_rfl)) (K:=3) h3 (by rw [h4];decide) (l.map p_) (x.map p_) i (fun r hr=>by
  obtain ⟨y,_,rfl⟩:=dq.1 hr
  rfl) (by rw [ax,ax,h4];exact h)
 rw [Ja] at this;exact this
def ad9 {inf:TypeInfo} {z:Value} (h1:prog.info? 86=some inf) (h2:inf.zero=some z) (h3:inf.size=3) (h4:z.cells.size=3) (h5:z.cells.toList.all (fun v=>v.oneCell')=true):uq prog (wY 213 259 260 34 86) inf z where
 mixed:=by kernel_rfl
 f22:=⟨f213.name,by decide,func213.trans (congrArg some (by kernel_rfl))⟩
 zh:=fun args w w' v h=>by
  show (callFunc 259 args).run prog w=_;rw [run_callFunc_extern func259 (by kernel_rfl) (by kernel_rfl) (by kernel_rfl) (e:=rZ #[34,34] #[4]) (by kernel_rfl)];have h:(rZ #[34,34] #[4] args).run prog w=.ok v w':=h;rw [h];rfl
 t0:=underlying0
 a0:=isAgg0
 z0:=sizeOf0
 v0:=zeroValue0
 t3:=underlying3
 a3:=isAgg3
 z3:=sizeOf3
 v3:=zeroValue3
 t4:=underlying4
 a4:=isAgg4
 z4:=sizeOf4
 v4:=zeroValue4
 t24:=underlying34
 a24:=isAgg34
 z24:=sizeOf34
 v24:=zeroValue34
 i9:=h1
 z9:=fun w=>by rw [h3];exact sizeOf86 w
 k9:=by rw [h3];decide
 hz:=h2
 zs:=by rw [h3,h4]
 z1:=fun v hv=>ej.1 h5 v hv
def adL (l:List aA) (i:Int) (x:List aA) (h:(0:Int)≤i∧i≤(l.length:Int)∧0<x.length∧(l.length+x.length)*24≤140737488355328) :
  ae prog (.f 213) [.o 1000,vi i,.s (x.map mN)] ⟨aG,[(1000,.own 86 3 (l.map mN))]⟩ fun r s=>r=.o 900∧s.H=[(900,.own 86 3 ((dM l i x).map mN))]:=by
 obtain ⟨inf,h1,h2,h3,h4⟩:=(tok 86 _ rfl).info
 have:=Jb (ρ:=wY 213 259 260 34 86) (ad9 h1 h2 h3 rfl (by kernel_rfl)) (K:=3) h3 (by rw [h4];decide) (l.map mN) (x.map mN) i (fun r hr=>by
  obtain ⟨y,_,rfl⟩:=dq.1 hr
  rfl) (by rw [ax,ax,h4];exact h)
 rw [Ja] at this;exact this
def ad_ {inf:TypeInfo} {z:Value} (h1:prog.info? 44=some inf) (h2:inf.zero=some z) (h3:inf.size=6) (h4:z.cells.size=6) (h5:z.cells.toList.all (fun v=>v.oneCell')=true):uq prog (wY 232 271 272 25 44) inf z where
 mixed:=by kernel_rfl
 f22:=⟨f232.name,by decide,func232.trans (congrArg some (by kernel_rfl))⟩
 zh:=fun args w w' v h=>by
  show (callFunc 271 args).run prog w=_;rw [run_callFunc_extern func271 (by kernel_rfl) (by kernel_rfl) (by kernel_rfl) (e:=rZ #[25,25] #[4]) (by kernel_rfl)];have h:(rZ #[25,25] #[4] args).run prog w=.ok v w':=h;rw [h];rfl
 t0:=underlying0
 a0:=isAgg0
 z0:=sizeOf0
 v0:=zeroValue0
 t3:=underlying3
 a3:=isAgg3
 z3:=sizeOf3
 v3:=zeroValue3
 t4:=underlying4
 a4:=isAgg4
 z4:=sizeOf4
 v4:=zeroValue4
 t24:=underlying25
 a24:=isAgg25
 z24:=sizeOf25
 v24:=zeroValue25
 i9:=h1
 z9:=fun w=>by rw [h3];exact sizeOf44 w
 k9:=by rw [h3];decide
 hz:=h2
 zs:=by rw [h3,h4]
 z1:=fun v hv=>ej.1 h5 v hv
def Vv (l:List ξ) (i:Int) (x:List ξ) (h:(0:Int)≤i∧i≤(l.length:Int)∧0<x.length∧(l.length+x.length)*80≤140737488355328) :
  ae prog (.f 232) [.o 1000,vi i,.s (x.map dv)] ⟨aG,[(1000,.own 44 6 (l.map dv))]⟩ fun r s=>r=.o 900∧s.H=[(900,.own 44 6 ((dM l i x).map dv))]:=by
 obtain ⟨inf,h1,h2,h3,h4⟩:=(tok 44 _ rfl).info
 have:=Jb (ρ:=wY 232 271 272 25 44) (ad_ h1 h2 h3 rfl (by kernel_rfl)) (K:=6) h3 (by rw [h4];decide) (l.map dv) (x.map dv) i (fun r hr=>by
  obtain ⟨y,_,rfl⟩:=dq.1 hr
  rfl) (by rw [ax,ax,h4];exact h)
 rw [Ja] at this;exact this
def ad' {inf:TypeInfo} {z:Value} (h1:prog.info? 138=some inf) (h2:inf.zero=some z) (h3:inf.size=3) (h4:z.cells.size=3) (h5:z.cells.toList.all (fun v=>v.oneCell')=true):uq prog (wY 233 273 274 42 138) inf z where
 mixed:=by kernel_rfl
 f22:=⟨f233.name,by decide,func233.trans (congrArg some (by kernel_rfl))⟩
 zh:=fun args w w' v h=>by
  show (callFunc 273 args).run prog w=_;rw [run_callFunc_extern func273 (by kernel_rfl) (by kernel_rfl) (by kernel_rfl) (e:=rZ #[42,42] #[4]) (by kernel_rfl)];have h:(rZ #[42,42] #[4] args).run prog w=.ok v w':=h;rw [h];rfl
 t0:=underlying0
 a0:=isAgg0
 z0:=sizeOf0
 v0:=zeroValue0
 t3:=underlying3
 a3:=isAgg3
 z3:=sizeOf3
 v3:=zeroValue3
 t4:=underlying4
 a4:=isAgg4
 z4:=sizeOf4
 v4:=zeroValue4
 t24:=underlying42
 a24:=isAgg42
 z24:=sizeOf42
 v24:=zeroValue42
 i9:=h1
 z9:=fun w=>by rw [h3];exact sizeOf138 w
 k9:=by rw [h3];decide
 hz:=h2
 zs:=by rw [h3,h4]
 z1:=fun v hv=>ej.1 h5 v hv
def Vw (l:List aP) (i:Int) (x:List aP) (h:(0:Int)≤i∧i≤(l.length:Int)∧0<x.length∧(l.length+x.length)*32≤140737488355328) :
  ae prog (.f 233) [.o 1000,vi i,.s (x.map j8)] ⟨aG,[(1000,.own 138 3 (l.map j8))]⟩ fun r s=>r=.o 900∧s.H=[(900,.own 138 3 ((dM l i x).map j8))]:=by
 obtain ⟨inf,h1,h2,h3,h4⟩:=(tok 138 _ rfl).info
 have:=Jb (ρ:=wY 233 273 274 42 138) (ad' h1 h2 h3 rfl (by kernel_rfl)) (K:=3) h3 (by rw [h4];decide) (l.map j8) (x.map j8) i (fun r hr=>by
  obtain ⟨y,_,rfl⟩:=dq.1 hr
  rfl) (by rw [ax,ax,h4];exact h)
 rw [Ja] at this;exact this
def aa9 {inf:TypeInfo} {z:Value} (h1:prog.info? 84=some inf) (h2:∀w,(zeroValue 84).run prog w=.ok z w) (h3:inf.size=3) (h4:z.cells.size=3) (h5:z.cells.toList.all (fun v=>v.oneCell')=true):AD prog (wb 203 33 84) inf z where
 mixed:=by kernel_rfl
 f45:=⟨f203.name,by decide,func203.trans (congrArg some (by kernel_rfl))⟩
 t0:=underlying0
 a0:=isAgg0
 z0:=sizeOf0
 v0:=zeroValue0
 t3:=underlying3
 a3:=isAgg3
 z3:=sizeOf3
 v3:=zeroValue3
 t4:=underlying4
 a4:=isAgg4
 z4:=sizeOf4
 v4:=zeroValue4
 t22:=underlying33
 a22:=isAgg33
 z22:=sizeOf33
 v22:=zeroValue33
 i23:=h1
 z23:=fun w=>by rw [h3];exact sizeOf84 w
 v23:=h2
 s_:=by rw [h3];decide
 zs:=by rw [h3,h4]
 z1:=fun v hv=>ej.1 h5 v hv
def adJ (l:List ay) (i j:Int) (h:(0:Int)≤i∧i<j∧j≤(l.length:Int)) :
  ae prog (.f 203) [.o 1000,vi i,vi j] ⟨aG,[(1000,.own 84 3 (l.map p_))]⟩ fun r s=>r=.o 900∧s.H=[(900,.own 84 3 ((fY l i j).map p_))]:=by
 obtain ⟨inf,h1,h2,h3,h4⟩:=(tok 84 _ rfl).info;have:=HP (ρ:=wb 203 33 84) (aa9 h1 (fun w=>(tok 84 _ rfl).tH w) h3 rfl (by kernel_rfl)) (K:=3) h3 (l.map p_) i j (by rw [ax];exact h);rw [HO] at this;exact this
def aa_ {inf:TypeInfo} {z:Value} (h1:prog.info? 86=some inf) (h2:∀w,(zeroValue 86).run prog w=.ok z w) (h3:inf.size=3) (h4:z.cells.size=3) (h5:z.cells.toList.all (fun v=>v.oneCell')=true):AD prog (wb 212 34 86) inf z where
 mixed:=by kernel_rfl
 f45:=⟨f212.name,by decide,func212.trans (congrArg some (by kernel_rfl))⟩
 t0:=underlying0
 a0:=isAgg0
 z0:=sizeOf0
 v0:=zeroValue0
 t3:=underlying3
 a3:=isAgg3
 z3:=sizeOf3
 v3:=zeroValue3
 t4:=underlying4
 a4:=isAgg4
 z4:=sizeOf4
 v4:=zeroValue4
 t22:=underlying34
 a22:=isAgg34
 z22:=sizeOf34
 v22:=zeroValue34
 i23:=h1
 z23:=fun w=>by rw [h3];exact sizeOf86 w
 v23:=h2
 s_:=by rw [h3];decide
 zs:=by rw [h3,h4]
 z1:=fun v hv=>ej.1 h5 v hv
def adK (l:List aA) (i j:Int) (h:(0:Int)≤i∧i<j∧j≤(l.length:Int)) :
  ae prog (.f 212) [.o 1000,vi i,vi j] ⟨aG,[(1000,.own 86 3 (l.map mN))]⟩ fun r s=>r=.o 900∧s.H=[(900,.own 86 3 ((fY l i j).map mN))]:=by
 obtain ⟨inf,h1,h2,h3,h4⟩:=(tok 86 _ rfl).info;have:=HP (ρ:=wb 212 34 86) (aa_ h1 (fun w=>(tok 86 _ rfl).tH w) h3 rfl (by kernel_rfl)) (K:=3) h3 (l.map mN) i j (by rw [ax];exact h);rw [HO] at this;exact this
def aa' {inf:TypeInfo} {z:Value} (h1:prog.info? 138=some inf) (h2:∀w,(zeroValue 138).run prog w=.ok z w) (h3:inf.size=3) (h4:z.cells.size=3) (h5:z.cells.toList.all (fun v=>v.oneCell')=true):AD prog (wb 238 42 138) inf z where
 mixed:=by kernel_rfl
 f45:=⟨f238.name,by decide,func238.trans (congrArg some (by kernel_rfl))⟩
 t0:=underlying0
 a0:=isAgg0
 z0:=sizeOf0
 v0:=zeroValue0
 t3:=underlying3
 a3:=isAgg3
 z3:=sizeOf3
 v3:=zeroValue3
 t4:=underlying4
 a4:=isAgg4
 z4:=sizeOf4
 v4:=zeroValue4
 t22:=underlying42
 a22:=isAgg42
 z22:=sizeOf42
 v22:=zeroValue42
 i23:=h1
 z23:=fun w=>by rw [h3];exact sizeOf138 w
 v23:=h2
 s_:=by rw [h3];decide
 zs:=by rw [h3,h4]
 z1:=fun v hv=>ej.1 h5 v hv
def adM (l:List aP) (i j:Int) (h:(0:Int)≤i∧i<j∧j≤(l.length:Int)) :
  ae prog (.f 238) [.o 1000,vi i,vi j] ⟨aG,[(1000,.own 138 3 (l.map j8))]⟩ fun r s=>r=.o 900∧s.H=[(900,.own 138 3 ((fY l i j).map j8))]:=by
 obtain ⟨inf,h1,h2,h3,h4⟩:=(tok 138 _ rfl).info;have:=HP (ρ:=wb 238 42 138) (aa' h1 (fun w=>(tok 138 _ rfl).tH w) h3 rfl (by kernel_rfl)) (K:=3) h3 (l.map j8) i j (by rw [ax];exact h);rw [HO] at this;exact this
def aba {inf:TypeInfo} {z:Value} (h1:prog.info? 44=some inf) (h2:∀w,(zeroValue 44).run prog w=.ok z w) (h3:inf.size=6) (h4:z.cells.size=6) (h5:z.cells.toList.all (fun v=>v.oneCell')=true):AD prog (wb 275 25 44) inf z where
 mixed:=by kernel_rfl
 f45:=⟨f275.name,by decide,func275.trans (congrArg some (by kernel_rfl))⟩
 t0:=underlying0
 a0:=isAgg0
 z0:=sizeOf0
 v0:=zeroValue0
 t3:=underlying3
 a3:=isAgg3
 z3:=sizeOf3
 v3:=zeroValue3
 t4:=underlying4
 a4:=isAgg4
 z4:=sizeOf4
 v4:=zeroValue4
 t22:=underlying25
 a22:=isAgg25
 z22:=sizeOf25
 v22:=zeroValue25
 i23:=h1
 z23:=fun w=>by rw [h3];exact sizeOf44 w
 v23:=h2
 s_:=by rw [h3];decide
 zs:=by rw [h3,h4]
 z1:=fun v hv=>ej.1 h5 v hv
def adQ (l:List ξ) (i j:Int) (h:(0:Int)≤i∧i<j∧j≤(l.length:Int)) :
  ae prog (.f 275) [.o 1000,vi i,vi j] ⟨aG,[(1000,.own 44 6 (l.map dv))]⟩ fun r s=>r=.o 900∧s.H=[(900,.own 44 6 ((fY l i j).map dv))]:=by
 obtain ⟨inf,h1,h2,h3,h4⟩:=(tok 44 _ rfl).info;have:=HP (ρ:=wb 275 25 44) (aba h1 (fun w=>(tok 44 _ rfl).tH w) h3 rfl (by kernel_rfl)) (K:=6) h3 (l.map dv) i j (by rw [ax];exact h);rw [HO] at this;exact this
end Go.Proofs
