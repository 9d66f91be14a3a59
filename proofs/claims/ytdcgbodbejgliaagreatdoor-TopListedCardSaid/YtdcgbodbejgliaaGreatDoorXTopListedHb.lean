/- Contracts of what is taken from Go's own library, and of the closure that takes panics back. No condition. -/
import Derived.Test.YtdcgbodbejgliaaGreatDoorXTopListedHs
import Derived.Test.YtdcgbodbejgliaaGreatDoorXTopListedHc
set_option linter.all false
set_option maxRecDepth 100000
open Go.Extern.SlicesOverlaps renaming overlaps → pV
open Go.Shelf renaming Ren → r7
open List renaming length_map → au, all_eq_true → dJ, mem_map → cV
namespace Go.Proofs
open Go.Proofs.Tryz
set_option linter.all false
open Go Go.Cat
variable [M:bU]
def tj (f ov rr s e:Nat):r7:=⟨fun|22=>f|29=>ov|30=>rr|n=>n,fun|9=>e|24=>s|n=>n,fun|n=>n⟩
def sH (f s e:Nat):r7:=⟨fun|45=>f|n=>n,fun|23=>e|22=>s|n=>n,fun|n=>n⟩
def aa5 {inf:TypeInfo} {z:Value} (h1:prog.info? 84=some inf) (h2:inf.zero=some z) (h3:inf.size=3) (h4:z.cells.size=3) (h5:z.cells.toList.all (fun v=>v.oneCell')=true):qZ prog (tj 199 250 251 33 84) inf z where
 mixed:=by kernel_rfl
 f22:=⟨f199.name,by decide,func199.trans (congrArg some (by kernel_rfl))⟩
 vC:=fun args w w' v h=>by
  show (callFunc 250 args).run prog w=_;rw [run_callFunc_extern func250 (by kernel_rfl) (by kernel_rfl) (by kernel_rfl) (e:=pV #[33,33] #[4]) (by kernel_rfl)];have h:(pV #[33,33] #[4] args).run prog w=.ok v w':=h;rw [h];rfl
 t0:=underlying0
 a0:=isAgg0
 z0:=sizeOf0
 v0:=zeroValue0
 t3:=underlying3
 a3:=isAgg3
 z3:=sizeOf3
 v3:=zeroValue3
 t4:=underlying4
 a4:=isAgg4
 z4:=sizeOf4
 v4:=zeroValue4
 t24:=underlying33
 a24:=isAgg33
 z24:=sizeOf33
 v24:=zeroValue33
 i9:=h1
 z9:=fun w=>by rw [h3];exact sizeOf84 w
 k9:=by rw [h3];decide
 hz:=h2
 zs:=by rw [h3,h4]
 z1:=fun v hv=>dJ.1 h5 v hv
def agZ (l:List bq) (i:Int) (x:List bq) (h:(0:Int)≤i∧i≤(l.length:Int)∧0<x.length∧(l.length+x.length)*24≤140737488355328) :
  Θ prog (.f 199) [.o 1000,vi i,.s (x.map ga)] ⟨aM,[(1000,.own 84 3 (l.map ga))]⟩ fun r s=>r=.o 900∧s.H=[(900,.own 84 3 ((eW l i x).map ga))]:=by
 obtain ⟨inf,h1,h2,h3,h4⟩:=(tok 84 _ rfl).info
 have:=Em (ρ:=tj 199 250 251 33 84) (aa5 h1 h2 h3 rfl (by kernel_rfl)) (K:=3) h3 (by rw [h4];decide) (l.map ga) (x.map ga) i (fun r hr=>by
  obtain ⟨y,_,rfl⟩:=cV.1 hr
  rfl) (by rw [au,au,h4];exact h)
 rw [El] at this;exact this
def aa6 {inf:TypeInfo} {z:Value} (h1:prog.info? 86=some inf) (h2:inf.zero=some z) (h3:inf.size=3) (h4:z.cells.size=3) (h5:z.cells.toList.all (fun v=>v.oneCell')=true):qZ prog (tj 213 259 260 34 86) inf z where
 mixed:=by kernel_rfl
 f22:=⟨f213.name,by decide,func213.trans (congrArg some (by kernel_rfl))⟩
 vC:=fun args w w' v h=>by
  show (callFunc 259 args).run prog w=_;rw [run_callFunc_extern func259 (by kernel_rfl) (by kernel_rfl) (by kernel_rfl) (e:=pV #[34,34] #[4]) (by kernel_rfl)];have h:(pV #[34,34] #[4] args).run prog w=.ok v w':=h;rw [h];rfl
 t0:=underlying0
 a0:=isAgg0
 z0:=sizeOf0
 v0:=zeroValue0
 t3:=underlying3
 a3:=isAgg3
 z3:=sizeOf3
 v3:=zeroValue3
 t4:=underlying4
 a4:=isAgg4
 z4:=sizeOf4
 v4:=zeroValue4
 t24:=underlying34
 a24:=isAgg34
 z24:=sizeOf34
 v24:=zeroValue34
 i9:=h1
 z9:=fun w=>by rw [h3];exact sizeOf86 w
 k9:=by rw [h3];decide
 hz:=h2
 zs:=by rw [h3,h4]
 z1:=fun v hv=>dJ.1 h5 v hv
def ag2 (l:List aU) (i:Int) (x:List aU) (h:(0:Int)≤i∧i≤(l.length:Int)∧0<x.length∧(l.length+x.length)*24≤140737488355328) :
  Θ prog (.f 213) [.o 1000,vi i,.s (x.map gr)] ⟨aM,[(1000,.own 86 3 (l.map gr))]⟩ fun r s=>r=.o 900∧s.H=[(900,.own 86 3 ((eW l i x).map gr))]:=by
 obtain ⟨inf,h1,h2,h3,h4⟩:=(tok 86 _ rfl).info
 have:=Em (ρ:=tj 213 259 260 34 86) (aa6 h1 h2 h3 rfl (by kernel_rfl)) (K:=3) h3 (by rw [h4];decide) (l.map gr) (x.map gr) i (fun r hr=>by
  obtain ⟨y,_,rfl⟩:=cV.1 hr
  rfl) (by rw [au,au,h4];exact h)
 rw [El] at this;exact this
def aa7 {inf:TypeInfo} {z:Value} (h1:prog.info? 44=some inf) (h2:inf.zero=some z) (h3:inf.size=6) (h4:z.cells.size=6) (h5:z.cells.toList.all (fun v=>v.oneCell')=true):qZ prog (tj 232 271 272 25 44) inf z where
 mixed:=by kernel_rfl
 f22:=⟨f232.name,by decide,func232.trans (congrArg some (by kernel_rfl))⟩
 vC:=fun args w w' v h=>by
  show (callFunc 271 args).run prog w=_;rw [run_callFunc_extern func271 (by kernel_rfl) (by kernel_rfl) (by kernel_rfl) (e:=pV #[25,25] #[4]) (by kernel_rfl)];have h:(pV #[25,25] #[4] args).run prog w=.ok v w':=h;rw [h];rfl
 t0:=underlying0
 a0:=isAgg0
 z0:=sizeOf0
 v0:=zeroValue0
 t3:=underlying3
 a3:=isAgg3
 z3:=sizeOf3
 v3:=zeroValue3
 t4:=underlying4
 a4:=isAgg4
 z4:=sizeOf4
 v4:=zeroValue4
 t24:=underlying25
 a24:=isAgg25
 z24:=sizeOf25
 v24:=zeroValue25
 i9:=h1
 z9:=fun w=>by rw [h3];exact sizeOf44 w
 k9:=by rw [h3];decide
 hz:=h2
 zs:=by rw [h3,h4]
 z1:=fun v hv=>dJ.1 h5 v hv
def RA (l:List ψ) (i:Int) (x:List ψ) (h:(0:Int)≤i∧i≤(l.length:Int)∧0<x.length∧(l.length+x.length)*80≤140737488355328) :
  Θ prog (.f 232) [.o 1000,vi i,.s (x.map ed)] ⟨aM,[(1000,.own 44 6 (l.map ed))]⟩ fun r s=>r=.o 900∧s.H=[(900,.own 44 6 ((eW l i x).map ed))]:=by
 obtain ⟨inf,h1,h2,h3,h4⟩:=(tok 44 _ rfl).info
 have:=Em (ρ:=tj 232 271 272 25 44) (aa7 h1 h2 h3 rfl (by kernel_rfl)) (K:=6) h3 (by rw [h4];decide) (l.map ed) (x.map ed) i (fun r hr=>by
  obtain ⟨y,_,rfl⟩:=cV.1 hr
  rfl) (by rw [au,au,h4];exact h)
 rw [El] at this;exact this
def aa8 {inf:TypeInfo} {z:Value} (h1:prog.info? 138=some inf) (h2:inf.zero=some z) (h3:inf.size=3) (h4:z.cells.size=3) (h5:z.cells.toList.all (fun v=>v.oneCell')=true):qZ prog (tj 233 273 274 42 138) inf z where
 mixed:=by kernel_rfl
 f22:=⟨f233.name,by decide,func233.trans (congrArg some (by kernel_rfl))⟩
 vC:=fun args w w' v h=>by
  show (callFunc 273 args).run prog w=_;rw [run_callFunc_extern func273 (by kernel_rfl) (by kernel_rfl) (by kernel_rfl) (e:=pV #[42,42] #[4]) (by kernel_rfl)];have h:(pV #[42,42] #[4] args).run prog w=.ok v w':=h;rw [h];rfl
 t0:=underlying0
 a0:=isAgg0
 z0:=sizeOf0
 v0:=zeroValue0
 t3:=underlying3
 a3:=isAgg3
 z3:=sizeOf3
 v3:=zeroValue3
 t4:=underlying4
 a4:=isAgg4
 z4:=sizeOf4
 v4:=zeroValue4
 t24:=underlying42
 a24:=isAgg42
 z24:=sizeOf42
 v24:=zeroValue42
 i9:=h1
 z9:=fun w=>by rw [h3];exact sizeOf138 w
 k9:=by rw [h3];decide
 hz:=h2
 zs:=by rw [h3,h4]
 z1:=fun v hv=>dJ.1 h5 v hv
def RB (l:List aJ) (i:Int) (x:List aJ) (h:(0:Int)≤i∧i≤(l.length:Int)∧0<x.length∧(l.length+x.length)*32≤140737488355328) :
  Θ prog (.f 233) [.o 1000,vi i,.s (x.map eM)] ⟨aM,[(1000,.own 138 3 (l.map eM))]⟩ fun r s=>r=.o 900∧s.H=[(900,.own 138 3 ((eW l i x).map eM))]:=by
 obtain ⟨inf,h1,h2,h3,h4⟩:=(tok 138 _ rfl).info
 have:=Em (ρ:=tj 233 273 274 42 138) (aa8 h1 h2 h3 rfl (by kernel_rfl)) (K:=3) h3 (by rw [h4];decide) (l.map eM) (x.map eM) i (fun r hr=>by
  obtain ⟨y,_,rfl⟩:=cV.1 hr
  rfl) (by rw [au,au,h4];exact h)
 rw [El] at this;exact this
def Xo {inf:TypeInfo} {z:Value} (h1:prog.info? 84=some inf) (h2:∀w,(zeroValue 84).run prog w=.ok z w) (h3:inf.size=3) (h4:z.cells.size=3) (h5:z.cells.toList.all (fun v=>v.oneCell')=true):xg prog (sH 203 33 84) inf z where
 mixed:=by kernel_rfl
 f45:=⟨f203.name,by decide,func203.trans (congrArg some (by kernel_rfl))⟩
 t0:=underlying0
 a0:=isAgg0
 z0:=sizeOf0
 v0:=zeroValue0
 t3:=underlying3
 a3:=isAgg3
 z3:=sizeOf3
 v3:=zeroValue3
 t4:=underlying4
 a4:=isAgg4
 z4:=sizeOf4
 v4:=zeroValue4
 t22:=underlying33
 a22:=isAgg33
 z22:=sizeOf33
 v22:=zeroValue33
 i23:=h1
 z23:=fun w=>by rw [h3];exact sizeOf84 w
 v23:=h2
 tp:=by rw [h3];decide
 zs:=by rw [h3,h4]
 z1:=fun v hv=>dJ.1 h5 v hv
def ag0 (l:List bq) (i j:Int) (h:(0:Int)≤i∧i<j∧j≤(l.length:Int)) :
  Θ prog (.f 203) [.o 1000,vi i,vi j] ⟨aM,[(1000,.own 84 3 (l.map ga))]⟩ fun r s=>r=.o 900∧s.H=[(900,.own 84 3 ((lU l i j).map ga))]:=by
 obtain ⟨inf,h1,h2,h3,h4⟩:=(tok 84 _ rfl).info;have:=Dj (ρ:=sH 203 33 84) (Xo h1 (fun w=>(tok 84 _ rfl).qL w) h3 rfl (by kernel_rfl)) (K:=3) h3 (l.map ga) i j (by rw [au];exact h);rw [Di] at this;exact this
def Xp {inf:TypeInfo} {z:Value} (h1:prog.info? 86=some inf) (h2:∀w,(zeroValue 86).run prog w=.ok z w) (h3:inf.size=3) (h4:z.cells.size=3) (h5:z.cells.toList.all (fun v=>v.oneCell')=true):xg prog (sH 212 34 86) inf z where
 mixed:=by kernel_rfl
 f45:=⟨f212.name,by decide,func212.trans (congrArg some (by kernel_rfl))⟩
 t0:=underlying0
 a0:=isAgg0
 z0:=sizeOf0
 v0:=zeroValue0
 t3:=underlying3
 a3:=isAgg3
 z3:=sizeOf3
 v3:=zeroValue3
 t4:=underlying4
 a4:=isAgg4
 z4:=sizeOf4
 v4:=zeroValue4
 t22:=underlying34
 a22:=isAgg34
 z22:=sizeOf34
 v22:=zeroValue34
 i23:=h1
 z23:=fun w=>by rw [h3];exact sizeOf86 w
 v23:=h2
 tp:=by rw [h3];decide
 zs:=by rw [h3,h4]
 z1:=fun v hv=>dJ.1 h5 v hv
def ag1 (l:List aU) (i j:Int) (h:(0:Int)≤i∧i<j∧j≤(l.length:Int)) :
  Θ prog (.f 212) [.o 1000,vi i,vi j] ⟨aM,[(1000,.own 86 3 (l.map gr))]⟩ fun r s=>r=.o 900∧s.H=[(900,.own 86 3 ((lU l i j).map gr))]:=by
 obtain ⟨inf,h1,h2,h3,h4⟩:=(tok 86 _ rfl).info;have:=Dj (ρ:=sH 212 34 86) (Xp h1 (fun w=>(tok 86 _ rfl).qL w) h3 rfl (by kernel_rfl)) (K:=3) h3 (l.map gr) i j (by rw [au];exact h);rw [Di] at this;exact this
def Xq {inf:TypeInfo} {z:Value} (h1:prog.info? 138=some inf) (h2:∀w,(zeroValue 138).run prog w=.ok z w) (h3:inf.size=3) (h4:z.cells.size=3) (h5:z.cells.toList.all (fun v=>v.oneCell')=true):xg prog (sH 238 42 138) inf z where
 mixed:=by kernel_rfl
 f45:=⟨f238.name,by decide,func238.trans (congrArg some (by kernel_rfl))⟩
 t0:=underlying0
 a0:=isAgg0
 z0:=sizeOf0
 v0:=zeroValue0
 t3:=underlying3
 a3:=isAgg3
 z3:=sizeOf3
 v3:=zeroValue3
 t4:=underlying4
 a4:=isAgg4
 z4:=sizeOf4
 v4:=zeroValue4
 t22:=underlying42
 a22:=isAgg42
 z22:=sizeOf42
 v22:=zeroValue42
 i23:=h1
 z23:=fun w=>by rw [h3];exact sizeOf138 w
 v23:=h2
 tp:=by rw [h3];decide
 zs:=by rw [h3,h4]
 z1:=fun v hv=>dJ.1 h5 v hv
def aaN (l:List aJ) (i j:Int) (h:(0:Int)≤i∧i<j∧j≤(l.length:Int)) :
  Θ prog (.f 238) [.o 1000,vi i,vi j] ⟨aM,[(1000,.own 138 3 (l.map eM))]⟩ fun r s=>r=.o 900∧s.H=[(900,.own 138 3 ((lU l i j).map eM))]:=by
 obtain ⟨inf,h1,h2,h3,h4⟩:=(tok 138 _ rfl).info;have:=Dj (ρ:=sH 238 42 138) (Xq h1 (fun w=>(tok 138 _ rfl).qL w) h3 rfl (by kernel_rfl)) (K:=3) h3 (l.map eM) i j (by rw [au];exact h);rw [Di] at this;exact this
def Xr {inf:TypeInfo} {z:Value} (h1:prog.info? 44=some inf) (h2:∀w,(zeroValue 44).run prog w=.ok z w) (h3:inf.size=6) (h4:z.cells.size=6) (h5:z.cells.toList.all (fun v=>v.oneCell')=true):xg prog (sH 275 25 44) inf z where
 mixed:=by kernel_rfl
 f45:=⟨f275.name,by decide,func275.trans (congrArg some (by kernel_rfl))⟩
 t0:=underlying0
 a0:=isAgg0
 z0:=sizeOf0
 v0:=zeroValue0
 t3:=underlying3
 a3:=isAgg3
 z3:=sizeOf3
 v3:=zeroValue3
 t4:=underlying4
 a4:=isAgg4
 z4:=sizeOf4
 v4:=zeroValue4
 t22:=underlying25
 a22:=isAgg25
 z22:=sizeOf25
 v22:=zeroValue25
 i23:=h1
 z23:=fun w=>by rw [h3];exact sizeOf44 w
 v23:=h2
 tp:=by rw [h3];decide
 zs:=by rw [h3,h4]
 z1:=fun v hv=>dJ.1 h5 v hv
def aaR (l:List ψ) (i j:Int) (h:(0:Int)≤i∧i<j∧j≤(l.length:Int)) :
  Θ prog (.f 275) [.o 1000,vi i,vi j] ⟨aM,[(1000,.own 44 6 (l.map ed))]⟩ fun r s=>r=.o 900∧s.H=[(900,.own 44 6 ((lU l i j).map ed))]:=by
 obtain ⟨inf,h1,h2,h3,h4⟩:=(tok 44 _ rfl).info;have:=Dj (ρ:=sH 275 25 44) (Xr h1 (fun w=>(tok 44 _ rfl).qL w) h3 rfl (by kernel_rfl)) (K:=6) h3 (l.map ed) i j (by rw [au];exact h);rw [Di] at this;exact this
end Go.Proofs
