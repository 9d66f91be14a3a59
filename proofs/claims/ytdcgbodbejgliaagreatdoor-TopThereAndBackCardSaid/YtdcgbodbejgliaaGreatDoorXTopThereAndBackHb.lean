/- Contracts of what is taken from Go's own library, and of the closure that takes panics back. No condition. -/
import Derived.Test.YtdcgbodbejgliaaGreatDoorXTopThereAndBackHs
import Derived.Test.YtdcgbodbejgliaaGreatDoorXTopThereAndBackHc
set_option linter.all false
set_option maxRecDepth 100000
open Option renaming some->V
open Go.Extern.SlicesOverlaps renaming overlaps->rK
open Go.Shelf renaming Ren->uF
open List renaming length_map->au,mem_map->cL,all_eq_true->eo
namespace Go.Proofs
open Go.Proofs.Tryz
set_option linter.all false
open Go Go.Cat
variable[M:cD]
def vT(f ov rr s e:Nat):uF:=⟨λ|22=>f|29=>ov|30=>rr|n=>n,λ|9=>e|24=>s|n=>n,λ|n=>n⟩
def vj(f s e:Nat):uF:=⟨λ|45=>f|n=>n,λ|23=>e|22=>s|n=>n,λ|n=>n⟩
def ad6{inf:TypeInfo}{z:Value}(h1:prog.info? 84=V inf)(h2:inf.zero=V z)(h3:inf.size=3)(h4:z.cells.size=3)(h5:z.cells.toList.all (λv=>v.oneCell')=true):tj prog (vT 199 250 251 33 84) inf z where
 mixed:=by kernel_rfl
 f22:=⟨f199.name,by decide,func199.trans (congrArg V (by kernel_rfl))⟩
 yn:=λargs w w' v h=>by
  show(callFunc 250 args).run prog w=_;rw[run_callFunc_extern func250 (by kernel_rfl) (by kernel_rfl) (by kernel_rfl) (e:=rK #[33,33] #[4]) (by kernel_rfl)];have h:(rK #[33,33] #[4] args).run prog w=.ok v w':=h;rw[h];rfl
 t0:=underlying0
 a0:=isAgg0
 z0:=sizeOf0
 v0:=zeroValue0
 t3:=underlying3
 a3:=isAgg3
 z3:=sizeOf3
 v3:=zeroValue3
 t4:=underlying4
 a4:=isAgg4
 z4:=sizeOf4
 v4:=zeroValue4
 t24:=underlying33
 a24:=isAgg33
 z24:=sizeOf33
 v24:=zeroValue33
 i9:=h1
 z9:=λw=>by rw[h3];exact sizeOf84 w
 k9:=by rw[h3];decide
 hz:=h2
 zs:=by rw[h3,h4]
 z1:=λv hv=>eo.1 h5 v hv
def akK(l:List bg)(i:Int)(x:List bg)(h:(0:Int)<=i/\i<=(l.length:Int)/\0<x.length/\(l.length+x.length)*24<=140737488355328):
  Ω prog (.f 199) [.o 1000,vi i,.s (x.map gX)] ⟨aR,[(1000,.own 84 3 (l.map gX))]⟩ λr s=>r=.o 900/\s.H=[(900,.own 84 3 ((eQ l i x).map gX))]:=by
 obtain⟨inf,h1,h2,h3,h4⟩:=(tok 84 _ rfl).info
 have:=Ii (ρ:=vT 199 250 251 33 84) (ad6 h1 h2 h3 rfl (by kernel_rfl)) (K:=3) h3 (by rw[h4];decide) (l.map gX) (x.map gX) i (λr hr=>by
  obtain⟨y,_,rfl⟩:=cL.1 hr
  rfl) (by rw[au,au,h4];exact h)
 rw[Ih]at this;exact this
def ad7{inf:TypeInfo}{z:Value}(h1:prog.info? 86=V inf)(h2:inf.zero=V z)(h3:inf.size=3)(h4:z.cells.size=3)(h5:z.cells.toList.all (λv=>v.oneCell')=true):tj prog (vT 213 259 260 34 86) inf z where
 mixed:=by kernel_rfl
 f22:=⟨f213.name,by decide,func213.trans (congrArg V (by kernel_rfl))⟩
 yn:=λargs w w' v h=>by
  show(callFunc 259 args).run prog w=_;rw[run_callFunc_extern func259 (by kernel_rfl) (by kernel_rfl) (by kernel_rfl) (e:=rK #[34,34] #[4]) (by kernel_rfl)];have h:(rK #[34,34] #[4] args).run prog w=.ok v w':=h;rw[h];rfl
 t0:=underlying0
 a0:=isAgg0
 z0:=sizeOf0
 v0:=zeroValue0
 t3:=underlying3
 a3:=isAgg3
 z3:=sizeOf3
 v3:=zeroValue3
 t4:=underlying4
 a4:=isAgg4
 z4:=sizeOf4
 v4:=zeroValue4
 t24:=underlying34
 a24:=isAgg34
 z24:=sizeOf34
 v24:=zeroValue34
 i9:=h1
 z9:=λw=>by rw[h3];exact sizeOf86 w
 k9:=by rw[h3];decide
 hz:=h2
 zs:=by rw[h3,h4]
 z1:=λv hv=>eo.1 h5 v hv
def akN(l:List aJ)(i:Int)(x:List aJ)(h:(0:Int)<=i/\i<=(l.length:Int)/\0<x.length/\(l.length+x.length)*24<=140737488355328):
  Ω prog (.f 213) [.o 1000,vi i,.s (x.map il)] ⟨aR,[(1000,.own 86 3 (l.map il))]⟩ λr s=>r=.o 900/\s.H=[(900,.own 86 3 ((eQ l i x).map il))]:=by
 obtain⟨inf,h1,h2,h3,h4⟩:=(tok 86 _ rfl).info
 have:=Ii (ρ:=vT 213 259 260 34 86) (ad7 h1 h2 h3 rfl (by kernel_rfl)) (K:=3) h3 (by rw[h4];decide) (l.map il) (x.map il) i (λr hr=>by
  obtain⟨y,_,rfl⟩:=cL.1 hr
  rfl) (by rw[au,au,h4];exact h)
 rw[Ih]at this;exact this
def ad8{inf:TypeInfo}{z:Value}(h1:prog.info? 44=V inf)(h2:inf.zero=V z)(h3:inf.size=6)(h4:z.cells.size=6)(h5:z.cells.toList.all (λv=>v.oneCell')=true):tj prog (vT 232 271 272 25 44) inf z where
 mixed:=by kernel_rfl
 f22:=⟨f232.name,by decide,func232.trans (congrArg V (by kernel_rfl))⟩
 yn:=λargs w w' v h=>by
  show(callFunc 271 args).run prog w=_;rw[run_callFunc_extern func271 (by kernel_rfl) (by kernel_rfl) (by kernel_rfl) (e:=rK #[25,25] #[4]) (by kernel_rfl)];have h:(rK #[25,25] #[4] args).run prog w=.ok v w':=h;rw[h];rfl
 t0:=underlying0
 a0:=isAgg0
 z0:=sizeOf0
 v0:=zeroValue0
 t3:=underlying3
 a3:=isAgg3
 z3:=sizeOf3
 v3:=zeroValue3
 t4:=underlying4
 a4:=isAgg4
 z4:=sizeOf4
 v4:=zeroValue4
 t24:=underlying25
 a24:=isAgg25
 z24:=sizeOf25
 v24:=zeroValue25
 i9:=h1
 z9:=λw=>by rw[h3];exact sizeOf44 w
 k9:=by rw[h3];decide
 hz:=h2
 zs:=by rw[h3,h4]
 z1:=λv hv=>eo.1 h5 v hv
def Vm(l:List τ)(i:Int)(x:List τ)(h:(0:Int)<=i/\i<=(l.length:Int)/\0<x.length/\(l.length+x.length)*80<=140737488355328):
  Ω prog (.f 232) [.o 1000,vi i,.s (x.map eM)] ⟨aR,[(1000,.own 44 6 (l.map eM))]⟩ λr s=>r=.o 900/\s.H=[(900,.own 44 6 ((eQ l i x).map eM))]:=by
 obtain⟨inf,h1,h2,h3,h4⟩:=(tok 44 _ rfl).info
 have:=Ii (ρ:=vT 232 271 272 25 44) (ad8 h1 h2 h3 rfl (by kernel_rfl)) (K:=6) h3 (by rw[h4];decide) (l.map eM) (x.map eM) i (λr hr=>by
  obtain⟨y,_,rfl⟩:=cL.1 hr
  rfl) (by rw[au,au,h4];exact h)
 rw[Ih]at this;exact this
def ad9{inf:TypeInfo}{z:Value}(h1:prog.info? 138=V inf)(h2:inf.zero=V z)(h3:inf.size=3)(h4:z.cells.size=3)(h5:z.cells.toList.all (λv=>v.oneCell')=true):tj prog (vT 233 273 274 42 138) inf z where
 mixed:=by kernel_rfl
 f22:=⟨f233.name,by decide,func233.trans (congrArg V (by kernel_rfl))⟩
 yn:=λargs w w' v h=>by
  show(callFunc 273 args).run prog w=_;rw[run_callFunc_extern func273 (by kernel_rfl) (by kernel_rfl) (by kernel_rfl) (e:=rK #[42,42] #[4]) (by kernel_rfl)];have h:(rK #[42,42] #[4] args).run prog w=.ok v w':=h;rw[h];rfl
 t0:=underlying0
 a0:=isAgg0
 z0:=sizeOf0
 v0:=zeroValue0
 t3:=underlying3
 a3:=isAgg3
 z3:=sizeOf3
 v3:=zeroValue3
 t4:=underlying4
 a4:=isAgg4
 z4:=sizeOf4
 v4:=zeroValue4
 t24:=underlying42
 a24:=isAgg42
 z24:=sizeOf42
 v24:=zeroValue42
 i9:=h1
 z9:=λw=>by rw[h3];exact sizeOf138 w
 k9:=by rw[h3];decide
 hz:=h2
 zs:=by rw[h3,h4]
 z1:=λv hv=>eo.1 h5 v hv
def Vn(l:List aH)(i:Int)(x:List aH)(h:(0:Int)<=i/\i<=(l.length:Int)/\0<x.length/\(l.length+x.length)*32<=140737488355328):
  Ω prog (.f 233) [.o 1000,vi i,.s (x.map fB)] ⟨aR,[(1000,.own 138 3 (l.map fB))]⟩ λr s=>r=.o 900/\s.H=[(900,.own 138 3 ((eQ l i x).map fB))]:=by
 obtain⟨inf,h1,h2,h3,h4⟩:=(tok 138 _ rfl).info
 have:=Ii (ρ:=vT 233 273 274 42 138) (ad9 h1 h2 h3 rfl (by kernel_rfl)) (K:=3) h3 (by rw[h4];decide) (l.map fB) (x.map fB) i (λr hr=>by
  obtain⟨y,_,rfl⟩:=cL.1 hr
  rfl) (by rw[au,au,h4];exact h)
 rw[Ih]at this;exact this
def aa_{inf:TypeInfo}{z:Value}(h1:prog.info? 84=V inf)(h2:∀w,(zeroValue 84).run prog w=.ok z w)(h3:inf.size=3)(h4:z.cells.size=3)(h5:z.cells.toList.all (λv=>v.oneCell')=true):zX prog (vj 203 33 84) inf z where
 mixed:=by kernel_rfl
 f45:=⟨f203.name,by decide,func203.trans (congrArg V (by kernel_rfl))⟩
 t0:=underlying0
 a0:=isAgg0
 z0:=sizeOf0
 v0:=zeroValue0
 t3:=underlying3
 a3:=isAgg3
 z3:=sizeOf3
 v3:=zeroValue3
 t4:=underlying4
 a4:=isAgg4
 z4:=sizeOf4
 v4:=zeroValue4
 t22:=underlying33
 a22:=isAgg33
 z22:=sizeOf33
 v22:=zeroValue33
 i23:=h1
 z23:=λw=>by rw[h3];exact sizeOf84 w
 v23:=h2
 vW:=by rw[h3];decide
 zs:=by rw[h3,h4]
 z1:=λv hv=>eo.1 h5 v hv
def akL(l:List bg)(i j:Int)(h:(0:Int)<=i/\i<j/\j<=(l.length:Int)):
  Ω prog (.f 203) [.o 1000,vi i,vi j] ⟨aR,[(1000,.own 84 3 (l.map gX))]⟩ λr s=>r=.o 900/\s.H=[(900,.own 84 3 ((kU l i j).map gX))]:=by
 obtain⟨inf,h1,h2,h3,h4⟩:=(tok 84 _ rfl).info;have:=G7 (ρ:=vj 203 33 84) (aa_ h1 (λw=>(tok 84 _ rfl).sS w) h3 rfl (by kernel_rfl)) (K:=3) h3 (l.map gX) i j (by rw[au];exact h);rw[G6]at this;exact this
def aa'{inf:TypeInfo}{z:Value}(h1:prog.info? 86=V inf)(h2:∀w,(zeroValue 86).run prog w=.ok z w)(h3:inf.size=3)(h4:z.cells.size=3)(h5:z.cells.toList.all (λv=>v.oneCell')=true):zX prog (vj 212 34 86) inf z where
 mixed:=by kernel_rfl
 f45:=⟨f212.name,by decide,func212.trans (congrArg V (by kernel_rfl))⟩
 t0:=underlying0
 a0:=isAgg0
 z0:=sizeOf0
 v0:=zeroValue0
 t3:=underlying3
 a3:=isAgg3
 z3:=sizeOf3
 v3:=zeroValue3
 t4:=underlying4
 a4:=isAgg4
 z4:=sizeOf4
 v4:=zeroValue4
 t22:=underlying34
 a22:=isAgg34
 z22:=sizeOf34
 v22:=zeroValue34
 i23:=h1
 z23:=λw=>by rw[h3];exact sizeOf86 w
 v23:=h2
 vW:=by rw[h3];decide
 zs:=by rw[h3,h4]
 z1:=λv hv=>eo.1 h5 v hv
def akM(l:List aJ)(i j:Int)(h:(0:Int)<=i/\i<j/\j<=(l.length:Int)):
  Ω prog (.f 212) [.o 1000,vi i,vi j] ⟨aR,[(1000,.own 86 3 (l.map il))]⟩ λr s=>r=.o 900/\s.H=[(900,.own 86 3 ((kU l i j).map il))]:=by
 obtain⟨inf,h1,h2,h3,h4⟩:=(tok 86 _ rfl).info;have:=G7 (ρ:=vj 212 34 86) (aa' h1 (λw=>(tok 86 _ rfl).sS w) h3 rfl (by kernel_rfl)) (K:=3) h3 (l.map il) i j (by rw[au];exact h);rw[G6]at this;exact this
def aba{inf:TypeInfo}{z:Value}(h1:prog.info? 138=V inf)(h2:∀w,(zeroValue 138).run prog w=.ok z w)(h3:inf.size=3)(h4:z.cells.size=3)(h5:z.cells.toList.all (λv=>v.oneCell')=true):zX prog (vj 238 42 138) inf z where
 mixed:=by kernel_rfl
 f45:=⟨f238.name,by decide,func238.trans (congrArg V (by kernel_rfl))⟩
 t0:=underlying0
 a0:=isAgg0
 z0:=sizeOf0
 v0:=zeroValue0
 t3:=underlying3
 a3:=isAgg3
 z3:=sizeOf3
 v3:=zeroValue3
 t4:=underlying4
 a4:=isAgg4
 z4:=sizeOf4
 v4:=zeroValue4
 t22:=underlying42
 a22:=isAgg42
 z22:=sizeOf42
 v22:=zeroValue42
 i23:=h1
 z23:=λw=>by rw[h3];exact sizeOf138 w
 v23:=h2
 vW:=by rw[h3];decide
 zs:=by rw[h3,h4]
 z1:=λv hv=>eo.1 h5 v hv
def adO(l:List aH)(i j:Int)(h:(0:Int)<=i/\i<j/\j<=(l.length:Int)):
  Ω prog (.f 238) [.o 1000,vi i,vi j] ⟨aR,[(1000,.own 138 3 (l.map fB))]⟩ λr s=>r=.o 900/\s.H=[(900,.own 138 3 ((kU l i j).map fB))]:=by
 obtain⟨inf,h1,h2,h3,h4⟩:=(tok 138 _ rfl).info;have:=G7 (ρ:=vj 238 42 138) (aba h1 (λw=>(tok 138 _ rfl).sS w) h3 rfl (by kernel_rfl)) (K:=3) h3 (l.map fB) i j (by rw[au];exact h);rw[G6]at this;exact this
def abb{inf:TypeInfo}{z:Value}(h1:prog.info? 44=V inf)(h2:∀w,(zeroValue 44).run prog w=.ok z w)(h3:inf.size=6)(h4:z.cells.size=6)(h5:z.cells.toList.all (λv=>v.oneCell')=true):zX prog (vj 275 25 44) inf z where
 mixed:=by kernel_rfl
 f45:=⟨f275.name,by decide,func275.trans (congrArg V (by kernel_rfl))⟩
 t0:=underlying0
 a0:=isAgg0
 z0:=sizeOf0
 v0:=zeroValue0
 t3:=underlying3
 a3:=isAgg3
 z3:=sizeOf3
 v3:=zeroValue3
 t4:=underlying4
 a4:=isAgg4
 z4:=sizeOf4
 v4:=zeroValue4
 t22:=underlying25
 a22:=isAgg25
 z22:=sizeOf25
 v22:=zeroValue25
 i23:=h1
 z23:=λw=>by rw[h3];exact sizeOf44 w
 v23:=h2
 vW:=by rw[h3];decide
 zs:=by rw[h3,h4]
 z1:=λv hv=>eo.1 h5 v hv
def adS(l:List τ)(i j:Int)(h:(0:Int)<=i/\i<j/\j<=(l.length:Int)):
  Ω prog (.f 275) [.o 1000,vi i,vi j] ⟨aR,[(1000,.own 44 6 (l.map eM))]⟩ λr s=>r=.o 900/\s.H=[(900,.own 44 6 ((kU l i j).map eM))]:=by
 obtain⟨inf,h1,h2,h3,h4⟩:=(tok 44 _ rfl).info;have:=G7 (ρ:=vj 275 25 44) (abb h1 (λw=>(tok 44 _ rfl).sS w) h3 rfl (by kernel_rfl)) (K:=6) h3 (l.map eM) i j (by rw[au];exact h);rw[G6]at this;exact this
end Go.Proofs
