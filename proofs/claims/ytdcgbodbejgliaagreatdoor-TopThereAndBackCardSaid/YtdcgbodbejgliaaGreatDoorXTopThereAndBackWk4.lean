/- The walks of this seat beside the plain programs, part 4. No condition. -/
import Derived.Test.YtdcgbodbejgliaaGreatDoorXTopThereAndBackWk3
open Option renaming some->V
open List renaming length_map->au,map_append->bO
open Nat renaming le_refl->bm
open Or renaming inl->ah,inr->fJ
namespace Go.Proofs
set_option linter.all false
open Go Go.Cat Tryz
variable[M:cD][K:LK]
set_option maxRecDepth 100000
set_option maxHeartbeats 4000000
def qC[oC]{d e r}(h:ir d e=V r):Pure prog 12 [.a (b2 d),.a (lJ e)] (.t [.a (b2 r.1),.a (iS r.2)]):=by
 refine abi (n:=44) (q:=[(2,1000),(3,3),(4,1001),(5,1002)]) (L:=[(2,.b 2 0),(3,.b 3 0),(4,.b 4 0),(5,.b 5 0)]) (H:=[(2,.box (b2 d)),(3,.box (lJ e)),(4,.box (k6 0 0 0 0)),(5,.box (iL 0 0 0 0 0))]) (cf:=(b2 d)) (kf:=10) (ka:=7) (ans:=λm=>(VL ((⟨m,0,0,0,0,[],[]⟩:da).mN) ((⟨m,0,0,0,0,[],[]⟩:da).κ) ((⟨m,0,0,0,0,[],[]⟩:da).θ) ((⟨m,0,0,0,0,[],[]⟩:da).N) ((⟨m,0,0,0,0,[],[]⟩:da).M) ((⟨m,0,0,0,0,[],[]⟩:da).jy) ((⟨m,0,0,0,0,[],[]⟩:da).aK))) tok func12 (by kernel_rfl) rfl rfl nb ⟨rfl,rfl,rfl⟩ ⟨rfl,rfl,rfl⟩ (by decide) (aaO _ _ _ _ _ _ _ _ _ _) rfl rfl rfl rfl rfl rfl rfl rfl rfl rfl rfl rfl rfl rfl rfl (λ_=>rfl) rfl (λ_=>rfl) ?_ ?_
 .exact rg ⟨rfl,wt Q4 ⟨hr,hr,hr,hr,Q0⟩ rfl⟩
 unfold ir at h;have⟨v1,ν,h⟩:=ι h;refine Ok.aD ⟨Ψ [(2,.b 1000 0),(3,.b 3 0),(4,.b 1001 0),(5,.b 1002 0),(6,kV v1),(7,vb ((ei e.θ uz).isSome))],[(1000,.box (b2 d)),(3,.box (lJ e)),(1001,.box (k6 0 0 0 0)),(1002,.box (iL 0 0 0 0 0))]⟩ ?_ ?_
 .have⟨x1,Θ,ν⟩:=ι ν;have⟨x2,ar,ν⟩:=ι ν;refine acf x2 (λhA=>?_) λnA hA=>?_;all_goals refine Ok.abk [[0,1,2,3,4,5,6,7,8],[0,1,2,3,4,5,7,6,8],[0,1,2,3,4,6,5,7,8],[1,0,2,3,4,5,6,7,8],[1,0,2,3,4,5,7,6,8],[1,0,2,3,4,6,5,7,8],[1,2,0,3,4,5,6,7,8],[1,2,0,3,4,5,7,6,8],[1,2,0,3,4,6,5,7,8]] tok mixed (by kernel_rfl) ⟨?_,?_,?_,?_,?_,?_,?_,?_,?_,Q0⟩
  iterate 6 (refine cg [] [(1,999)] (Gh Θ) .nil Q0 ?_;refine⟨_,rfl,_,((yI gZ (z:=(0:Int)) ar).trans (congrArg (λa=>[a]) hA)),_,Bf gZ e.θ uz,?_⟩;cases ν;exact wt ⟨lr,lr,lr,lr,Le.of_eq hA.symm,Q1⟩ J4 rfl)
  iterate 3 (refine⟨_,rfl,?_⟩;refine cg [] [(1,999)] (Gh Θ) .nil Q0 ?_;refine⟨_,((yI gZ (z:=(0:Int)) ar).trans (congrArg (λa=>[a]) hA)),_,Bf gZ e.θ uz,?_⟩;cases ν;exact wt ⟨lr,lr,lr,lr,Le.of_eq hA.symm,Q1⟩ J4 rfl)
  iterate 6 (refine cg [] [(1,999)] (Gh Θ) .nil Q0 ?_;refine⟨_,rfl,_,((yI gZ (z:=(0:Int)) ar).trans (congrArg (λa=>[a]) hA)),_,Bf gZ e.θ uz,?_⟩;cases ν;exact wt ⟨lr,lr,lr,lr,Le.of_eq hA.symm,Q1⟩ J4 rfl)
  iterate 2 (refine⟨_,rfl,?_⟩;refine cg [] [(1,999)] (Gh Θ) .nil Q0 ?_;refine⟨_,((yI gZ (z:=(0:Int)) ar).trans (congrArg (λa=>[a]) hA)),_,Bf gZ e.θ uz,?_⟩;cases ν;exact wt ⟨lr,lr,lr,lr,Le.of_eq hA.symm,Q1⟩ J4 rfl)
  refine⟨_,rfl,cg [] [(1,999)] (Gh Θ) .nil Q0 ⟨_,((yI gZ (z:=(0:Int)) ar).trans (congrArg (λa=>[a]) hA)),_,Bf gZ e.θ uz,?_⟩⟩;cases ν;exact wt ⟨lr,lr,lr,lr,Le.of_eq hA.symm,Q1⟩ J4 rfl
 refine Ok.dy (λv2=>⟨Ψ [(2,.b 1000 0),(3,.b 3 0),(4,.b 1001 0),(5,.b 1002 0),(6,kV v1)],[(1000,.box (b2 d)),(3,.box (lJ e)),(1001,.box (k6 0 0 0 0)),(1002,.box (iL 0 0 0 0 0))]⟩) (λv2=>qh v1 d e v2=V r) ?_ ?_
 .have⟨c1,ξ,h⟩:=ι h;refine Ok.jI eI tok (ah (ah (Br.ite ξ (λhb ξ=>?_) λhb ξ=>?_)))
  .refine ah (ah (⟨_,rfl,ah ?_⟩));cases ξ;have⟨c2,az,h⟩:=ι h;refine ah (ah (Br.ite az (λhb az=>?_) λhb az=>?_))
   .refine ah (ah (⟨_,rfl,ah ?_⟩));cases az;have⟨x3,aL,h⟩:=ι h;refine ah (fJ (cx [] [] (Cs aL) nq Q0 (λe1 cW=>?_) (λy1 gq=>?_)))
    .have h:=iy h cW;cases h;exact⟨_,rfl,rfl,rfl,rfl,⟨_,rfl,rfl⟩,⟨_,rfl,rfl⟩,rfl⟩
    have h:=iz h gq;exact⟨_,h,wt Q5 ⟨hr,hr,hr,hr,Q0⟩ rfl⟩
   cases az;have⟨x3,aL,h⟩:=ι h;refine ah (fJ (cx [] [] (Cs aL) nq Q0 (λe1 cW=>?_) (λy1 gq=>?_)))
   .have h:=iy h cW;cases h;exact⟨_,rfl,rfl,rfl,rfl,⟨_,rfl,rfl⟩,⟨_,rfl,rfl⟩,rfl⟩
   have h:=iz h gq;exact⟨_,h,wt Q5 ⟨hr,hr,hr,hr,Q0⟩ rfl⟩
  cases ξ;refine ah (ah ?_);have⟨c2,aQ,h⟩:=ι h;replace aQ:=dE aQ;cases aQ;have⟨x3,aL,h⟩:=ι h;refine ah (fJ (cx [] [] (Cs aL) nq Q0 (λe1 cW=>?_) (λy1 gq=>?_)))
  .have h:=iy h cW;cases h;exact⟨_,rfl,rfl,rfl,rfl,⟨_,rfl,rfl⟩,⟨_,rfl,rfl⟩,rfl⟩
  have h:=iz h gq;exact⟨_,h,wt Q5 ⟨hr,hr,hr,hr,Q0⟩ rfl⟩
 intro v2 h;unfold qh at h;refine sg ⟨_,rfl,_,rfl,wT [(4,.b 1001 0),(5,.b 1002 0),(6,kV v1),(8,.b 32 0)] [(1001,.box (k6 0 0 0 0)),(1002,.box (iL 0 0 0 0 0)),(32,.box (iK d.S.aw.η d.S.aw.Next d.S.aw.ai d.S.bE d.S.dh d.S.cM d.S.cm d.S.Next d.Holds d.et e.θ e.gp e.ib e.To e.N e.M e.iR e.aK 0 0 0 0 0)),(1000,.box (b2 d))] ⟨lr,lr,by first|exact lr|exact Le.fnE|exact Le.ach|exact Le.aci,Q1⟩ J4 rfl (Ok.dy (λv3=>⟨Ψ [(4,.b 1001 0),(5,.b 1002 0),(8,.b 32 0)],[(1001,.box (k6 0 0 0 0)),(1002,.box (iL 0 0 0 0 0)),(32,.box (VK v3.1 v3.2.1 v3.2.2.1 v3.2.2.2.1 v3.2.2.2.2.1 v3.2.2.2.2.2.1 v3.2.2.2.2.2.2.1 v3.2.2.2.2.2.2.2.1 d.Holds (t8 v3).1 e.θ e.gp e.ib e.To e.N e.M e.iR e.aK (t8 v3).2.1 (t8 v3).2.2.1 (t8 v3).2.2.2.1 (t8 v3).2.2.2.2.1 (t8 v3).2.2.2.2.2.1 (t5 (t8 v3)).2)),(1000,.box (b2 d))]⟩) (λv3=>xH d v3=V r) ?_ ?_)⟩
 .refine Ef h (λhb h=>?_) (λh=>?_)
  .have⟨x4,aZ,h⟩:=ι h;refine wT [(4,.b 1001 0),(5,.b 1002 0),(6,.c (.func 62) [] []),(8,.b 32 0)] [(1001,.box (k6 0 0 0 0)),(1002,.box (iL 0 0 0 0 0)),(32,.box (iK d.S.aw.η d.S.aw.Next d.S.aw.ai d.S.bE d.S.dh d.S.cM d.S.cm d.S.Next d.Holds d.et e.θ e.gp e.ib e.To e.N e.M e.iR e.aK 0 0 0 0 0)),(1000,.box (b2 d))] ⟨lr,lr,Le.fn hb (by decide),Q1⟩ J4 rfl (Ok.jI eI tok (ah (ah (fJ (cx [(1000,32)] [] (ajs aZ) (.cons (Ln.b rfl) .nil) ⟨⟨32,_,rfl,rfl,.box nq⟩,Q0⟩ (λe2 j7=>?_) (λy2 mj=>?_))))))
   .have h:=iy h j7;cases h;exact⟨_,rfl,rfl,rfl,rfl,⟨_,rfl,rfl⟩,⟨_,rfl,rfl⟩,rfl⟩
   have h:=iz h mj;exact⟨_,h,wt Q3 ⟨hr,hr,⟨_,rfl,.box (l4 (l4 (l4 (l4 (l4 (l2 (l1 (.cons (Le.nil) lz))))))))⟩,hr,Q0⟩ rfl⟩
  refine Ef h (λhb h=>?_) (λh=>?_)
  .have⟨x5,bT,h⟩:=ι h;refine wT [(4,.b 1001 0),(5,.b 1002 0),(6,.c (.func 63) [] []),(8,.b 32 0)] [(1001,.box (k6 0 0 0 0)),(1002,.box (iL 0 0 0 0 0)),(32,.box (iK d.S.aw.η d.S.aw.Next d.S.aw.ai d.S.bE d.S.dh d.S.cM d.S.cm d.S.Next d.Holds d.et e.θ e.gp e.ib e.To e.N e.M e.iR e.aK 0 0 0 0 0)),(1000,.box (b2 d))] ⟨lr,lr,Le.fn hb (by decide),Q1⟩ J4 rfl (Ok.jI eI tok (ah (ah (fJ (cx [(1000,32)] [(999,998)] (ajt bT) (.cons (Ln.b rfl) .nil) ⟨⟨32,_,rfl,rfl,.box nq⟩,Q0⟩ (λe3 qZ=>?_) (λy3 qp=>?_))))))
   .have h:=iy h qZ;cases h;exact⟨_,rfl,rfl,rfl,rfl,⟨_,rfl,rfl⟩,⟨_,rfl,rfl⟩,rfl⟩
   have h:=iz h qp;exact⟨_,h,(Wk.freeze (id:=998) rfl).trans (wt Q3 ⟨hr,hr,⟨_,rfl,.box (l4 (l4 (l4 (l4 (l4 (l2 (l1 (.cons (Le.nil) lz))))))))⟩,hr,Q0⟩ rfl)⟩
  refine Ef h (λhb h=>?_) (λh=>?_)
  .have⟨x6,dg,h⟩:=ι h;refine wT [(4,.b 1001 0),(5,.b 1002 0),(6,.c (.func 66) [] []),(8,.b 32 0)] [(1001,.box (k6 0 0 0 0)),(1002,.box (iL 0 0 0 0 0)),(32,.box (iK d.S.aw.η d.S.aw.Next d.S.aw.ai d.S.bE d.S.dh d.S.cM d.S.cm d.S.Next d.Holds d.et e.θ e.gp e.ib e.To e.N e.M e.iR e.aK 0 0 0 0 0)),(1000,.box (b2 d))] ⟨lr,lr,Le.fn hb (by decide),Q1⟩ J4 rfl (Ok.jI eI tok (ah (ah (fJ (cx [(1000,32)] [(999,998)] (ajv dg) (.cons (Ln.b rfl) .nil) ⟨⟨32,_,rfl,rfl,.box nq⟩,Q0⟩ (λe4 oL=>?_) (λy4 Np=>?_))))))
   .have h:=iy h oL;cases h;exact⟨_,rfl,rfl,rfl,rfl,⟨_,rfl,rfl⟩,⟨_,rfl,rfl⟩,rfl⟩
   have h:=iz h Np;exact⟨_,h,(Wk.freeze (id:=998) rfl).trans (wt Q3 ⟨hr,hr,⟨_,rfl,.box (l4 (l4 (l4 (l4 (l4 (l2 (l1 (.cons (Le.nil) lz))))))))⟩,hr,Q0⟩ rfl)⟩
  refine Ef h (λhb h=>?_) (λh=>?_)
  .have⟨x7,du,h⟩:=ι h;refine wT [(4,.b 1001 0),(5,.b 1002 0),(6,.c (.func 67) [] []),(8,.b 32 0)] [(1001,.box (k6 0 0 0 0)),(1002,.box (iL 0 0 0 0 0)),(32,.box (iK d.S.aw.η d.S.aw.Next d.S.aw.ai d.S.bE d.S.dh d.S.cM d.S.cm d.S.Next d.Holds d.et e.θ e.gp e.ib e.To e.N e.M e.iR e.aK 0 0 0 0 0)),(1000,.box (b2 d))] ⟨lr,lr,Le.fn hb (by decide),Q1⟩ J4 rfl (Ok.jI eI tok (ah (ah (fJ (cx [(1000,32)] [] (ajr du) (.cons (Ln.b rfl) .nil) ⟨⟨32,_,rfl,rfl,.box nq⟩,Q0⟩ (λe5 MM=>?_) (λy5 DT=>?_))))))
   .have h:=iy h MM;cases h;exact⟨_,rfl,rfl,rfl,rfl,⟨_,rfl,rfl⟩,⟨_,rfl,rfl⟩,rfl⟩
   have h:=iz h DT;exact⟨_,h,wt Q3 ⟨hr,hr,hr,hr,Q0⟩ rfl⟩
  refine Ef h (λhb h=>?_) (λh=>?_)
  .have⟨x8,eJ,h⟩:=ι h;refine wT [(4,.b 1001 0),(5,.b 1002 0),(6,.c (.func 68) [] []),(8,.b 32 0)] [(1001,.box (k6 0 0 0 0)),(1002,.box (iL 0 0 0 0 0)),(32,.box (iK d.S.aw.η d.S.aw.Next d.S.aw.ai d.S.bE d.S.dh d.S.cM d.S.cm d.S.Next d.Holds d.et e.θ e.gp e.ib e.To e.N e.M e.iR e.aK 0 0 0 0 0)),(1000,.box (b2 d))] ⟨lr,lr,Le.fn hb (by decide),Q1⟩ J4 rfl (Ok.jI eI tok (ah (ah (fJ (cx [(1000,32)] [] (ajw eJ) (.cons (Ln.b rfl) .nil) ⟨⟨32,_,rfl,rfl,.box nq⟩,Q0⟩ (λe6 he6=>?_) (λy6 hq6=>?_))))))
   .have h:=iy h he6;cases h;exact⟨_,rfl,rfl,rfl,rfl,⟨_,rfl,rfl⟩,⟨_,rfl,rfl⟩,rfl⟩
   have h:=iz h hq6;exact⟨_,h,wt Q3 ⟨hr,hr,⟨_,rfl,.box (l4 (l4 (l4 (l4 (l4 (l2 (l1 (.cons (Le.nil) lz))))))))⟩,hr,Q0⟩ rfl⟩
  cases h
 intro v3 h;unfold xH at h;cases h;exact sq (Ok.iG (m:=8) (late:=[4,5,6,7]) (MD:=⟨[]⟩) (CH:=⟨[]⟩) tok mixed (by kernel_rfl) ⟨_,rfl,_,rfl,_,rfl,_,⟨_,rfl,rfl⟩,_,rfl,_,rfl,_,rfl,_,⟨_,rfl,rfl⟩,Q0,_,rfl,⟨⟨_,rfl,rfl⟩,⟨_,rfl,rfl⟩,⟨_,rfl,rfl⟩,⟨_,rfl,_,rfl,rfl⟩,Q0⟩,_,rfl,wT [(4,.b 1001 0),(5,.b 1002 0)] [(1001,.box (k5 v3.1 v3.2.1 v3.2.2.1 v3.2.2.2.1 v3.2.2.2.2.1 v3.2.2.2.2.2.1 v3.2.2.2.2.2.2.1 v3.2.2.2.2.2.2.2.1 d.Holds (t8 v3).1)),(1002,.box (k20 (t8 v3).2.1 (t8 v3).2.2.1 (t8 v3).2.2.2.1 (t8 v3).2.2.2.2.1 (t8 v3).2.2.2.2.2.1 (t5 (t8 v3)).2)),(1000,.box (b2 d))] Q2 J3 rfl (rt ⟨_,rfl,_,rfl,Fz.t (.cons (Fz.cP rfl) (.cons (Fz.a (.cons Fz.v (.cons Fz.v (.cons Fz.v (.cons Fz.v (.cons Fz.v (.cons Fz.s (.cons Fz.nil .nil)))))))) .nil))⟩)⟩)
def Zy{a r}(h:Ew a=V r):j5 prog 84 [vi a] 5 1 (mU r):=by
 refine pv tok 27 func84 ?_;unfold Ew at h;have⟨v1,ν,h⟩:=ι h;refine sg (sg (sg ⟨_,rfl,by decide,_,rfl,by decide,_,rfl,_,rfl,_,rfl,Ok.aD ⟨Ψ [(3,.o 21),(4,.v (.int .u64 v1.1))],[(21,.own 5 1 (mU v1.2))]⟩ ?_ ?_⟩))
 .refine bl (Ok.loop (λ(s1:Int×(List UInt8))=>⟨Ψ [(3,.o 21),(4,.v (.int .u64 s1.1))],[(21,.own 5 1 (mU s1.2))]⟩) (OJ) (s0:=((Rj .u64 (zr .u64 (IntKind.u64.wrap a) (1)) (IntKind.u64.wrap (gS .i64 a (63)))),[])) ν ((Wk.oW (t:=3) (id:=21) (E:=5) (K:=1) rfl rfl).trans (wt Q2 ⟨hr,Q0⟩ rfl)) ?_);intro s1 y1 ζ aB;unfold OJ at ζ;refine sq (sg (ct ζ (λhb ζ=>?_) λhb ζ=>?_))
  .have⟨aj,ζ⟩:=aq ζ;exact sk (sq (bl (rg ⟨_,YM _,_,aaD (nt s1.1) (128:UInt8),ah ⟨c_ (f:=dV) (n:=1) (λ_=>rfl) ([(nt s1.1) ||| (128:UInt8)]),c8 (f:=dV) (l:=s1.2) (l':=[(nt s1.1) ||| (128:UInt8)]) aj,_,(bO (f:=dV) (l₁:=s1.2) (l₂:=[(nt s1.1) ||| (128:UInt8)])).symm,rg ⟨by decide,_,rfl,_,sj ζ,wt Q2 J1 rfl⟩⟩⟩)))
  refine xt ?_;have ζ:=aT ζ aB;cases ζ;exact wt Q2 J1 rfl
 have⟨aX,h⟩:=aq h;cases h;exact sg ⟨_,YM _,ah ⟨c_ (f:=dV) (n:=1) (λ_=>rfl) ([nt v1.1]),c8 (f:=dV) (l:=v1.2) (l':=[nt v1.1]) aX,_,(bO (f:=dV) (l₁:=v1.2) (l₂:=[nt v1.1])).symm,rt (.inr ⟨_,rfl,rfl⟩)⟩⟩
def ah9{a r}(h:Ew a=V r):Pure prog 84 [vi a] (.s (mU r)):=(Zy h).pure
def Zz{a r}(h:Ex a=V r):j5 prog 36 [.s (mB a)] 5 1 (mU r):=by
 refine pv tok 18 func36 ?_;unfold Ex at h;have⟨v1,ν,h⟩:=ι h;refine sg (sg (Ok.aD ⟨Ψ [(3,.o 15)],[(15,.own 5 1 (mU v1))]⟩ ?_ ?_))
 .refine sg ⟨_,au _,λ_=>bl (Ok.loop (λ(s1:Int×(List UInt8))=>⟨Ψ [(3,.o 15),(6,.s (mB a)),(7,vi (a.length:Int)),(8,vi s1.1)],[(15,.own 5 1 (mU s1.2))]⟩) (OO a) (s0:=(0,[])) ν ((Wk.oW (t:=3) (id:=15) (E:=5) (K:=1) rfl rfl).trans (wt Q4 ⟨hr,Q0⟩ rfl)) ?_)⟩;intro s1 y1 ζ aB;unfold OO at ζ;refine sg (sq (ct ζ (λhb ζ=>?_) λhb ζ=>?_))
  .have⟨x1,Θ,ζ⟩:=ι ζ;have⟨x2,ar,ζ⟩:=ι ζ;have⟨aj,ζ⟩:=aq ζ;have⟨aX,ζ⟩:=aq ζ;exact sk (sq (bl (sg ⟨_,aO Θ,_,aP Θ,_,rfl,rg (Ω.call (ah9 ar) lz ⟨c_ (f:=dV) (n:=1) (λ_=>rfl) x2,c8 (f:=dV) (l:=s1.2) (l':=x2) aj,_,(bO (f:=dV) (l₁:=s1.2) (l₂:=x2)).symm,rg (ah ⟨aX,_,sj ζ,wt Q4 J1 rfl⟩)⟩)⟩)))
  refine xt ?_;have ζ:=aT ζ aB;cases ζ;exact wt Q1 J1 rfl
 cases h;exact sg (rt (.inr ⟨_,rfl,rfl⟩))
def aib{a r}(h:Ex a=V r):Pure prog 36 [.s (mB a)] (.s (mU r)):=(Zz h).pure
def ajO{a r}(h:Bq a=V r):j5 prog 37 [vs a] 5 1 (mU r):=by
 refine pv tok 8 func37 ?_;unfold Bq at h;have⟨x1,Θ,h⟩:=ι h;have⟨aj,h⟩:=aq h;cases h;exact sg (sg ⟨_,kp _,Ω.own (D:=5) (Zy Θ) lz rfl ⟨c_ (f:=dV) (n:=1) (λ_=>rfl) a,c8 (f:=dV) (l:=x1) (l':=a) aj,_,(bO (f:=dV) (l₁:=x1) (l₂:=a)).symm,rt (.inr ⟨_,rfl,rfl⟩)⟩⟩)
def QP{a r}(h:Bq a=V r):Pure prog 37 [vs a] (.s (mU r)):=(ajO h).pure
def ajN{c r}(h:IW c=V r):j5 prog 17 [.a (lJ c)] 5 1 (mU r):=by
 refine pv tok 36 func17 ?_;unfold IW at h;have⟨x1,Θ,h⟩:=ι h;have⟨x2,ar,h⟩:=ι h;have⟨aj,h⟩:=aq h;have⟨x3,aL,h⟩:=ι h;have⟨aX,h⟩:=aq h;have⟨x4,aZ,h⟩:=ι h;have⟨bY,h⟩:=aq h;have⟨x5,bT,h⟩:=ι h;have⟨dL,h⟩:=aq h;cases h;exact sg (sg ⟨_,rfl,_,rfl,ah (Ω.own (D:=9) (Zz Θ) lz rfl (sg ⟨_,rfl,Ω.call (QP ar) lz ⟨c_ (f:=dV) (n:=1) (λ_=>rfl) x2,c8 (f:=dV) (l:=x1) (l':=x2) aj,_,(bO (f:=dV) (l₁:=x1) (l₂:=x2)).symm,sg ⟨_,rfl,Ω.call (QP aL) lz ⟨c_ (f:=dV) (n:=1) (λ_=>rfl) x3,c8 (f:=dV) (l:=x1++x2) (l':=x3) aX,_,(bO (f:=dV) (l₁:=x1++x2) (l₂:=x3)).symm,sg ⟨_,rfl,_,rfl,_,rfl,ah (Ω.call (aib aZ) lz ⟨c_ (f:=dV) (n:=1) (λ_=>rfl) x4,c8 (f:=dV) (l:=(x1++x2)++x3) (l':=x4) bY,_,(bO (f:=dV) (l₁:=(x1++x2)++x3) (l₂:=x4)).symm,sg ⟨_,rfl,_,rfl,Ω.call (QP bT) lz ⟨c_ (f:=dV) (n:=1) (λ_=>rfl) x5,c8 (f:=dV) (l:=((x1++x2)++x3)++x4) (l':=x5) dL,_,(bO (f:=dV) (l₁:=((x1++x2)++x3)++x4) (l₂:=x5)).symm,rt (.inr ⟨_,rfl,rfl⟩)⟩⟩⟩)⟩⟩⟩⟩⟩))⟩)
def ah_{b r}(h:IW b=V r):Pure prog 17 [.a (lJ b)] (.s (mU r)):=(ajN h).pure
def ah'{a r}(h:OK a=V r):Pure prog 82 [.s (mU a)] (.t (k21 r.1 r.2.1 r.2.2)):=by
 refine pq tok 50 func82 ?_;unfold OK at h;refine sg (sg (Ok.dy (λv1=>⟨Ψ [],[]⟩) (λv1=>OM v1=V r) ?_ ?_))
 .refine sg ⟨_,au _,λ_=>bl (Ok.loop (λ(s1:Int×Int)=>⟨Ψ [(0,.s (mU a)),(5,.v (.int .u64 s1.1)),(8,.s (mU a)),(9,vi (a.length:Int)),(10,vi s1.2)],[]⟩) (OL a) (s0:=(0,0)) h (wt Q5 Q0 rfl) ?_)⟩;intro s1 y1 ζ aB;unfold OL at ζ;refine sg (sq (ct ζ (λhb ζ=>?_) λhb ζ=>?_))
  .have⟨x1,Θ,ζ⟩:=ι ζ;have⟨v2,Φ,ζ⟩:=ι ζ;refine sk (sq (bl (sg ⟨_,aO Θ,_,aP Θ,_,rfl,sq (Ok.aD ⟨Ψ [(0,.s (mU a)),(5,.v (.int .u64 s1.1)),(6,vi s1.2),(7,vu x1),(8,.s (mU a)),(9,vi (a.length:Int)),(10,vi s1.2),(20,vb v2)],[]⟩ ?_ ?_)⟩)))
   .have⟨c1,ξ,Φ⟩:=ι Φ;refine rg (Br.ite ξ (λhb ξ=>?_) λhb ξ=>?_)
    .cases ξ;cases Φ;exact wt Q8 Q0 rfl
    cases ξ;cases Φ;exact wt Q8 Q0 rfl
   refine ct ζ (λhb ζ=>?_) λhb ζ=>?_
   .refine sg (rt ?_);have ζ:=aT ζ aB;cases ζ;exact(Fz.t (.cons Fz.v (.cons Fz.nil fq)))
   have⟨aj,ζ⟩:=aq ζ;have⟨aX,ζ⟩:=aq ζ;refine sk (sg ⟨_,aaC x1 (127:UInt8),_,ajZ (k:=.u64) (by decide) _,ah ⟨aj,aX,_,rfl,_,rfl,sq (sg (ct ζ (λhb ζ=>?_) λhb ζ=>?_))⟩⟩)
   .have⟨bY,ζ⟩:=aq ζ;exact xt (rg (ah ⟨bY,_,sj ζ,wt Q5 Q0 rfl⟩))
   have⟨v3,aA,ζ⟩:=ι ζ;refine sk (sq (Ok.aD ⟨Ψ [(0,.s (mU a)),(5,.v (.int .u64 (Eu .u64 s1.1 (zr .u64 ((x1 &&& (127:UInt8)).toNat:Int) (7*s1.2))))),(6,vi s1.2),(36,vb v3)],[]⟩ ?_ ?_))
   .have⟨c2,az,aA⟩:=ι aA;refine rg (Br.ite az (λhb az=>?_) λhb az=>?_)
    .cases az;cases aA;exact wt Q4 Q0 rfl
    cases az;cases aA;exact wt Q4 Q0 rfl
   refine ct ζ (λhb ζ=>?_) λhb ζ=>?_
   .refine sg (rt ?_);have ζ:=aT ζ aB;cases ζ;exact(Fz.t (.cons Fz.v (.cons Fz.nil fq)))
   have⟨dL,ζ⟩:=aq ζ;have⟨fL,ζ⟩:=aq ζ;have⟨qY,ζ⟩:=aq ζ;refine sk (sq (dw 15 tok mixed ⟨_,rfl,_,⟨by decide,_,rfl,rfl⟩,_,⟨_,rfl,rfl⟩,_,rfl,_,⟨_,rfl,rfl⟩,_,⟨_,rfl,rfl⟩,_,⟨_,ae.wrap dL,rfl⟩,_,⟨_,rfl,rfl⟩,_,rfl,_,rfl,_,ah ⟨fL,rfl⟩,_,⟨_,gJ qY.1,pU qY,bm _,oc (f:=dV) (K:=1) (λ_=>rfl) a,_,FK _ _ _,rfl⟩,_,rfl,_,rfl,_,rfl,Q0,rt ?_⟩));have ζ:=aT ζ aB;cases ζ;exact(Fz.t (.cons Fz.v (.cons Fz.s fq)))
  refine xt ?_;have ζ:=aT ζ aB;exact⟨_,ζ,wt Q0 Q0 rfl⟩
 intro v1 h;unfold OM at h;cases h;exact sg (rt (Fz.t (.cons Fz.v (.cons Fz.nil fq))))
def Cq{self r}(h:wh self=V r):mO prog 33 [.b 1000 0] (.box [.s (mU self.jc.b_),vi self.e_]) (λx c=>x=(vi r.1)/\c=.box [.s (mU r.2.jc.b_),vi r.2.e_]):=by
 refine qv (n:=31) (c:=f33.body.getD .skip) tok func33 (by kernel_rfl) rfl rfl nb ?_;unfold wh at h;refine sg (sq (sg ⟨_,rfl,ct h (λhb h=>?_) λhb h=>?_⟩))
 .cases h;exact sg (rt ⟨_,_,⟨rfl,rfl⟩,rfl,rfl,Fz.v⟩)
 have⟨x1,Θ,h⟩:=ι h;cases h;exact sk (sg ⟨_,rfl,Ω.call (ah' Θ) lz (sg ⟨_,rfl,_,rfl,sg (rt ⟨_,_,⟨rfl,rfl⟩,rfl,rfl,Fz.v⟩)⟩)⟩)
def aic{self r}(h:OP self=V r):mO prog 38 [.b 1000 0] (.box [.s (mU self.jc.b_),vi self.e_]) (λx c=>x=(vi r.1)/\c=.box [.s (mU r.2.jc.b_),vi r.2.e_]):=by
 refine qv (n:=31) (c:=f38.body.getD .skip) tok func38 (by kernel_rfl) rfl rfl nb ?_;unfold OP at h;have⟨x1,Θ,h⟩:=ι h;refine sg (sg (Ω.fj (id:=1000) (Cq Θ) rfl (.box lz) rfl (.cons (Lr.b) .nil) ?_));rintro _ _ ⟨rfl,rfl⟩;refine Ok.dy (λv1=>⟨Ψ [],[(1000,.box [.s (mU x1.2.jc.b_),vi v1])]⟩) (λv1=>IX x1 v1=V r) ?_ ?_
 .refine bl (sg ⟨_,rfl,ct h (λhb h=>?_) λhb h=>?_⟩)
  .cases h;exact sg (rt ⟨_,_,⟨rfl,rfl⟩,rfl,rfl,Fz.v⟩)
  refine sg (ct h (λhb h=>?_) λhb h=>?_)
  .exact rg ⟨_,rfl,_,h,wt Q0 ⟨hr,Q0⟩ rfl⟩
  refine sg ⟨_,rfl,_,au _,λ_=>ct h (λhb h=>?_) λhb h=>?_⟩
  .exact rg ⟨_,rfl,_,h,wt Q0 ⟨hr,Q0⟩ rfl⟩
  cases h;exact sg (rt ⟨_,_,⟨rfl,rfl⟩,rfl,rfl,Fz.v⟩)
 intro v1 h;unfold IX at h;cases h;exact sg (rt ⟨_,_,⟨rfl,rfl⟩,rfl,rfl,Fz.v⟩)
def aie{self a r}(h:OR self a=V r):mO prog 83 [.b 1000 0,vi a] (.box [.s (mU self.jc.b_),vi self.e_]) (λx c=>x=(.s (mU r.1))/\c=.box [.s (mU r.2.jc.b_),vi r.2.e_]):=by
 refine qv (n:=22) (c:=f83.body.getD .skip) tok func83 (by kernel_rfl) rfl rfl nb ?_;unfold OR at h;have⟨aj,h⟩:=aq h;have⟨aX,h⟩:=aq h;cases h;exact sg (sg ⟨_,rfl,_,gJ aj.1,Nat.zero_le _,pU aj,oc (f:=dV) (K:=1) (λ_=>rfl) self.jc.b_,_,zu _ _ _,sg ⟨_,rfl,_,gJ aX.1,pU aX,bm _,oc (f:=dV) (K:=1) (λ_=>rfl) self.jc.b_,_,FK _ _ _,_,rfl,sg (rt ⟨_,_,⟨rfl,rfl⟩,rfl,rfl,Fz.s⟩)⟩⟩)
def QQ{self r}(h:Ey self=V r):mO prog 34 [.b 1000 0] (.box [.s (mU self.jc.b_),vi self.e_]) (λx c=>x=(vs r.1)/\c=.box [.s (mU r.2.jc.b_),vi r.2.e_]):=by
 refine qv (n:=17) (c:=f34.body.getD .skip) tok func34 (by kernel_rfl) rfl rfl nb ?_;unfold Ey at h;have⟨x1,Θ,h⟩:=ι h;refine sg (sg (Ω.fj (id:=1000) (aic Θ) rfl (.box lz) rfl (.cons (Lr.b) .nil) ?_));rintro _ _ ⟨rfl,rfl⟩;refine sq (sg ⟨_,rfl,ct h (λhb h=>?_) λhb h=>?_⟩)
 .cases h;exact sg (rt ⟨_,_,⟨rfl,rfl⟩,rfl,rfl,Fz.v⟩)
 have⟨x2,ar,h⟩:=ι h;refine sk (sg (Ω.fj (id:=1000) (aie ar) rfl (.box lz) rfl (.cons (Lr.b) (.cons (Lr.cP rfl) .nil)) ?_));rintro _ _ ⟨rfl,rfl⟩;cases h;exact⟨_,rfl,rt ⟨_,_,⟨rfl,rfl⟩,rfl,rfl,Fz.v⟩⟩
def aid{self r}(h:OQ self=V r):mO prog 35 [.b 1000 0] (.box [.s (mU self.jc.b_),vi self.e_]) (λx c=>x=(vi r.1)/\c=.box [.s (mU r.2.jc.b_),vi r.2.e_]):=by
 refine qv (n:=24) (c:=f35.body.getD .skip) tok func35 (by kernel_rfl) rfl rfl nb ?_;unfold OQ at h;have⟨v1,ν,h⟩:=ι h;refine sg (Ok.aD ⟨Ψ [(0,.b 1000 0)],[(1000,.box [.s (mU self.jc.b_),vi v1])]⟩ ?_ ?_)
 .have⟨v2,Φ,ν⟩:=ι ν;refine Ok.aD ⟨Ψ [(0,.b 1000 0),(16,vb v2)],[(1000,.box [.s (mU self.jc.b_),vi self.e_])]⟩ ?_ ?_
  .have⟨c1,ξ,Φ⟩:=ι Φ;refine rg ⟨_,rfl,Br.ite ξ (λhb ξ=>?_) λhb ξ=>?_⟩
   .refine⟨_,rfl,_,au _,λ_=>?_⟩;cases ξ;cases Φ;exact wt Q2 J1 rfl
   cases ξ;cases Φ;exact wt Q2 J1 rfl
  refine ct ν (λhb ν=>?_) λhb ν=>?_
  .refine rg ⟨_,rfl,?_⟩;cases ν;exact wt Q1 J1 rfl
  refine sk ?_;cases ν;exact wt Q1 J1 rfl
 cases h;exact sg ⟨_,rfl,rt ⟨_,_,⟨rfl,rfl⟩,rfl,rfl,Fz.v⟩⟩
def aia{c r}(h:ON c=V r):Pure prog 16 [.s (mU c)] (.t [.a (lJ r.1),vi r.2]):=by
 refine pq tok 43 func16 ?_;unfold ON at h;have⟨x1,Θ,h⟩:=ι h;refine sg (sg (sg (sg (Ω.fj (id:=10) (Cq Θ) rfl (.box lz) rfl (.cons (Lr.b) .nil) ?_))));rintro _ _ ⟨rfl,rfl⟩;have⟨x2,ar,h⟩:=ι h;refine Ω.fj (id:=10) (Cq ar) rfl (.box lz) rfl (.cons (Lr.b) .nil) ?_;rintro _ _ ⟨rfl,rfl⟩;have⟨x3,aL,h⟩:=ι h;refine⟨_,rfl,_,rfl,sg (Ω.fj (id:=10) (QQ aL) rfl (.box lz) rfl (.cons (Lr.b) .nil) ?_)⟩;rintro _ _ ⟨rfl,rfl⟩;have⟨x4,aZ,h⟩:=ι h;refine Ω.fj (id:=10) (QQ aZ) rfl (.box lz) rfl (.cons (Lr.b) .nil) ?_;rintro _ _ ⟨rfl,rfl⟩;have⟨x5,bT,h⟩:=ι h;refine⟨_,rfl,_,rfl,wT [(2,.b 2 0),(4,.b 10 0),(5,.b 5 0)] [(2,.box (VM 0 0 ([]) ([]) 0 0 0)),(10,.box [.s (mU x4.2.jc.b_),vi x4.2.e_]),(5,.box (VM x1.1 x2.1 x3.1 x4.1 0 0 0))] Q3 J3 rfl (sg (Ω.fj (id:=10) (Cq bT) rfl (.box lz) rfl (.cons (Lr.b) .nil) ?_))⟩;rintro _ _ ⟨rfl,rfl⟩;have⟨x6,dg,h⟩:=ι h;refine Ω.fj (id:=10) (Cq dg) rfl (.box lz) rfl (.cons (Lr.b) .nil) ?_;rintro _ _ ⟨rfl,rfl⟩;have⟨x7,du,h⟩:=ι h;refine Ω.fj (id:=10) (Cq du) rfl (.box lz) rfl (.cons (Lr.b) .nil) ?_;rintro _ _ ⟨rfl,rfl⟩;have⟨x8,eJ,h⟩:=ι h;refine⟨_,rfl,_,rfl,_,rfl,sg (Ω.fj (id:=10) (QQ eJ) rfl (.box lz) rfl (.cons (Lr.b) .nil) ?_)⟩;rintro _ _ ⟨rfl,rfl⟩;have⟨aj,h⟩:=aq h;have⟨x9,ga,h⟩:=ι h;refine⟨ahs aj,_,rfl,sq (sg (Ω.fj (id:=10) (aid ga) rfl (.box lz) rfl (.cons (Lr.b) .nil) ?_))⟩
 rintro _ _ ⟨rfl,rfl⟩;refine sg (ct h (λhb h=>?_) λhb h=>?_)
 .cases h;exact sg ⟨_,rfl,rt ⟨_,rfl,Fz.t (.cons (Fz.a (.cons Fz.v (.cons Fz.v (.cons Fz.v (.cons Fz.v (.cons Fz.v (.cons Fz.v (.cons Fz.v (.cons Fz.nil .nil))))))))) fq)⟩⟩
 cases h;exact sk (sg ⟨_,rfl,_,rfl,rt ⟨_,rfl,Fz.t fq⟩⟩)
def ajc[oC]{r}(h:Qv=V r):Pure prog 8 [] (vb r):=by
 refine pq tok 85 func8 ?_;unfold Qv at h;have⟨x1,Θ,h⟩:=ι h;have⟨x2,ar,h⟩:=ι h;have⟨x3,aL,h⟩:=ι h;have⟨x4,aZ,h⟩:=ι h;have⟨x5,bT,h⟩:=ι h;have⟨x6,dg,h⟩:=ι h;have⟨x7,du,h⟩:=ι h;have⟨x8,eJ,h⟩:=ι h;refine sg (sg (Ω.call (ahT Θ) lz (Ω.call (qC ar) (l1 (.cons (Le.a (l4 (l2 (l1 (.cons (Le.nil) .nil))))) .nil)) ⟨_,rfl,_,rfl,sg ⟨_,rfl,Ω.call (qC aL) (l1 (.cons (Le.a (l4 (l2 (l1 (.cons (Le.nil) .nil))))) .nil)) ⟨_,rfl,_,rfl,sg ⟨_,rfl,Ω.call (qC aZ) (l1 (.cons (Le.a (l4 (l2 (l1 (.cons (Le.nil) .nil))))) .nil)) ⟨_,rfl,_,rfl,wT [(1,.b 1 0),(2,.b 2 0),(3,.b 3 0),(4,.b 4 0)] [(1,.box (b2 x4.1)),(2,.box (iS x2.2)),(3,.box (iS x3.2)),(4,.box (iS x4.2))] Q4 J4 rfl (sg ⟨_,rfl,Ω.call (qC bT) (l1 (.cons (Le.a (l4 (l2 (l1 (.cons (Le.nil) .nil))))) .nil)) ⟨_,rfl,_,rfl,sg ⟨_,rfl,Ω.call (qC dg) (l1 (.cons (Le.a (l4 (l2 (l1 (.cons (Le.nil) .nil))))) .nil)) ⟨_,rfl,_,rfl,wT [(2,.b 2 0),(3,.b 3 0),(4,.b 4 0),(6,.b 6 0),(8,.b 8 0)] [(2,.box (iS x2.2)),(3,.box (iS x3.2)),(4,.box (iS x4.2)),(6,.box (iS x5.2)),(8,.box (iS x6.2))] Q5 ⟨hr,J4⟩ rfl (sg (Ω.call (ah_ du) (.cons (Le.a (l4 (l2 (l1 (.cons (Le.nil) .nil))))) .nil) (Ω.call (aia eJ) lz ⟨_,rfl,sq (sg ⟨_,rfl,_,au _,λ_=>?_⟩)⟩)))⟩⟩⟩⟩)⟩⟩⟩⟩⟩)))
 refine ct h (λhb h=>?_) λhb h=>?_
 .cases h;exact sg (rt Fz.v)
 have⟨v1,ν,h⟩:=ι h;refine sk (Ok.aD ⟨Ψ [(0,vb v1)],[]⟩ ?_ ?_)
 .have⟨c1,ξ,ν⟩:=ι ν;refine rg ⟨_,rfl,Br.ite ξ (λhb ξ=>?_) λhb ξ=>?_⟩
  .refine⟨_,rfl,?_⟩;cases ξ;have⟨c2,az,ν⟩:=ι ν;refine Br.ite az (λhb az=>?_) λhb az=>?_
   .refine⟨_,rfl,?_⟩;cases az;have⟨c3,aQ,ν⟩:=ι ν;refine Br.ite aQ (λhb aQ=>?_) λhb aQ=>?_
    .have⟨x9,ga,aQ⟩:=ι aQ;refine⟨_,rfl,_,aO ga,_,aP ga,_,rfl,_,oh _ _,?_⟩;cases aQ;have⟨c4,bC,ν⟩:=ι ν;refine Br.ite bC (λhb bC=>?_) λhb bC=>?_
     .refine⟨_,rfl,?_⟩;cases bC;have⟨c5,bX,ν⟩:=ι ν;refine Br.ite bX (λhb bX=>?_) λhb bX=>?_
      .refine⟨_,rfl,_,oh _ _,?_⟩;cases bX;have⟨c6,cI,ν⟩:=ι ν;refine Br.ite cI (λhb cI=>?_) λhb cI=>?_
       .cases cI;cases ν;exact wt Q1 Q0 rfl
       cases cI;cases ν;exact wt Q1 Q0 rfl
      cases bX;have⟨c6,cJ,ν⟩:=ι ν;replace cJ:=dE cJ;cases cJ;cases ν;exact wt Q1 Q0 rfl
     cases bC;have⟨c5,c9,ν⟩:=ι ν;replace c9:=dE c9;cases c9;have⟨c6,dr,ν⟩:=ι ν;replace dr:=dE dr;cases dr;cases ν;exact wt Q1 Q0 rfl
    cases aQ;have⟨c4,dY,ν⟩:=ι ν;replace dY:=dE dY;cases dY;have⟨c5,iU,ν⟩:=ι ν;replace iU:=dE iU;cases iU;have⟨c6,iV,ν⟩:=ι ν;replace iV:=dE iV;cases iV;cases ν;exact wt Q1 Q0 rfl
   cases az;have⟨c3,jl,ν⟩:=ι ν;replace jl:=dE jl;cases jl;have⟨c4,kZ,ν⟩:=ι ν;replace kZ:=dE kZ;cases kZ;have⟨c5,iW,ν⟩:=ι ν;replace iW:=dE iW;cases iW;have⟨c6,nN,ν⟩:=ι ν;replace nN:=dE nN;cases nN;cases ν;exact wt Q1 Q0 rfl
  cases ξ;have⟨c2,q8,ν⟩:=ι ν;replace q8:=dE q8;cases q8;have⟨c3,q9,ν⟩:=ι ν;replace q9:=dE q9;cases q9;have⟨c4,pG,ν⟩:=ι ν;replace pG:=dE pG;cases pG;have⟨c5,mY,ν⟩:=ι ν;replace mY:=dE mY;cases mY;have⟨c6,pH,ν⟩:=ι ν;replace pH:=dE pH;cases pH;cases ν;exact wt Q1 Q0 rfl
 cases h;exact rt Fz.v
def ajd[oC]{r}(h:Qw=V r):Pure prog 8 [] (vb r):=ajc (K:=VZ) h
def ah5{c r}(h:Iq c=V r):Pure prog 21 [.a (lJ c)] (vb r):=by
 refine pq tok 19 func21 ?_;unfold Iq at h;have⟨v1,ν,h⟩:=ι h;refine sg (Ok.aD ⟨Ψ [(2,vb v1)],[]⟩ ?_ ?_)
 .have⟨c1,ξ,ν⟩:=ι ν;refine rg ⟨_,rfl,_,au _,λ_=>Br.cA ξ (λhb ξ=>?_) λhb ξ=>?_⟩
  .cases ξ;have⟨c2,az,ν⟩:=ι ν;replace az:=dS az;cases az;cases ν;exact wt Q1 Q0 rfl
  refine⟨_,rfl,_,kp _,?_⟩;cases ξ;have⟨c2,aQ,ν⟩:=ι ν;refine Br.cA aQ (λhb aQ=>?_) λhb aQ=>?_
  .cases aQ;cases ν;exact wt Q1 Q0 rfl
  refine⟨_,rfl,_,kp _,?_⟩;cases aQ;cases ν;exact wt Q1 Q0 rfl
 cases h;exact rt Fz.v
def ah4{a r}(h:Ej a=V r):Pure prog 9 [.s (mK a)] (vb r):=by
 refine pq tok 18 func9 ?_;unfold Ej at h;refine sg (sq (sg ⟨_,au _,λ_=>ct h (λhb h=>?_) λhb h=>?_⟩))
 .cases h;exact sg (rt Fz.v)
 refine sk (Ok.dy (λv1=>⟨Ψ [],[]⟩) (λv1=>Ob v1=V r) ?_ ?_)
 .refine sg (bl (Ok.loop (λ(s1:Int)=>⟨Ψ [(0,.s (mK a)),(3,vi s1)],[]⟩) (Ip a) (s0:=0) h (wt Q2 Q0 rfl) ?_));intro s1 y1 ζ aB;unfold Ip at ζ;refine sq (sg ⟨_,au _,λ_=>ct ζ (λhb ζ=>?_) λhb ζ=>?_⟩)
  .have⟨x1,Θ,ζ⟩:=ι ζ;have⟨x2,ar,ζ⟩:=ι ζ;refine sk (sq (bl (sg ⟨_,aO Θ,_,aP Θ,_,rfl,Ω.call (ah5 ar) lz (ct ζ (λhb ζ=>?_) λhb ζ=>?_)⟩)))
   .refine sg (rt ?_);have ζ:=aT ζ aB;cases ζ;exact Fz.v
   have⟨aj,ζ⟩:=aq ζ;exact sk (rg (ah ⟨aj,_,sj ζ,wt Q2 Q0 rfl⟩))
  refine xt ?_;have ζ:=aT ζ aB;exact⟨_,ζ,wt Q0 Q0 rfl⟩
 intro v1 h;unfold Ob at h;cases h;exact sg (rt Fz.v)
def aio{r}(h:Jd=V r):Pure prog 47 [] (.a (b0 r)):=by
 refine pq tok 4 func47 ?_;unfold Jd at h;cases h;exact sg (sg (ah ⟨_,rfl,rt ⟨_,rfl,Fz.cP rfl⟩⟩))
def aiG{c r}(h:Jp c=V r):Pure prog 46 [.a (b0 c)] (.a (b1 r)):=by
 refine pq tok 9 func46 ?_;unfold Jp at h;have⟨aj,h⟩:=aq h;cases h;exact sg (sq (dw 6 tok mixed ⟨_,⟨_,rfl,rfl⟩,_,rfl,_,⟨_,rfl,rfl⟩,_,⟨_,au _,λ_=>rfl⟩,_,⟨_,_,v_ aj,v_ aj,bm _,mk_le (by decide) aj,aj.2,_,(List.map_replicate (f:=Go.Cat.encI) (a:=(0:Int))).symm,rfl⟩,_,rfl,Q0,_,rfl,rt ⟨_,rfl,Fz.a (.cons Fz.s (.cons Fz.v (.cons Fz.v (.cons Fz.v (.cons Fz.s (.cons Fz.nil (.cons Fz.nil fq)))))))⟩⟩))
def aiM{r}(h:Fq=V r):Pure prog 22 [] (.a (b2 r)):=by
 refine pq tok 4 func22 ?_;unfold Fq at h;have⟨x1,Θ,h⟩:=ι h;have⟨x2,ar,h⟩:=ι h;cases h;exact sg (sg (Ω.call (aio Θ) lz (Ω.call (aiG ar) lz ⟨_,rfl,rt ⟨_,rfl,Fz.a (.cons Fz.s (.cons Fz.v (.cons Fz.v (.cons Fz.v (.cons Fz.s (.cons Fz.s (.cons Fz.s (.cons Fz.v (.cons Fz.nil (.cons Fz.nil .nil))))))))))⟩⟩)))
def kq{c r}(h:gI c=V r):Pure prog 48 [vi c] (.a (iS r)):=by
 refine pq tok 5 func48 ?_;unfold gI at h;cases h;exact sg (sg ⟨_,rfl,rt ⟨_,rfl,Fz.a (.cons Fz.v (.cons Fz.v (.cons Fz.v (.cons Fz.v (.cons Fz.v (.cons Fz.nil (.cons Fz.nil .nil)))))))⟩⟩)
def Kt{a r}(h:wq a=V r):Pure prog 109 [vs a] (vb r):=by
 refine pq tok 36 func109 ?_;unfold wq at h;have⟨v1,ν,h⟩:=ι h;refine sg (sq (Ok.aD ⟨Ψ [(0,vs a),(19,vb v1)],[]⟩ ?_ ?_))
 .have⟨c1,ξ,ν⟩:=ι ν;refine rg ⟨_,kp _,Br.cA ξ (λhb ξ=>?_) λhb ξ=>?_⟩
  .cases ξ;have⟨c2,az,ν⟩:=ι ν;replace az:=dS az;cases az;have⟨c3,aQ,ν⟩:=ι ν;replace aQ:=dS aQ;cases aQ;cases ν;exact wt Q2 Q0 rfl
  refine⟨_,kp _,?_⟩;cases ξ;have⟨c2,bC,ν⟩:=ι ν;refine Br.cA bC (λhb bC=>?_) λhb bC=>?_
  .cases bC;have⟨c3,bX,ν⟩:=ι ν;replace bX:=dS bX;cases bX;cases ν;exact wt Q2 Q0 rfl
  refine⟨_,oh _ _,?_⟩;cases bC;have⟨c3,cI,ν⟩:=ι ν;refine Br.cA cI (λhb cI=>?_) λhb cI=>?_
  .cases cI;cases ν;exact wt Q2 Q0 rfl
  refine⟨_,oh _ _,?_⟩;cases cI;cases ν;exact wt Q2 Q0 rfl
 refine ct h (λhb h=>?_) λhb h=>?_
 .cases h;exact sg (rt Fz.v)
 refine sk (Ok.dy (λv2=>⟨Ψ [],[]⟩) (λv2=>O7 v2=V r) ?_ ?_)
 .refine sg (bl (Ok.loop (λ(s1:Int)=>⟨Ψ [(0,vs a),(3,vi s1)],[]⟩) (Bv a) (s0:=0) h (wt Q2 Q0 rfl) ?_));intro s1 y1 ζ aB;unfold Bv at ζ;refine sq (sg ⟨_,kp _,ct ζ (λhb ζ=>?_) λhb ζ=>?_⟩)
  .have⟨v3,aA,ζ⟩:=ι ζ;refine sk (sq (bl (Ok.aD ⟨Ψ [(0,vs a),(3,vi s1),(35,vb v3)],[]⟩ ?_ ?_)))
   .have⟨x1,Θ,aA⟩:=ι aA;have⟨c4,cJ,aA⟩:=ι aA;refine rg ⟨_,aO Θ,_,Ba Θ,Br.cA cJ (λhb cJ=>?_) λhb cJ=>?_⟩
    .cases cJ;cases aA;exact wt Q3 Q0 rfl
    have⟨x2,ar,cJ⟩:=ι cJ;refine⟨_,aO ar,_,Ba ar,?_⟩;cases cJ;cases aA;exact wt Q3 Q0 rfl
   refine ct ζ (λhb ζ=>?_) λhb ζ=>?_
   .refine sg (rt ?_);have ζ:=aT ζ aB;cases ζ;exact Fz.v
   have⟨aj,ζ⟩:=aq ζ;exact sk (rg (ah ⟨aj,_,sj ζ,wt Q2 Q0 rfl⟩))
  refine xt ?_;have ζ:=aT ζ aB;exact⟨_,ζ,wt Q0 Q0 rfl⟩
 intro v2 h;unfold O7 at h;cases h;exact sg (rt Fz.v)
def Ku{a r}(h:wv a=V r):Pure prog 56 [vs a] (.t [.s (mG r.1),vi r.2]):=by
 refine pq tok 55 func56 ?_;unfold wv at h;refine sg (sg (fJ (sq (sg ⟨_,oh _ _,ct h (λhb h=>?_) λhb h=>?_⟩))))
 .cases h;exact sg (rt (Fz.t (.cons (Fz.o rfl) fq)))
 have⟨v1,ν,h⟩:=ι h;refine sk (sq (Ok.aD ⟨Ψ [(0,vs a),(4,.o 7),(17,vb v1)],[(7,.own 9 1 (mG ([]:List (List UInt8))))]⟩ ?_ ?_))
 .have⟨c1,ξ,ν⟩:=ι ν;refine rg ⟨_,oh _ _,Br.cA ξ (λhb ξ=>?_) λhb ξ=>?_⟩
  .cases ξ;cases ν;exact wt Q3 J1 rfl
  have⟨x1,Θ,ξ⟩:=ι ξ;refine⟨_,aO Θ,_,Ba Θ,?_⟩;cases ξ;cases ν;exact wt Q3 J1 rfl
 refine ct h (λhb h=>?_) λhb h=>?_
 .cases h;exact sg (rt (Fz.t (.cons Fz.nil fq)))
 refine sk (sg (Ok.dy (λv2=>⟨Ψ [(4,.o 7)],[(7,.own 9 1 (mG v2))]⟩) (λv2=>O8 v2=V r) ?_ ?_))
 .refine sg (bl (Ok.loop (λ(s1:rE)=>⟨Ψ [(0,vs a),(4,.o 7),(5,vi s1.1),(6,vi s1.2.1)],[(7,.own 9 1 (mG s1.2.2))]⟩) (Ja a) (s0:=(1,1,([]:List (List UInt8)))) h (wt Q4 ⟨hr,Q0⟩ rfl) ?_));intro s1 y1 ζ aB;unfold Ja at ζ;refine sq (sg ⟨_,kp _,ct ζ (λhb ζ=>?_) λhb ζ=>?_⟩)
  .refine sk (Ok.dy (λv3=>⟨Ψ [(0,vs a),(4,.o 7),(5,vi v3.1),(6,vi s1.2.1)],[(7,.own 9 1 (mG v3.2))]⟩) (λv3=>Bw s1 v3=V y1) ?_ ?_)
   .have⟨v4,aU,ζ⟩:=ι ζ;refine bl (sq (Ok.aD ⟨Ψ [(0,vs a),(4,.o 7),(5,vi s1.1),(6,vi s1.2.1),(33,vb v4)],[(7,.own 9 1 (mG s1.2.2))]⟩ ?_ ?_))
    .have⟨c2,az,aU⟩:=ι aU;refine rg ⟨_,kp _,Br.ite az (λhb az=>?_) λhb az=>?_⟩
     .have⟨x2,ar,az⟩:=ι az;refine⟨_,aO ar,_,Ba ar,?_⟩;cases az;cases aU;exact wt Q5 J1 rfl
     cases az;cases aU;exact wt Q5 J1 rfl
    refine ct ζ (λhb ζ=>?_) λhb ζ=>?_
    .exact xt ⟨_,ζ,wt Q4 ⟨hr,Q0⟩ rfl⟩
    have⟨v5,bh,ζ⟩:=ι ζ;refine sk (sq (Ok.aD ⟨Ψ [(0,vs a),(4,.o 7),(5,vi s1.1),(6,vi s1.2.1),(44,vb v5)],[(7,.own 9 1 (mG s1.2.2))]⟩ ?_ ?_))
    .have⟨aj,bh⟩:=aq bh;have⟨x3,aL,bh⟩:=ι bh;have⟨c3,aQ,bh⟩:=ι bh;refine rg ⟨_,gJ aj.1,_,gJ (zt aj),B3 aj,B4 aj,_,B5 aj,Ω.call (Kt aL) lz (Br.cA aQ (λhb aQ=>?_) λhb aQ=>?_)⟩
     .cases aQ;cases bh;exact wt Q5 J1 rfl
     refine⟨_,au _,λ_=>?_⟩;cases aQ;cases bh;exact wt Q5 J1 rfl
    refine ct ζ (λhb ζ=>?_) λhb ζ=>?_
    .refine sg (rt ?_);have ζ:=aT ζ aB;cases ζ;exact(Fz.t (.cons Fz.nil fq))
    have⟨aX,ζ⟩:=aq ζ;have⟨bY,ζ⟩:=aq ζ;have⟨dL,ζ⟩:=aq ζ;exact sk (sg ⟨_,gJ aX.1,_,gJ (zt aX),B3 aX,B4 aX,_,B5 aX,ah ⟨c_ (f:=fg) (n:=1) (λ_=>rfl) ([sub a s1.1 s1.2.1]),c8 (f:=fg) (l:=s1.2.2) (l':=[sub a s1.1 s1.2.1]) bY,_,(bO (f:=fg) (l₁:=s1.2.2) (l₂:=[sub a s1.1 s1.2.1])).symm,rg (ah ⟨dL,_,ζ,wt Q4 ⟨hr,Q0⟩ rfl⟩)⟩⟩)
   intro v3 ζ;unfold Bw at ζ;have⟨fL,ζ⟩:=aq ζ;exact rg (ah ⟨fL,_,sj ζ,wt Q4 J1 rfl⟩)
  refine xt ?_;have ζ:=aT ζ aB;exact⟨_,ζ,wt Q1 ⟨hr,Q0⟩ rfl⟩
 intro v2 h;unfold O8 at h;cases h;exact sg (rt (Fz.t (.cons (Fz.o rfl) fq)))
def aiv{c d r}(h:EY c d=V r):Pure prog 153 [.a (b0 c),vi d] (vi r):=by
 refine pq tok 22 func153 ?_;unfold EY at h;refine sg (Ok.dy (λv1=>⟨Ψ [],[]⟩) (λv1=>Pc v1=V r) ?_ ?_)
 .refine sg (bl (Ok.loop (λ(s1:Int)=>⟨Ψ [(1,vi d),(2,.b 2 0),(5,vi s1)],[(2,.box (b0 c))]⟩) (BC c d) (s0:=0) h (wt Q3 ⟨hr,Q0⟩ rfl) ?_));intro s1 y1 ζ aB;unfold BC at ζ;refine sq (sg ⟨_,rfl,_,au _,λ_=>ct ζ (λhb ζ=>?_) λhb ζ=>?_⟩)
  .have⟨x1,Θ,ζ⟩:=ι ζ;refine sk (sq (bl (sg ⟨_,rfl,_,aO Θ,_,aP Θ,_,rfl,ct ζ (λhb ζ=>?_) λhb ζ=>?_⟩)))
   .refine sg (rt ?_);have ζ:=aT ζ aB;cases ζ;exact Fz.v
   have⟨aj,ζ⟩:=aq ζ;exact sk (rg (ah ⟨aj,_,sj ζ,wt Q3 J1 rfl⟩))
  refine xt ?_;have ζ:=aT ζ aB;exact⟨_,ζ,wt Q0 Q0 rfl⟩
 intro v1 h;unfold Pc at h;cases h;exact sg (rt Fz.v)
def jd{c d r}(h:gR c d=V r):Pure prog 97 [.a (b0 c),vi d] (.t [.a (b4 r.1),vb r.2]):=by
 refine pq tok 18 func97 ?_;unfold gR at h;have⟨x1,Θ,h⟩:=ι h;refine sg (sg ⟨_,rfl,Ω.call (aiv Θ) lz (sq (sg (ct h (λhb h=>?_) λhb h=>?_)))⟩)
 .cases h;exact sg ⟨_,rfl,rt ⟨_,rfl,Fz.t (.cons (Fz.a (.cons Fz.v (.cons Fz.v (.cons Fz.v (.cons Fz.nil (.cons Fz.nil fq)))))) fq)⟩⟩
 have⟨x2,ar,h⟩:=ι h;cases h;exact sk (sg ⟨_,rfl,_,aO ar,_,aP ar,_,rfl,_,rfl,rt ⟨_,rfl,Fz.t fq⟩⟩)
def Ky{c d r}(h:wA c d=V r):Pure prog 147 [.a (b0 c),vi d] (.t [.a (b4 r.1),vi r.2]):=by
 refine pq tok 22 func147 ?_;unfold wA at h;have⟨x1,Θ,h⟩:=ι h;refine sg (sg ⟨_,rfl,Ω.call (jd Θ) lz ⟨_,rfl,sq (sg (ct h (λhb h=>?_) λhb h=>?_))⟩⟩)
 .cases h;exact sg ⟨_,rfl,rt ⟨_,rfl,Fz.t (.cons (Fz.a (.cons Fz.v (.cons Fz.v (.cons Fz.v (.cons Fz.nil (.cons Fz.nil fq)))))) fq)⟩⟩
 refine sk (sq (sg ⟨_,rfl,ct h (λhb h=>?_) λhb h=>?_⟩))
 .cases h;exact sg ⟨_,rfl,rt ⟨_,rfl,Fz.t (.cons (Fz.a (.cons Fz.v (.cons Fz.v (.cons Fz.v (.cons Fz.nil (.cons Fz.nil fq)))))) fq)⟩⟩
 cases h;exact sk (sg ⟨_,rfl,_,rfl,rt ⟨_,rfl,Fz.t fq⟩⟩)
end Go.Proofs
