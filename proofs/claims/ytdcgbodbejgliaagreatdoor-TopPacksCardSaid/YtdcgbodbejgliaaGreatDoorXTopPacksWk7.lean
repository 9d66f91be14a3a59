/- The walks of this seat beside the plain programs, part 7. No condition. -/
import Derived.Test.YtdcgbodbejgliaaGreatDoorXTopPacksWk6
open List renaming length_map → ax, map_append → eI
open Or renaming inl → ψ, inr → bV
namespace Go.Proofs
set_option linter.all false
open Go Go.Cat Tryz
variable [M:cM]
set_option maxRecDepth 100000
set_option maxHeartbeats 4000000
def Am [o8] {d e r} (h:pk d e=some r):Pure prog 12 [.a (b2 d),.a (vT e)] (.t [.a (b2 r.1),.a (ju r.2)]):=by
 refine abe (n:=44) (q:=[(2,1000),(3,3),(4,1001),(5,1002)]) (L:=[(2,.b 2 0),(3,.b 3 0),(4,.b 4 0),(5,.b 5 0)]) (H:=[(2,.box (b2 d)),(3,.box (vT e)),(4,.box (k6 0 0 0 0)),(5,.box (iw 0 0 0 0 0))]) (cf:=(b2 d)) (kf:=10) (ka:=7) (ans:=fun m=>(s_ ((⟨m,0,0,0,0,[],[]⟩:dg).sf) ((⟨m,0,0,0,0,[],[]⟩:dg).κ) ((⟨m,0,0,0,0,[],[]⟩:dg).τ) ((⟨m,0,0,0,0,[],[]⟩:dg).N) ((⟨m,0,0,0,0,[],[]⟩:dg).M) ((⟨m,0,0,0,0,[],[]⟩:dg).da) ((⟨m,0,0,0,0,[],[]⟩:dg).az))) tok func12 (by kernel_rfl) rfl rfl nb ⟨rfl,rfl,rfl⟩ ⟨rfl,rfl,rfl⟩ (by decide) (aaV _ _ _ _ _ _ _ _ _ _) rfl rfl rfl rfl rfl rfl rfl rfl rfl rfl rfl rfl rfl rfl rfl (fun _=>rfl) rfl (fun _=>rfl) ?_ ?_
 ·refine rg ?_;exact ⟨rfl,wt Q4 ⟨hr,hr,hr,hr,Q0⟩ rfl⟩
 unfold pk at h;have ⟨v1,ν,h⟩:=ι h;refine Ok.bg ⟨aq [(2,.b 1000 0),(3,.b 3 0),(4,.b 1001 0),(5,.b 1002 0),(6,kN v1),(7,vb ((bt e.τ tX).isSome))],[(1000,.box (b2 d)),(3,.box (vT e)),(1001,.box (k6 0 0 0 0)),(1002,.box (iw 0 0 0 0 0))]⟩ ?_ ?_
 ·have ⟨x1,Θ,ν⟩:=ι ν;have ⟨x2,ak,ν⟩:=ι ν;refine abZ x2 (fun hA=>?_) fun nA hA=>?_;all_goals refine Ok.abg [[0,1,2,3,4,5,6,7,8],[0,1,2,3,4,5,7,6,8],[0,1,2,3,4,6,5,7,8],[1,0,2,3,4,5,6,7,8],[1,0,2,3,4,5,7,6,8],[1,0,2,3,4,6,5,7,8],[1,2,0,3,4,5,6,7,8],[1,2,0,3,4,5,7,6,8],[1,2,0,3,4,6,5,7,8]] tok mixed (by kernel_rfl) ⟨?_,?_,?_,?_,?_,?_,?_,?_,?_,Q0⟩
  iterate 6 (refine cg [] [(1,999)] (GN Θ) .nil Q0 ?_;refine ⟨_,rfl,_,((pN gS (z:=(0:Int)) ak).trans (congrArg (fun a=>[a]) hA)),_,tg gS e.τ tX,?_⟩;cases ν;exact wt ⟨lr,lr,lr,lr,Le.of_eq hA.symm,Q1⟩ J4 rfl)
  iterate 3 (refine ⟨_,rfl,?_⟩;refine cg [] [(1,999)] (GN Θ) .nil Q0 ?_;refine ⟨_,((pN gS (z:=(0:Int)) ak).trans (congrArg (fun a=>[a]) hA)),_,tg gS e.τ tX,?_⟩;cases ν;exact wt ⟨lr,lr,lr,lr,Le.of_eq hA.symm,Q1⟩ J4 rfl)
  iterate 6 (refine cg [] [(1,999)] (GN Θ) .nil Q0 ?_;refine ⟨_,rfl,_,((pN gS (z:=(0:Int)) ak).trans (congrArg (fun a=>[a]) hA)),_,tg gS e.τ tX,?_⟩;cases ν;exact wt ⟨lr,lr,lr,lr,Le.of_eq hA.symm,Q1⟩ J4 rfl)
  iterate 2 (refine ⟨_,rfl,?_⟩;refine cg [] [(1,999)] (GN Θ) .nil Q0 ?_;refine ⟨_,((pN gS (z:=(0:Int)) ak).trans (congrArg (fun a=>[a]) hA)),_,tg gS e.τ tX,?_⟩;cases ν;exact wt ⟨lr,lr,lr,lr,Le.of_eq hA.symm,Q1⟩ J4 rfl)
  refine ⟨_,rfl,?_⟩;refine cg [] [(1,999)] (GN Θ) .nil Q0 ?_;refine ⟨_,((pN gS (z:=(0:Int)) ak).trans (congrArg (fun a=>[a]) hA)),_,tg gS e.τ tX,?_⟩;cases ν;exact wt ⟨lr,lr,lr,lr,Le.of_eq hA.symm,Q1⟩ J4 rfl
 refine Ok.eC (fun v2=>⟨aq [(2,.b 1000 0),(3,.b 3 0),(4,.b 1001 0),(5,.b 1002 0),(6,kN v1)],[(1000,.box (b2 d)),(3,.box (vT e)),(1001,.box (k6 0 0 0 0)),(1002,.box (iw 0 0 0 0 0))]⟩) (fun v2=>fg v1 d e v2=some r) ?_ ?_
 ·refine Ok.cY bf tok (ψ (ψ ?_));have ⟨c1,Δ,h⟩:=ι h;refine Br.ite Δ (fun hb Δ=>?_) fun hb Δ=>?_
  ·refine ψ (ψ (⟨_,rfl,ψ ?_⟩));cases Δ;refine ψ (ψ ?_);have ⟨c2,aF,h⟩:=ι h;refine Br.ite aF (fun hb aF=>?_) fun hb aF=>?_
   ·refine ψ (ψ (⟨_,rfl,ψ ?_⟩));cases aF;refine ψ ?_;have ⟨x3,aK,h⟩:=ι h;refine bV (cx [] [] (pV aK) nq Q0 (fun e1 bE=>?_) (fun y1 c_=>?_))
    ·have h:=cu h bE;cases h;exact ⟨_,rfl,rfl,rfl,rfl,⟨_,rfl,rfl⟩,⟨_,rfl,rfl⟩,rfl⟩
    have h:=cw h c_;exact ⟨_,h,wt Q5 ⟨hr,hr,hr,hr,Q0⟩ rfl⟩
   cases aF;refine ψ ?_;have ⟨x3,aK,h⟩:=ι h;refine bV (cx [] [] (pV aK) nq Q0 (fun e1 bE=>?_) (fun y1 c_=>?_))
   ·have h:=cu h bE;cases h;exact ⟨_,rfl,rfl,rfl,rfl,⟨_,rfl,rfl⟩,⟨_,rfl,rfl⟩,rfl⟩
   have h:=cw h c_;exact ⟨_,h,wt Q5 ⟨hr,hr,hr,hr,Q0⟩ rfl⟩
  cases Δ;refine ψ (ψ ?_);have ⟨c2,aM,h⟩:=ι h;replace aM:=cL aM;cases aM;refine ψ ?_;have ⟨x3,aK,h⟩:=ι h;refine bV (cx [] [] (pV aK) nq Q0 (fun e1 bE=>?_) (fun y1 c_=>?_))
  ·have h:=cu h bE;cases h;exact ⟨_,rfl,rfl,rfl,rfl,⟨_,rfl,rfl⟩,⟨_,rfl,rfl⟩,rfl⟩
  have h:=cw h c_;exact ⟨_,h,wt Q5 ⟨hr,hr,hr,hr,Q0⟩ rfl⟩
 intro v2 h;unfold fg at h;refine sg ⟨_,rfl,_,rfl,?_⟩;refine wT [(4,.b 1001 0),(5,.b 1002 0),(6,kN v1),(8,.b 32 0)] [(1001,.box (k6 0 0 0 0)),(1002,.box (iw 0 0 0 0 0)),(32,.box (cV d.S.Γ.η d.S.Γ.Next d.S.Γ.aj d.S.aY d.S.aU d.S.aO d.S.aR d.S.Next d.Holds d.bc e.τ e.aW e.cF e.To e.N e.M e.bY e.az 0 0 0 0 0)),(1000,.box (b2 d))] ⟨lr,lr,(by first|exact lr|exact Le.fnE|exact Le.ab1|exact Le.ab2),Q1⟩ J4 rfl ?_;refine Ok.eC (fun v3=>⟨aq [(4,.b 1001 0),(5,.b 1002 0),(8,.b 32 0)],[(1001,.box (k6 0 0 0 0)),(1002,.box (iw 0 0 0 0 0)),(32,.box (VR v3.1 v3.2.1 v3.2.2.1 v3.2.2.2.1 v3.2.2.2.2.1 v3.2.2.2.2.2.1 v3.2.2.2.2.2.2.1 v3.2.2.2.2.2.2.2.1 (t8 v3).1 (t8 v3).2.1 e.τ e.aW e.cF e.To e.N e.M e.bY e.az (t8 v3).2.2.1 (t8 v3).2.2.2.1 (t8 v3).2.2.2.2.1 (t8 v3).2.2.2.2.2.1 (t5 (t8 v3)).2.1 (t5 (t8 v3)).2.2.1 (t8 (t8 v3)))),(1000,.box (b2 d))]⟩) (fun v3=>kO v3=some r) ?_ ?_
 ·refine l8 h (fun hb h=>?_) (fun h=>?_)
  ·refine wT [(4,.b 1001 0),(5,.b 1002 0),(6,.c (.func 62) [] []),(8,.b 32 0)] [(1001,.box (k6 0 0 0 0)),(1002,.box (iw 0 0 0 0 0)),(32,.box (cV d.S.Γ.η d.S.Γ.Next d.S.Γ.aj d.S.aY d.S.aU d.S.aO d.S.aR d.S.Next d.Holds d.bc e.τ e.aW e.cF e.To e.N e.M e.bY e.az 0 0 0 0 0)),(1000,.box (b2 d))] ⟨lr,lr,Le.fn hb (by decide),Q1⟩ J4 rfl ?_;refine Ok.cY bf tok ?_;have ⟨x4,bn,h⟩:=ι h;refine ψ (ψ ?_);refine bV (cx [(1000,32)] [] (ake bn) (.cons (Ln.b rfl) .nil) ⟨⟨32,_,rfl,rfl,.box nq⟩,Q0⟩ (fun e2 dV=>?_) (fun y2 ew=>?_))
   ·have h:=cu h dV;cases h;exact ⟨_,rfl,rfl,rfl,rfl,⟨_,rfl,rfl⟩,⟨_,rfl,rfl⟩,rfl⟩
   have h:=cw h ew;exact ⟨_,h,wt Q3 ⟨hr,hr,⟨_,rfl,.box (l4 (l4 (l4 (l4 (l4 (l2 (l1 (.cons (Le.nil) (.cons (Le.nil) .nil)))))))))⟩,hr,Q0⟩ rfl⟩
  refine l8 h (fun hb h=>?_) (fun h=>?_)
  ·refine wT [(4,.b 1001 0),(5,.b 1002 0),(6,.c (.func 63) [] []),(8,.b 32 0)] [(1001,.box (k6 0 0 0 0)),(1002,.box (iw 0 0 0 0 0)),(32,.box (cV d.S.Γ.η d.S.Γ.Next d.S.Γ.aj d.S.aY d.S.aU d.S.aO d.S.aR d.S.Next d.Holds d.bc e.τ e.aW e.cF e.To e.N e.M e.bY e.az 0 0 0 0 0)),(1000,.box (b2 d))] ⟨lr,lr,Le.fn hb (by decide),Q1⟩ J4 rfl ?_;refine Ok.cY bf tok ?_;have ⟨x5,dr,h⟩:=ι h;refine ψ (ψ ?_);refine bV (cx [(1000,32)] [(999,998)] (akf dr) (.cons (Ln.b rfl) .nil) ⟨⟨32,_,rfl,rfl,.box nq⟩,Q0⟩ (fun e3 jQ=>?_) (fun y3 jD=>?_))
   ·have h:=cu h jQ;cases h;exact ⟨_,rfl,rfl,rfl,rfl,⟨_,rfl,rfl⟩,⟨_,rfl,rfl⟩,rfl⟩
   have h:=cw h jD;exact ⟨_,h,(Wk.freeze (id:=998) rfl).trans (wt Q3 ⟨hr,hr,⟨_,rfl,.box (l4 (l4 (l4 (l4 (l4 (l2 (l1 (.cons (Le.nil) (.cons (Le.nil) .nil)))))))))⟩,hr,Q0⟩ rfl)⟩
  refine l8 h (fun hb h=>?_) (fun h=>?_)
  ·refine wT [(4,.b 1001 0),(5,.b 1002 0),(6,.c (.func 64) [] []),(8,.b 32 0)] [(1001,.box (k6 0 0 0 0)),(1002,.box (iw 0 0 0 0 0)),(32,.box (cV d.S.Γ.η d.S.Γ.Next d.S.Γ.aj d.S.aY d.S.aU d.S.aO d.S.aR d.S.Next d.Holds d.bc e.τ e.aW e.cF e.To e.N e.M e.bY e.az 0 0 0 0 0)),(1000,.box (b2 d))] ⟨lr,lr,Le.fn hb (by decide),Q1⟩ J4 rfl ?_;refine Ok.cY bf tok ?_;have ⟨x6,gw,h⟩:=ι h;refine ψ (ψ ?_);refine bV (cx [(1000,32)] [(999,998)] (akc gw) (.cons (Ln.b rfl) .nil) ⟨⟨32,_,rfl,rfl,.box nq⟩,Q0⟩ (fun e4 kb=>?_) (fun y4 uU=>?_))
   ·have h:=cu h kb;cases h;exact ⟨_,rfl,rfl,rfl,rfl,⟨_,rfl,rfl⟩,⟨_,rfl,rfl⟩,rfl⟩
   have h:=cw h uU;exact ⟨_,h,(Wk.freeze (id:=998) rfl).trans (wt Q3 ⟨hr,hr,⟨_,rfl,.box (l4 (l4 (l4 (l4 (l4 (l2 (l1 (.cons (Le.nil) (.cons (Le.nil) .nil)))))))))⟩,hr,Q0⟩ rfl)⟩
  refine l8 h (fun hb h=>?_) (fun h=>?_)
  ·refine wT [(4,.b 1001 0),(5,.b 1002 0),(6,.c (.func 65) [] []),(8,.b 32 0)] [(1001,.box (k6 0 0 0 0)),(1002,.box (iw 0 0 0 0 0)),(32,.box (cV d.S.Γ.η d.S.Γ.Next d.S.Γ.aj d.S.aY d.S.aU d.S.aO d.S.aR d.S.Next d.Holds d.bc e.τ e.aW e.cF e.To e.N e.M e.bY e.az 0 0 0 0 0)),(1000,.box (b2 d))] ⟨lr,lr,Le.fn hb (by decide),Q1⟩ J4 rfl ?_;refine Ok.cY bf tok ?_;have ⟨x7,gg,h⟩:=ι h;refine ψ (ψ ?_);refine bV (cx [(1000,32)] [(999,998)] (akm gg) (.cons (Ln.b rfl) .nil) ⟨⟨32,_,rfl,rfl,.box nq⟩,Q0⟩ (fun e5 Nn=>?_) (fun y5 EF=>?_))
   ·have h:=cu h Nn;cases h;exact ⟨_,rfl,rfl,rfl,rfl,⟨_,rfl,rfl⟩,⟨_,rfl,rfl⟩,rfl⟩
   have h:=cw h EF;exact ⟨_,h,(Wk.freeze (id:=998) rfl).trans (wt Q3 ⟨hr,hr,⟨_,rfl,.box (l4 (l4 (l4 (l4 (l4 (l2 (l1 (.cons (Le.nil) (.cons (Le.nil) .nil)))))))))⟩,hr,Q0⟩ rfl)⟩
  refine l8 h (fun hb h=>?_) (fun h=>?_)
  ·refine wT [(4,.b 1001 0),(5,.b 1002 0),(6,.c (.func 66) [] []),(8,.b 32 0)] [(1001,.box (k6 0 0 0 0)),(1002,.box (iw 0 0 0 0 0)),(32,.box (cV d.S.Γ.η d.S.Γ.Next d.S.Γ.aj d.S.aY d.S.aU d.S.aO d.S.aR d.S.Next d.Holds d.bc e.τ e.aW e.cF e.To e.N e.M e.bY e.az 0 0 0 0 0)),(1000,.box (b2 d))] ⟨lr,lr,Le.fn hb (by decide),Q1⟩ J4 rfl ?_;refine Ok.cY bf tok ?_;have ⟨x8,jl,h⟩:=ι h;refine ψ (ψ ?_);refine bV (cx [(1000,32)] [(999,998)] (akj jl) (.cons (Ln.b rfl) .nil) ⟨⟨32,_,rfl,rfl,.box nq⟩,Q0⟩ (fun e6 he6=>?_) (fun y6 hq6=>?_))
   ·have h:=cu h he6;cases h;exact ⟨_,rfl,rfl,rfl,rfl,⟨_,rfl,rfl⟩,⟨_,rfl,rfl⟩,rfl⟩
   have h:=cw h hq6;exact ⟨_,h,(Wk.freeze (id:=998) rfl).trans (wt Q3 ⟨hr,hr,⟨_,rfl,.box (l4 (l4 (l4 (l4 (l4 (l2 (l1 (.cons (Le.nil) (.cons (Le.nil) .nil)))))))))⟩,hr,Q0⟩ rfl)⟩
  refine l8 h (fun hb h=>?_) (fun h=>?_)
  ·refine wT [(4,.b 1001 0),(5,.b 1002 0),(6,.c (.func 67) [] []),(8,.b 32 0)] [(1001,.box (k6 0 0 0 0)),(1002,.box (iw 0 0 0 0 0)),(32,.box (cV d.S.Γ.η d.S.Γ.Next d.S.Γ.aj d.S.aY d.S.aU d.S.aO d.S.aR d.S.Next d.Holds d.bc e.τ e.aW e.cF e.To e.N e.M e.bY e.az 0 0 0 0 0)),(1000,.box (b2 d))] ⟨lr,lr,Le.fn hb (by decide),Q1⟩ J4 rfl ?_;refine Ok.cY bf tok ?_;have ⟨x9,jV,h⟩:=ι h;refine ψ (ψ ?_);refine bV (cx [(1000,32)] [] (akd jV) (.cons (Ln.b rfl) .nil) ⟨⟨32,_,rfl,rfl,.box nq⟩,Q0⟩ (fun e7 he7=>?_) (fun y7 hq7=>?_))
   ·have h:=cu h he7;cases h;exact ⟨_,rfl,rfl,rfl,rfl,⟨_,rfl,rfl⟩,⟨_,rfl,rfl⟩,rfl⟩
   have h:=cw h hq7;exact ⟨_,h,wt Q3 ⟨hr,hr,⟨_,rfl,.box (l4 (l4 (l4 (l4 (l4 (l4 (.cons (Le.nil) .nil)))))))⟩,hr,Q0⟩ rfl⟩
  refine l8 h (fun hb h=>?_) (fun h=>?_)
  ·refine wT [(4,.b 1001 0),(5,.b 1002 0),(6,.c (.func 68) [] []),(8,.b 32 0)] [(1001,.box (k6 0 0 0 0)),(1002,.box (iw 0 0 0 0 0)),(32,.box (cV d.S.Γ.η d.S.Γ.Next d.S.Γ.aj d.S.aY d.S.aU d.S.aO d.S.aR d.S.Next d.Holds d.bc e.τ e.aW e.cF e.To e.N e.M e.bY e.az 0 0 0 0 0)),(1000,.box (b2 d))] ⟨lr,lr,Le.fn hb (by decide),Q1⟩ J4 rfl ?_;refine Ok.cY bf tok ?_;have ⟨fV,qq,h⟩:=ι h;refine ψ (ψ ?_);refine bV (cx [(1000,32)] [] (akk qq) (.cons (Ln.b rfl) .nil) ⟨⟨32,_,rfl,rfl,.box nq⟩,Q0⟩ (fun e8 he8=>?_) (fun y8 hq8=>?_))
   ·have h:=cu h he8;cases h;exact ⟨_,rfl,rfl,rfl,rfl,⟨_,rfl,rfl⟩,⟨_,rfl,rfl⟩,rfl⟩
   have h:=cw h hq8;exact ⟨_,h,wt Q3 ⟨hr,hr,⟨_,rfl,.box (l4 (l4 (l4 (l4 (l4 (l2 (l1 (.cons (Le.nil) (.cons (Le.nil) .nil)))))))))⟩,hr,Q0⟩ rfl⟩
  refine l8 h (fun hb h=>?_) (fun h=>?_)
  ·refine wT [(4,.b 1001 0),(5,.b 1002 0),(6,.c (.func 69) [] []),(8,.b 32 0)] [(1001,.box (k6 0 0 0 0)),(1002,.box (iw 0 0 0 0 0)),(32,.box (cV d.S.Γ.η d.S.Γ.Next d.S.Γ.aj d.S.aY d.S.aU d.S.aO d.S.aR d.S.Next d.Holds d.bc e.τ e.aW e.cF e.To e.N e.M e.bY e.az 0 0 0 0 0)),(1000,.box (b2 d))] ⟨lr,lr,Le.fn hb (by decide),Q1⟩ J4 rfl ?_;refine Ok.cY bf tok ?_;have ⟨iX,oN,h⟩:=ι h;refine ψ (ψ ?_);refine bV (cx [(1000,32)] [] (akg oN) (.cons (Ln.b rfl) .nil) ⟨⟨32,_,rfl,rfl,.box nq⟩,Q0⟩ (fun e9 he9=>?_) (fun y9 hq9=>?_))
   ·have h:=cu h he9;cases h;exact ⟨_,rfl,rfl,rfl,rfl,⟨_,rfl,rfl⟩,⟨_,rfl,rfl⟩,rfl⟩
   have h:=cw h hq9;exact ⟨_,h,wt Q3 ⟨hr,hr,⟨_,rfl,.box (l4 (l4 (l4 (l4 (l4 (l2 (l1 (.cons (Le.nil) (.cons (Le.nil) .nil)))))))))⟩,hr,Q0⟩ rfl⟩
  refine l8 h (fun hb h=>?_) (fun h=>?_)
  ·refine wT [(4,.b 1001 0),(5,.b 1002 0),(6,.c (.func 70) [] []),(8,.b 32 0)] [(1001,.box (k6 0 0 0 0)),(1002,.box (iw 0 0 0 0 0)),(32,.box (cV d.S.Γ.η d.S.Γ.Next d.S.Γ.aj d.S.aY d.S.aU d.S.aO d.S.aR d.S.Next d.Holds d.bc e.τ e.aW e.cF e.To e.N e.M e.bY e.az 0 0 0 0 0)),(1000,.box (b2 d))] ⟨lr,lr,Le.fn hb (by decide),Q1⟩ J4 rfl ?_;refine Ok.cY bf tok ?_;have ⟨fE,oO,h⟩:=ι h;refine ψ (ψ ?_);refine bV (cx [(1000,32)] [] (aj7 oO) (.cons (Ln.b rfl) .nil) ⟨⟨32,_,rfl,rfl,.box nq⟩,Q0⟩ (fun sC acA=>?_) (fun ub adf=>?_))
   ·have h:=cu h acA;cases h;exact ⟨_,rfl,rfl,rfl,rfl,⟨_,rfl,rfl⟩,⟨_,rfl,rfl⟩,rfl⟩
   have h:=cw h adf;exact ⟨_,h,wt Q3 ⟨hr,hr,⟨_,rfl,.box (l4 (l4 (l4 (l4 (l4 (l2 (l1 (.cons (Le.nil) (.cons (Le.nil) .nil)))))))))⟩,hr,Q0⟩ rfl⟩
  refine l8 h (fun hb h=>?_) (fun h=>?_)
  ·refine wT [(4,.b 1001 0),(5,.b 1002 0),(6,.c (.func 71) [] []),(8,.b 32 0)] [(1001,.box (k6 0 0 0 0)),(1002,.box (iw 0 0 0 0 0)),(32,.box (cV d.S.Γ.η d.S.Γ.Next d.S.Γ.aj d.S.aY d.S.aU d.S.aO d.S.aR d.S.Next d.Holds d.bc e.τ e.aW e.cF e.To e.N e.M e.bY e.az 0 0 0 0 0)),(1000,.box (b2 d))] ⟨lr,lr,Le.fn hb (by decide),Q1⟩ J4 rfl ?_;refine Ok.cY bf tok ?_;have ⟨nk,uV,h⟩:=ι h;refine ψ (ψ ?_);refine bV (cx [(1000,32)] [] (aki uV) (.cons (Ln.b rfl) .nil) ⟨⟨32,_,rfl,rfl,.box nq⟩,Q0⟩ (fun sD acB=>?_) (fun Rm adg=>?_))
   ·have h:=cu h acB;cases h;exact ⟨_,rfl,rfl,rfl,rfl,⟨_,rfl,rfl⟩,⟨_,rfl,rfl⟩,rfl⟩
   have h:=cw h adg;exact ⟨_,h,wt Q3 ⟨hr,hr,⟨_,rfl,.box (l4 (l4 (l4 (l4 (l4 (l2 (l1 (.cons (Le.nil) lz))))))))⟩,hr,Q0⟩ rfl⟩
  refine l8 h (fun hb h=>?_) (fun h=>?_)
  ·refine wT [(4,.b 1001 0),(5,.b 1002 0),(6,.c (.func 72) [] []),(8,.b 32 0)] [(1001,.box (k6 0 0 0 0)),(1002,.box (iw 0 0 0 0 0)),(32,.box (cV d.S.Γ.η d.S.Γ.Next d.S.Γ.aj d.S.aY d.S.aU d.S.aO d.S.aR d.S.Next d.Holds d.bc e.τ e.aW e.cF e.To e.N e.M e.bY e.az 0 0 0 0 0)),(1000,.box (b2 d))] ⟨lr,lr,Le.fn hb (by decide),Q1⟩ J4 rfl ?_;refine Ok.cY bf tok ?_;have ⟨nn,s7,h⟩:=ι h;refine ψ (ψ ?_);refine bV (cx [(1000,32)] [(999,998)] (akn s7) (.cons (Ln.b rfl) .nil) ⟨⟨32,_,rfl,rfl,.box nq⟩,Q0⟩ (fun qY acC=>?_) (fun qD adh=>?_))
   ·have h:=cu h acC;cases h;exact ⟨_,rfl,rfl,rfl,rfl,⟨_,rfl,rfl⟩,⟨_,rfl,rfl⟩,rfl⟩
   have h:=cw h adh;exact ⟨_,h,(Wk.freeze (id:=998) rfl).trans (wt Q3 ⟨hr,hr,⟨_,rfl,.box (l4 (l4 (l4 (l4 (l4 (l2 (l1 (.cons (Le.nil) (.cons (Le.nil) .nil)))))))))⟩,hr,Q0⟩ rfl)⟩
  refine l8 h (fun hb h=>?_) (fun h=>?_)
  ·refine wT [(4,.b 1001 0),(5,.b 1002 0),(6,.c (.func 73) [] []),(8,.b 32 0)] [(1001,.box (k6 0 0 0 0)),(1002,.box (iw 0 0 0 0 0)),(32,.box (cV d.S.Γ.η d.S.Γ.Next d.S.Γ.aj d.S.aY d.S.aU d.S.aO d.S.aR d.S.Next d.Holds d.bc e.τ e.aW e.cF e.To e.N e.M e.bY e.az 0 0 0 0 0)),(1000,.box (b2 d))] ⟨lr,lr,Le.fn hb (by decide),Q1⟩ J4 rfl ?_;refine Ok.cY bf tok ?_;have ⟨tZ,EN,h⟩:=ι h;refine ψ (ψ ?_);refine bV (cx [(1000,32)] [(999,998)] (aj9 EN) (.cons (Ln.b rfl) .nil) ⟨⟨32,_,rfl,rfl,.box nq⟩,Q0⟩ (fun sE acD=>?_) (fun qE adi=>?_))
   ·have h:=cu h acD;cases h;exact ⟨_,rfl,rfl,rfl,rfl,⟨_,rfl,rfl⟩,⟨_,rfl,rfl⟩,rfl⟩
   have h:=cw h adi;exact ⟨_,h,(Wk.freeze (id:=998) rfl).trans (wt Q3 ⟨hr,hr,⟨_,rfl,.box (l4 (l4 (l4 (l4 (l4 (l2 (l1 (.cons (Le.nil) (.cons (Le.nil) .nil)))))))))⟩,hr,Q0⟩ rfl)⟩
  refine l8 h (fun hb h=>?_) (fun h=>?_)
  ·refine wT [(4,.b 1001 0),(5,.b 1002 0),(6,.c (.func 74) [] []),(8,.b 32 0)] [(1001,.box (k6 0 0 0 0)),(1002,.box (iw 0 0 0 0 0)),(32,.box (cV d.S.Γ.η d.S.Γ.Next d.S.Γ.aj d.S.aY d.S.aU d.S.aO d.S.aR d.S.Next d.Holds d.bc e.τ e.aW e.cF e.To e.N e.M e.bY e.az 0 0 0 0 0)),(1000,.box (b2 d))] ⟨lr,lr,Le.fn hb (by decide),Q1⟩ J4 rfl ?_;refine Ok.cY bf tok ?_;have ⟨t_,EO,h⟩:=ι h;refine ψ (ψ ?_);refine bV (cx [(1000,32)] [(999,998)] (akb EO) (.cons (Ln.b rfl) .nil) ⟨⟨32,_,rfl,rfl,.box nq⟩,Q0⟩ (fun DE acE=>?_) (fun rY adj=>?_))
   ·have h:=cu h acE;cases h;exact ⟨_,rfl,rfl,rfl,rfl,⟨_,rfl,rfl⟩,⟨_,rfl,rfl⟩,rfl⟩
   have h:=cw h adj;exact ⟨_,h,(Wk.freeze (id:=998) rfl).trans (wt Q3 ⟨hr,hr,⟨_,rfl,.box (l4 (l4 (l4 (l4 (l4 (l2 (l1 (.cons (Le.nil) (.cons (Le.nil) .nil)))))))))⟩,hr,Q0⟩ rfl)⟩
  refine l8 h (fun hb h=>?_) (fun h=>?_)
  ·refine wT [(4,.b 1001 0),(5,.b 1002 0),(6,.c (.func 75) [] []),(8,.b 32 0)] [(1001,.box (k6 0 0 0 0)),(1002,.box (iw 0 0 0 0 0)),(32,.box (cV d.S.Γ.η d.S.Γ.Next d.S.Γ.aj d.S.aY d.S.aU d.S.aO d.S.aR d.S.Next d.Holds d.bc e.τ e.aW e.cF e.To e.N e.M e.bY e.az 0 0 0 0 0)),(1000,.box (b2 d))] ⟨lr,lr,Le.fn hb (by decide),Q1⟩ J4 rfl ?_;refine Ok.cY bf tok ?_;have ⟨Zw,adT,h⟩:=ι h;refine ψ (ψ ?_);refine bV (cx [(1000,32)] [] (akl adT) (.cons (Ln.b rfl) .nil) ⟨⟨32,_,rfl,rfl,.box nq⟩,Q0⟩ (fun DF acF=>?_) (fun uc adk=>?_))
   ·have h:=cu h acF;cases h;exact ⟨_,rfl,rfl,rfl,rfl,⟨_,rfl,rfl⟩,⟨_,rfl,rfl⟩,rfl⟩
   have h:=cw h adk;exact ⟨_,h,wt Q3 ⟨hr,hr,⟨_,rfl,.box (l4 (l4 (l4 (l4 (l4 (l2 (l1 (.cons (Le.nil) (.cons (Le.nil) .nil)))))))))⟩,hr,Q0⟩ rfl⟩
  refine l8 h (fun hb h=>?_) (fun h=>?_)
  ·refine wT [(4,.b 1001 0),(5,.b 1002 0),(6,.c (.func 76) [] []),(8,.b 32 0)] [(1001,.box (k6 0 0 0 0)),(1002,.box (iw 0 0 0 0 0)),(32,.box (cV d.S.Γ.η d.S.Γ.Next d.S.Γ.aj d.S.aY d.S.aU d.S.aO d.S.aR d.S.Next d.Holds d.bc e.τ e.aW e.cF e.To e.N e.M e.bY e.az 0 0 0 0 0)),(1000,.box (b2 d))] ⟨lr,lr,Le.fn hb (by decide),Q1⟩ J4 rfl ?_;refine Ok.cY bf tok ?_;have ⟨Zx,adU,h⟩:=ι h;refine ψ (ψ ?_);refine bV (cx [(1000,32)] [] (akh adU) (.cons (Ln.b rfl) .nil) ⟨⟨32,_,rfl,rfl,.box nq⟩,Q0⟩ (fun DG acG=>?_) (fun Ap adl=>?_))
   ·have h:=cu h acG;cases h;exact ⟨_,rfl,rfl,rfl,rfl,⟨_,rfl,rfl⟩,⟨_,rfl,rfl⟩,rfl⟩
   have h:=cw h adl;exact ⟨_,h,wt Q3 ⟨hr,hr,hr,hr,Q0⟩ rfl⟩
  refine l8 h (fun hb h=>?_) (fun h=>?_)
  ·refine wT [(4,.b 1001 0),(5,.b 1002 0),(6,.c (.func 77) [] []),(8,.b 32 0)] [(1001,.box (k6 0 0 0 0)),(1002,.box (iw 0 0 0 0 0)),(32,.box (cV d.S.Γ.η d.S.Γ.Next d.S.Γ.aj d.S.aY d.S.aU d.S.aO d.S.aR d.S.Next d.Holds d.bc e.τ e.aW e.cF e.To e.N e.M e.bY e.az 0 0 0 0 0)),(1000,.box (b2 d))] ⟨lr,lr,Le.fn hb (by decide),Q1⟩ J4 rfl ?_;refine Ok.cY bf tok ?_;have ⟨Zy,adV,h⟩:=ι h;refine ψ (ψ ?_);refine bV (cx [(1000,32)] [] (aj_ adV) (.cons (Ln.b rfl) .nil) ⟨⟨32,_,rfl,rfl,.box nq⟩,Q0⟩ (fun sF acH=>?_) (fun vA adm=>?_))
   ·have h:=cu h acH;cases h;exact ⟨_,rfl,rfl,rfl,rfl,⟨_,rfl,rfl⟩,⟨_,rfl,rfl⟩,rfl⟩
   have h:=cw h adm;exact ⟨_,h,wt Q3 ⟨hr,hr,⟨_,rfl,.box (l4 (l4 (l4 (l4 (l4 (l2 (l1 (.cons (Le.nil) (.cons (Le.nil) .nil)))))))))⟩,hr,Q0⟩ rfl⟩
  refine l8 h (fun hb h=>?_) (fun h=>?_)
  ·refine wT [(4,.b 1001 0),(5,.b 1002 0),(6,.c (.func 78) [] []),(8,.b 32 0)] [(1001,.box (k6 0 0 0 0)),(1002,.box (iw 0 0 0 0 0)),(32,.box (cV d.S.Γ.η d.S.Γ.Next d.S.Γ.aj d.S.aY d.S.aU d.S.aO d.S.aR d.S.Next d.Holds d.bc e.τ e.aW e.cF e.To e.N e.M e.bY e.az 0 0 0 0 0)),(1000,.box (b2 d))] ⟨lr,lr,Le.fn hb (by decide),Q1⟩ J4 rfl ?_;refine rg ?_;have ⟨ua,adW,h⟩:=ι h;refine cg [(1000,32)] [] (aj8 adW) (.cons (Ln.b rfl) .nil) ⟨⟨32,_,rfl,rfl,.box nq⟩,Q0⟩ ?_;exact ⟨_,h,wt Q3 ⟨hr,hr,⟨_,rfl,.box (l4 (l4 (l4 (l4 (l4 (l2 (l1 (.cons (Le.nil) (.cons (Le.nil) .nil)))))))))⟩,hr,Q0⟩ rfl⟩
  cases h
 intro v3 h;unfold kO at h;refine sq (Ok.qb (m:=8) (late:=[4,5,6,7]) (MD:=⟨[]⟩) (CH:=⟨[]⟩) tok mixed (by kernel_rfl) ?_);refine ⟨_,rfl,_,rfl,_,rfl,_,⟨_,rfl,rfl⟩,_,rfl,_,rfl,_,rfl,_,⟨_,rfl,rfl⟩,Q0,?_⟩;refine ⟨_,rfl,⟨⟨_,rfl,rfl⟩,⟨_,rfl,rfl⟩,⟨_,rfl,rfl⟩,⟨_,rfl,_,rfl,rfl⟩,Q0⟩,_,rfl,?_⟩;refine wT [(4,.b 1001 0),(5,.b 1002 0)] [(1001,.box (k5 v3.1 v3.2.1 v3.2.2.1 v3.2.2.2.1 v3.2.2.2.2.1 v3.2.2.2.2.2.1 v3.2.2.2.2.2.2.1 v3.2.2.2.2.2.2.2.1 (t8 v3).1 (t8 v3).2.1)),(1002,.box (s_ (t8 v3).2.2.1 (t8 v3).2.2.2.1 (t8 v3).2.2.2.2.1 (t8 v3).2.2.2.2.2.1 (t5 (t8 v3)).2.1 (t5 (t8 v3)).2.2.1 (t8 (t8 v3)))),(1000,.box (b2 d))] Q2 J3 rfl ?_;refine rt ?_;cases h;exact ⟨_,rfl,_,rfl,Fz.t fq⟩
def Zr {a r} (h:zL a=some r):iN prog 84 [vi a] 5 1 (mU r):=by
 refine pv tok 27 func84 ?_;unfold zL at h;refine sg (sg (sg ⟨_,rfl,(by decide),_,rfl,(by decide),_,rfl,_,rfl,_,rfl,?_⟩));have ⟨v1,ν,h⟩:=ι h;refine Ok.bg ⟨aq [(3,.o 21),(4,.v (.int .u64 v1.1))],[(21,.own 5 1 (mU v1.2))]⟩ ?_ ?_
 ·refine bl (Ok.loop (fun (s1:Int×(List UInt8))=>⟨aq [(3,.o 21),(4,.v (.int .u64 s1.1))],[(21,.own 5 1 (mU s1.2))]⟩) (Fq) (s0:=((qC .u64 (pP .u64 (IntKind.u64.wrap a) (1)) (IntKind.u64.wrap (eX .i64 a (63)))),[])) ν ((Wk.BU (t:=3) (id:=21) (E:=5) (K:=1) rfl rfl).trans (wt Q2 ⟨hr,Q0⟩ rfl)) ?_);intro s1 y1 ζ aL;unfold Fq at ζ;refine sq (sg ?_);refine ct ζ (fun hb ζ=>?_) fun hb ζ=>?_
  ·refine sk (sq (bl (rg ?_)));have ⟨ar,ζ⟩:=aC ζ;refine ⟨_,YD _,_,aaK (lx s1.1) (128:UInt8),ψ ⟨gy (f:=dD) (n:=1) (fun _=>rfl) ([(lx s1.1) ||| (128:UInt8)]),gQ (f:=dD) (l:=s1.2) (l':=[(lx s1.1) ||| (128:UInt8)]) ar,_,(eI (f:=dD) (l₁:=s1.2) (l₂:=[(lx s1.1) ||| (128:UInt8)])).symm,?_⟩⟩;refine rg ⟨(by decide),_,rfl,?_⟩;exact ⟨_,sj ζ,wt Q2 J1 rfl⟩
  refine xt ?_;have ζ:=bd ζ aL;cases ζ;exact wt Q2 J1 rfl
 refine sg ?_;have ⟨bu,h⟩:=aC h;refine ⟨_,YD _,ψ ⟨gy (f:=dD) (n:=1) (fun _=>rfl) ([lx v1.1]),gQ (f:=dD) (l:=v1.2) (l':=[lx v1.1]) bu,_,(eI (f:=dD) (l₁:=v1.2) (l₂:=[lx v1.1])).symm,?_⟩⟩;refine rt ?_;cases h;exact (.inr ⟨_,rfl,rfl⟩)
def aje {a r} (h:zL a=some r):Pure prog 84 [vi a] (.s (mU r)):=(Zr h).pure
def Ri {a r} (h:xb a=some r):iN prog 36 [.s (mB a)] 5 1 (mU r):=by
 refine pv tok 18 func36 ?_;unfold xb at h;refine sg (sg ?_);have ⟨v1,ν,h⟩:=ι h;refine Ok.bg ⟨aq [(3,.o 15)],[(15,.own 5 1 (mU v1))]⟩ ?_ ?_
 ·refine sg ⟨_,ax _,fun _=>?_⟩;refine bl (Ok.loop (fun (s1:Int×(List UInt8))=>⟨aq [(3,.o 15),(6,.s (mB a)),(7,vi (a.length:Int)),(8,vi s1.1)],[(15,.own 5 1 (mU s1.2))]⟩) (xc a) (s0:=(0,[])) ν ((Wk.BU (t:=3) (id:=15) (E:=5) (K:=1) rfl rfl).trans (wt Q4 ⟨hr,Q0⟩ rfl)) ?_);intro s1 y1 ζ aL;unfold xc at ζ;refine sg (sq (ct ζ (fun hb ζ=>?_) fun hb ζ=>?_))
  ·refine sk (sq (bl (sg ?_)));have ⟨x1,Θ,ζ⟩:=ι ζ;refine ⟨_,bq Θ,_,br Θ,_,rfl,?_⟩;refine rg ?_;have ⟨x2,ak,ζ⟩:=ι ζ;refine ae.call (aje ak) lz ?_;have ⟨ar,ζ⟩:=aC ζ;refine ⟨gy (f:=dD) (n:=1) (fun _=>rfl) x2,gQ (f:=dD) (l:=s1.2) (l':=x2) ar,_,(eI (f:=dD) (l₁:=s1.2) (l₂:=x2)).symm,?_⟩;refine rg ?_;have ⟨bu,ζ⟩:=aC ζ;refine (ψ ⟨bu,?_⟩);exact ⟨_,sj ζ,wt Q4 J1 rfl⟩
  refine xt ?_;have ζ:=bd ζ aL;cases ζ;exact wt Q1 J1 rfl
 refine sg (rt ?_);cases h;exact (.inr ⟨_,rfl,rfl⟩)
def ajh {a r} (h:xb a=some r):Pure prog 36 [.s (mB a)] (.s (mU r)):=(Ri h).pure
def akJ {a r} (h:tz a=some r):iN prog 37 [vs a] 5 1 (mU r):=by
 refine pv tok 8 func37 ?_;unfold tz at h;refine sg (sg ?_);have ⟨x1,Θ,h⟩:=ι h;refine ⟨_,oT _,?_⟩;refine ae.own (D:=5) (Zr Θ) lz rfl ?_;have ⟨ar,h⟩:=aC h;refine ⟨gy (f:=dD) (n:=1) (fun _=>rfl) a,gQ (f:=dD) (l:=x1) (l':=a) ar,_,(eI (f:=dD) (l₁:=x1) (l₂:=a)).symm,?_⟩;refine rt ?_;cases h;exact (.inr ⟨_,rfl,rfl⟩)
def GK {a r} (h:tz a=some r):Pure prog 37 [vs a] (.s (mU r)):=(akJ h).pure
def akI {c r} (h:zM c=some r):iN prog 17 [.a (vT c)] 5 1 (mU r):=by
 refine pv tok 36 func17 ?_;unfold zM at h;refine sg (sg ?_);have ⟨x1,Θ,h⟩:=ι h;refine ⟨_,rfl,_,rfl,ψ ?_⟩;refine ae.own (D:=9) (Ri Θ) lz rfl ?_;refine sg ?_;have ⟨x2,ak,h⟩:=ι h;refine ⟨_,rfl,?_⟩;refine ae.call (GK ak) lz ?_;have ⟨ar,h⟩:=aC h;refine ⟨gy (f:=dD) (n:=1) (fun _=>rfl) x2,gQ (f:=dD) (l:=x1) (l':=x2) ar,_,(eI (f:=dD) (l₁:=x1) (l₂:=x2)).symm,?_⟩;refine sg ?_;have ⟨x3,aK,h⟩:=ι h;refine ⟨_,rfl,?_⟩;refine ae.call (GK aK) lz ?_;have ⟨bu,h⟩:=aC h;refine ⟨gy (f:=dD) (n:=1) (fun _=>rfl) x3,gQ (f:=dD) (l:=x1++x2) (l':=x3) bu,_,(eI (f:=dD) (l₁:=x1++x2) (l₂:=x3)).symm,?_⟩;refine sg ?_;have ⟨x4,bn,h⟩:=ι h;refine ⟨_,rfl,_,rfl,_,rfl,ψ ?_⟩;refine ae.call (ajh bn) lz ?_;have ⟨dU,h⟩:=aC h;refine ⟨gy (f:=dD) (n:=1) (fun _=>rfl) x4,gQ (f:=dD) (l:=(x1++x2)++x3) (l':=x4) dU,_,(eI (f:=dD) (l₁:=(x1++x2)++x3) (l₂:=x4)).symm,?_⟩;refine sg ?_;have ⟨x5,dr,h⟩:=ι h;refine ⟨_,rfl,_,rfl,?_⟩;refine ae.call (GK dr) lz ?_;have ⟨kT,h⟩:=aC h;refine ⟨gy (f:=dD) (n:=1) (fun _=>rfl) x5,gQ (f:=dD) (l:=((x1++x2)++x3)++x4) (l':=x5) kT,_,(eI (f:=dD) (l₁:=((x1++x2)++x3)++x4) (l₂:=x5)).symm,?_⟩;refine rt ?_;cases h;exact (.inr ⟨_,rfl,rfl⟩)
def YZ {b r} (h:zM b=some r):Pure prog 17 [.a (vT b)] (.s (mU r)):=(akI h).pure
def ajg {a r} (h:JM a=some r):Pure prog 82 [.s (mU a)] (.t (VS r.1 r.2.1 r.2.2)):=by
 refine pq tok 50 func82 ?_;unfold JM at h;refine sg (sg (Ok.eC (fun v1=>⟨aq [],[]⟩) (fun v1=>Pj v1=some r) ?_ ?_))
 ·refine sg ⟨_,ax _,fun _=>?_⟩;refine bl (Ok.loop (fun (s1:Int×Int)=>⟨aq [(0,.s (mU a)),(5,.v (.int .u64 s1.1)),(8,.s (mU a)),(9,vi (a.length:Int)),(10,vi s1.2)],[]⟩) (B0 a) (s0:=(0,0)) h (wt Q5 Q0 rfl) ?_);intro s1 y1 ζ aL;unfold B0 at ζ;refine sg (sq (ct ζ (fun hb ζ=>?_) fun hb ζ=>?_))
  ·refine sk (sq (bl (sg ?_)));have ⟨x1,Θ,ζ⟩:=ι ζ;refine ⟨_,bq Θ,_,br Θ,_,rfl,?_⟩;refine sq ?_;have ⟨v2,aw,ζ⟩:=ι ζ;refine Ok.bg ⟨aq [(0,.s (mU a)),(5,.v (.int .u64 s1.1)),(6,vi s1.2),(7,vu x1),(8,.s (mU a)),(9,vi (a.length:Int)),(10,vi s1.2),(20,vb v2)],[]⟩ ?_ ?_
   ·refine rg ?_;have ⟨c1,Δ,aw⟩:=ι aw;refine Br.ite Δ (fun hb Δ=>?_) fun hb Δ=>?_
    ·cases Δ;cases aw;exact wt Q8 Q0 rfl
    cases Δ;cases aw;exact wt Q8 Q0 rfl
   refine ct ζ (fun hb ζ=>?_) fun hb ζ=>?_
   ·refine sg (rt ?_);have ζ:=bd ζ aL;cases ζ;exact (Fz.t (.cons Fz.v (.cons Fz.nil fq)))
   refine sk (sg ?_);have ⟨ar,ζ⟩:=aC ζ;have ⟨bu,ζ⟩:=aC ζ;refine ⟨_,aaJ x1 (127:UInt8),_,akR (k:=.u64) (by decide) _,ψ ⟨ar,bu,_,rfl,_,rfl,?_⟩⟩;refine sq (sg ?_);refine ct ζ (fun hb ζ=>?_) fun hb ζ=>?_
   ·refine xt (rg ?_);have ⟨dU,ζ⟩:=aC ζ;refine (ψ ⟨dU,?_⟩);exact ⟨_,sj ζ,wt Q5 Q0 rfl⟩
   refine sk (sq ?_);have ⟨v3,dy,ζ⟩:=ι ζ;refine Ok.bg ⟨aq [(0,.s (mU a)),(5,.v (.int .u64 (vd .u64 s1.1 (pP .u64 ((x1 &&& (127:UInt8)).toNat:Int) (7*s1.2))))),(6,vi s1.2),(36,vb v3)],[]⟩ ?_ ?_
   ·refine rg ?_;have ⟨c2,aF,dy⟩:=ι dy;refine Br.ite aF (fun hb aF=>?_) fun hb aF=>?_
    ·cases aF;cases dy;exact wt Q4 Q0 rfl
    cases aF;cases dy;exact wt Q4 Q0 rfl
   refine ct ζ (fun hb ζ=>?_) fun hb ζ=>?_
   ·refine sg (rt ?_);have ζ:=bd ζ aL;cases ζ;exact (Fz.t (.cons Fz.v (.cons Fz.nil fq)))
   refine sk (sq (dw 15 tok mixed ?_));have ⟨kT,ζ⟩:=aC ζ;have ⟨qh,ζ⟩:=aC ζ;have ⟨Em,ζ⟩:=aC ζ;refine ⟨_,rfl,_,⟨(by decide),_,rfl,rfl⟩,_,⟨_,rfl,rfl⟩,_,rfl,_,⟨_,rfl,rfl⟩,_,⟨_,rfl,rfl⟩,_,⟨_,Ξ.wrap kT,rfl⟩,_,⟨_,rfl,rfl⟩,_,rfl,_,rfl,_,ψ ⟨qh,rfl⟩,_,⟨_,lq Em.1,xk Em,Nat.le_refl _,xg (f:=dD) (K:=1) (fun _=>rfl) a,_,PZ _ _ _,rfl⟩,_,rfl,_,rfl,_,rfl,Q0,?_⟩;refine rt ?_;have ζ:=bd ζ aL;cases ζ;exact (Fz.t (.cons Fz.v (.cons Fz.s fq)))
  refine xt ?_;have ζ:=bd ζ aL;exact ⟨_,ζ,wt Q0 Q0 rfl⟩
 intro v1 h;unfold Pj at h;refine sg (rt ?_);cases h;exact (Fz.t (.cons Fz.v (.cons Fz.nil fq)))
def rV {self r} (h:nW self=some r):mz prog 33 [.b 1000 0] (.box [.s (mU self.gx.b_),vi self.e_]) (fun x c=>x=(vi r.1)∧c=.box [.s (mU r.2.gx.b_),vi r.2.e_]):=by
 refine qv (n:=31) (c:=f33.body.getD .skip) tok func33 (by kernel_rfl) rfl rfl nb ?_;unfold nW at h;refine sg (sq (sg ?_));refine ⟨_,rfl,?_⟩;refine ct h (fun hb h=>?_) fun hb h=>?_
 ·refine sg (rt ?_);cases h;exact ⟨_,_,⟨rfl,rfl⟩,rfl,rfl,Fz.v⟩
 refine sk (sg ?_);have ⟨x1,Θ,h⟩:=ι h;refine ⟨_,rfl,?_⟩;refine ae.call (ajg Θ) lz ?_;refine sg ⟨_,rfl,_,rfl,?_⟩;refine sg (rt ?_);cases h;exact ⟨_,_,⟨rfl,rfl⟩,rfl,rfl,Fz.v⟩
def Y1 {self r} (h:B2 self=some r):mz prog 38 [.b 1000 0] (.box [.s (mU self.gx.b_),vi self.e_]) (fun x c=>x=(vi r.1)∧c=.box [.s (mU r.2.gx.b_),vi r.2.e_]):=by
 refine qv (n:=31) (c:=f38.body.getD .skip) tok func38 (by kernel_rfl) rfl rfl nb ?_;unfold B2 at h;refine sg (sg ?_);have ⟨x1,Θ,h⟩:=ι h;refine ae.dE (id:=1000) (rV Θ) rfl (.box lz) rfl (.cons (Lr.b) .nil) ?_;rintro _ _ ⟨rfl,rfl⟩;refine Ok.eC (fun v1=>⟨aq [],[(1000,.box [.s (mU x1.2.gx.b_),vi v1])]⟩) (fun v1=>JN x1 v1=some r) ?_ ?_
 ·refine bl (sg ?_);refine ⟨_,rfl,?_⟩;refine ct h (fun hb h=>?_) fun hb h=>?_
  ·refine sg (rt ?_);cases h;exact ⟨_,_,⟨rfl,rfl⟩,rfl,rfl,Fz.v⟩
  refine sg (ct h (fun hb h=>?_) fun hb h=>?_)
  ·refine rg ⟨_,rfl,?_⟩;exact ⟨_,h,wt Q0 ⟨hr,Q0⟩ rfl⟩
  refine sg ⟨_,rfl,_,ax _,fun _=>?_⟩;refine ct h (fun hb h=>?_) fun hb h=>?_
  ·refine rg ⟨_,rfl,?_⟩;exact ⟨_,h,wt Q0 ⟨hr,Q0⟩ rfl⟩
  refine sg (rt ?_);cases h;exact ⟨_,_,⟨rfl,rfl⟩,rfl,rfl,Fz.v⟩
 intro v1 h;unfold JN at h;refine sg (rt ?_);cases h;exact ⟨_,_,⟨rfl,rfl⟩,rfl,rfl,Fz.v⟩
def aji {self a r} (h:JO self a=some r):mz prog 83 [.b 1000 0,vi a] (.box [.s (mU self.gx.b_),vi self.e_]) (fun x c=>x=(.s (mU r.1))∧c=.box [.s (mU r.2.gx.b_),vi r.2.e_]):=by
 refine qv (n:=22) (c:=f83.body.getD .skip) tok func83 (by kernel_rfl) rfl rfl nb ?_;unfold JO at h;refine sg (sg ?_);have ⟨ar,h⟩:=aC h;refine ⟨_,rfl,_,lq ar.1,Nat.zero_le _,xk ar,xg (f:=dD) (K:=1) (fun _=>rfl) self.gx.b_,_,Kq _ _ _,?_⟩;refine sg ?_;have ⟨bu,h⟩:=aC h;refine ⟨_,rfl,_,lq bu.1,xk bu,Nat.le_refl _,xg (f:=dD) (K:=1) (fun _=>rfl) self.gx.b_,_,PZ _ _ _,_,rfl,?_⟩;refine sg (rt ?_);cases h;exact ⟨_,_,⟨rfl,rfl⟩,rfl,rfl,Fz.s⟩
def GL {self r} (h:ve self=some r):mz prog 34 [.b 1000 0] (.box [.s (mU self.gx.b_),vi self.e_]) (fun x c=>x=(vs r.1)∧c=.box [.s (mU r.2.gx.b_),vi r.2.e_]):=by
 refine qv (n:=17) (c:=f34.body.getD .skip) tok func34 (by kernel_rfl) rfl rfl nb ?_;unfold ve at h;refine sg (sg ?_);have ⟨x1,Θ,h⟩:=ι h;refine ae.dE (id:=1000) (Y1 Θ) rfl (.box lz) rfl (.cons (Lr.b) .nil) ?_;rintro _ _ ⟨rfl,rfl⟩;refine sq (sg ?_);refine ⟨_,rfl,?_⟩;refine ct h (fun hb h=>?_) fun hb h=>?_
 ·refine sg (rt ?_);cases h;exact ⟨_,_,⟨rfl,rfl⟩,rfl,rfl,Fz.v⟩
 refine sk (sg ?_);have ⟨x2,ak,h⟩:=ι h;refine ae.dE (id:=1000) (aji ak) rfl (.box lz) rfl (.cons (Lr.b) (.cons (Lr.dL rfl) .nil)) ?_;rintro _ _ ⟨rfl,rfl⟩;refine ⟨_,rfl,?_⟩;refine rt ?_;cases h;exact ⟨_,_,⟨rfl,rfl⟩,rfl,rfl,Fz.v⟩
def Y2 {self r} (h:B3 self=some r):mz prog 35 [.b 1000 0] (.box [.s (mU self.gx.b_),vi self.e_]) (fun x c=>x=(vi r.1)∧c=.box [.s (mU r.2.gx.b_),vi r.2.e_]):=by
 refine qv (n:=24) (c:=f35.body.getD .skip) tok func35 (by kernel_rfl) rfl rfl nb ?_;unfold B3 at h;refine sg ?_;have ⟨v1,ν,h⟩:=ι h;refine Ok.bg ⟨aq [(0,.b 1000 0)],[(1000,.box [.s (mU self.gx.b_),vi v1])]⟩ ?_ ?_
 ·have ⟨v2,aw,ν⟩:=ι ν;refine Ok.bg ⟨aq [(0,.b 1000 0),(16,vb v2)],[(1000,.box [.s (mU self.gx.b_),vi self.e_])]⟩ ?_ ?_
  ·refine rg ⟨_,rfl,?_⟩;have ⟨c1,Δ,aw⟩:=ι aw;refine Br.ite Δ (fun hb Δ=>?_) fun hb Δ=>?_
   ·refine ⟨_,rfl,_,ax _,fun _=>?_⟩;cases Δ;cases aw;exact wt Q2 J1 rfl
   cases Δ;cases aw;exact wt Q2 J1 rfl
  refine ct ν (fun hb ν=>?_) fun hb ν=>?_
  ·refine rg ⟨_,rfl,?_⟩;cases ν;exact wt Q1 J1 rfl
  refine sk ?_;cases ν;exact wt Q1 J1 rfl
 refine sg ⟨_,rfl,?_⟩;refine rt ?_;cases h;exact ⟨_,_,⟨rfl,rfl⟩,rfl,rfl,Fz.v⟩
def Y0 {c r} (h:B1 c=some r):Pure prog 16 [.s (mU c)] (.t [.a (vT r.1),vi r.2]):=by
 refine pq tok 43 func16 ?_;unfold B1 at h;refine sg (sg (sg (sg ?_)));have ⟨x1,Θ,h⟩:=ι h;refine ae.dE (id:=10) (rV Θ) rfl (.box lz) rfl (.cons (Lr.b) .nil) ?_;rintro _ _ ⟨rfl,rfl⟩;have ⟨x2,ak,h⟩:=ι h;refine ae.dE (id:=10) (rV ak) rfl (.box lz) rfl (.cons (Lr.b) .nil) ?_;rintro _ _ ⟨rfl,rfl⟩;refine ⟨_,rfl,_,rfl,?_⟩;refine sg ?_;have ⟨x3,aK,h⟩:=ι h;refine ae.dE (id:=10) (GL aK) rfl (.box lz) rfl (.cons (Lr.b) .nil) ?_;rintro _ _ ⟨rfl,rfl⟩;have ⟨x4,bn,h⟩:=ι h;refine ae.dE (id:=10) (GL bn) rfl (.box lz) rfl (.cons (Lr.b) .nil) ?_;rintro _ _ ⟨rfl,rfl⟩;refine ⟨_,rfl,_,rfl,?_⟩;refine wT [(2,.b 2 0),(4,.b 10 0),(5,.b 5 0)] [(2,.box (VT 0 0 ([]) ([]) 0 0 0)),(10,.box [.s (mU x4.2.gx.b_),vi x4.2.e_]),(5,.box (VT x1.1 x2.1 x3.1 x4.1 0 0 0))] Q3 J3 rfl ?_;refine sg ?_;have ⟨x5,dr,h⟩:=ι h;refine ae.dE (id:=10) (rV dr) rfl (.box lz) rfl (.cons (Lr.b) .nil) ?_;rintro _ _ ⟨rfl,rfl⟩;have ⟨x6,gw,h⟩:=ι h;refine ae.dE (id:=10) (rV gw) rfl (.box lz) rfl (.cons (Lr.b) .nil) ?_;rintro _ _ ⟨rfl,rfl⟩;have ⟨x7,gg,h⟩:=ι h;refine ae.dE (id:=10) (rV gg) rfl (.box lz) rfl (.cons (Lr.b) .nil) ?_;rintro _ _ ⟨rfl,rfl⟩;refine ⟨_,rfl,_,rfl,_,rfl,?_⟩;refine sg ?_;have ⟨x8,jl,h⟩:=ι h;refine ae.dE (id:=10) (GL jl) rfl (.box lz) rfl (.cons (Lr.b) .nil) ?_;rintro _ _ ⟨rfl,rfl⟩;have ⟨ar,h⟩:=aC h;refine ⟨Ys ar,_,rfl,?_⟩;refine sq (sg ?_);have ⟨x9,jV,h⟩:=ι h;refine ae.dE (id:=10) (Y2 jV) rfl (.box lz) rfl (.cons (Lr.b) .nil) ?_
 rintro _ _ ⟨rfl,rfl⟩;refine sg (ct h (fun hb h=>?_) fun hb h=>?_)
 ·refine sg ⟨_,rfl,?_⟩;refine rt ?_;cases h;exact ⟨_,rfl,Fz.t (.cons (Fz.a (.cons Fz.v (.cons Fz.v (.cons Fz.v (.cons Fz.v (.cons Fz.v (.cons Fz.v (.cons Fz.v (.cons Fz.nil .nil))))))))) fq)⟩
 refine sk (sg ?_);refine ⟨_,rfl,_,rfl,?_⟩;refine rt ?_;cases h;exact ⟨_,rfl,Fz.t fq⟩
def ajV [o8] {r} (h:Gx=some r):Pure prog 8 [] (vb r):=by
 refine pq tok 85 func8 ?_;unfold Gx at h;refine sg (sg ?_);have ⟨x1,Θ,h⟩:=ι h;refine ae.call (QX Θ) lz ?_;have ⟨x2,ak,h⟩:=ι h;refine ae.call (Am ak) (l1 (.cons (Le.a (l4 (l2 (l1 (.cons (Le.nil) .nil))))) .nil)) ?_;refine ⟨_,rfl,_,rfl,?_⟩;refine sg ?_;have ⟨x3,aK,h⟩:=ι h;refine ⟨_,rfl,?_⟩;refine ae.call (Am aK) (l1 (.cons (Le.a (l4 (l2 (l1 (.cons (Le.nil) .nil))))) .nil)) ?_;refine ⟨_,rfl,_,rfl,?_⟩;refine sg ?_;have ⟨x4,bn,h⟩:=ι h;refine ⟨_,rfl,?_⟩;refine ae.call (Am bn) (l1 (.cons (Le.a (l4 (l2 (l1 (.cons (Le.nil) .nil))))) .nil)) ?_;refine ⟨_,rfl,_,rfl,?_⟩;refine wT [(1,.b 1 0),(2,.b 2 0),(3,.b 3 0),(4,.b 4 0)] [(1,.box (b2 x4.1)),(2,.box (ju x2.2)),(3,.box (ju x3.2)),(4,.box (ju x4.2))] Q4 J4 rfl ?_;refine sg ?_;have ⟨x5,dr,h⟩:=ι h;refine ⟨_,rfl,?_⟩;refine ae.call (Am dr) (l1 (.cons (Le.a (l4 (l2 (l1 (.cons (Le.nil) .nil))))) .nil)) ?_;refine ⟨_,rfl,_,rfl,?_⟩;refine sg ?_;have ⟨x6,gw,h⟩:=ι h;refine ⟨_,rfl,?_⟩;refine ae.call (Am gw) (l1 (.cons (Le.a (l4 (l2 (l1 (.cons (Le.nil) .nil))))) .nil)) ?_;refine ⟨_,rfl,_,rfl,?_⟩;refine wT [(2,.b 2 0),(3,.b 3 0),(4,.b 4 0),(6,.b 6 0),(8,.b 8 0)] [(2,.box (ju x2.2)),(3,.box (ju x3.2)),(4,.box (ju x4.2)),(6,.box (ju x5.2)),(8,.box (ju x6.2))] Q5 ⟨hr,J4⟩ rfl ?_;refine sg ?_;have ⟨x7,gg,h⟩:=ι h;refine ae.call (YZ gg) (.cons (Le.a (l4 (l2 (l1 (.cons (Le.nil) .nil))))) .nil) ?_;have ⟨x8,jl,h⟩:=ι h;refine ae.call (Y0 jl) lz ?_;refine ⟨_,rfl,?_⟩;refine sq (sg ?_);refine ⟨_,rfl,_,ax _,fun _=>?_⟩
 refine ct h (fun hb h=>?_) fun hb h=>?_
 ·refine sg (rt ?_);cases h;exact Fz.v
 refine sk ?_;have ⟨v1,ν,h⟩:=ι h;refine Ok.bg ⟨aq [(0,vb v1)],[]⟩ ?_ ?_
 ·refine rg ⟨_,rfl,?_⟩;have ⟨c1,Δ,ν⟩:=ι ν;refine Br.ite Δ (fun hb Δ=>?_) fun hb Δ=>?_
  ·refine ⟨_,rfl,?_⟩;cases Δ;have ⟨c2,aF,ν⟩:=ι ν;refine Br.ite aF (fun hb aF=>?_) fun hb aF=>?_
   ·refine ⟨_,rfl,?_⟩;cases aF;have ⟨c3,aM,ν⟩:=ι ν;refine Br.ite aM (fun hb aM=>?_) fun hb aM=>?_
    ·have ⟨x9,jV,aM⟩:=ι aM;refine ⟨_,rfl,_,bq jV,_,br jV,_,rfl,_,tT _ _,?_⟩;cases aM;have ⟨c4,cC,ν⟩:=ι ν;refine Br.ite cC (fun hb cC=>?_) fun hb cC=>?_
     ·refine ⟨_,rfl,?_⟩;cases cC;have ⟨c5,cU,ν⟩:=ι ν;refine Br.ite cU (fun hb cU=>?_) fun hb cU=>?_
      ·refine ⟨_,rfl,_,tT _ _,?_⟩;cases cU;have ⟨c6,dA,ν⟩:=ι ν;refine Br.ite dA (fun hb dA=>?_) fun hb dA=>?_
       ·cases dA;cases ν;exact wt Q1 Q0 rfl
       cases dA;cases ν;exact wt Q1 Q0 rfl
      cases cU;have ⟨c6,et,ν⟩:=ι ν;replace et:=cL et;cases et;cases ν;exact wt Q1 Q0 rfl
     cases cC;have ⟨c5,fa,ν⟩:=ι ν;replace fa:=cL fa;cases fa;have ⟨c6,gb,ν⟩:=ι ν;replace gb:=cL gb;cases gb;cases ν;exact wt Q1 Q0 rfl
    cases aM;have ⟨c4,eS,ν⟩:=ι ν;replace eS:=cL eS;cases eS;have ⟨c5,gG,ν⟩:=ι ν;replace gG:=cL gG;cases gG;have ⟨c6,gH,ν⟩:=ι ν;replace gH:=cL gH;cases gH;cases ν;exact wt Q1 Q0 rfl
   cases aF;have ⟨c3,iC,ν⟩:=ι ν;replace iC:=cL iC;cases iC;have ⟨c4,ji,ν⟩:=ι ν;replace ji:=cL ji;cases ji;have ⟨c5,iD,ν⟩:=ι ν;replace iD:=cL iD;cases iD;have ⟨c6,kU,ν⟩:=ι ν;replace kU:=cL kU;cases kU;cases ν;exact wt Q1 Q0 rfl
  cases Δ;have ⟨c2,nH,ν⟩:=ι ν;replace nH:=cL nH;cases nH;have ⟨c3,kV,ν⟩:=ι ν;replace kV:=cL kV;cases kV;have ⟨c4,pz,ν⟩:=ι ν;replace pz:=cL pz;cases pz;have ⟨c5,re,ν⟩:=ι ν;replace re:=cL re;cases re;have ⟨c6,pA,ν⟩:=ι ν;replace pA:=cL pA;cases pA;cases ν;exact wt Q1 Q0 rfl
 refine rt ?_;cases h;exact Fz.v
def aja {c r} (h:E1 c=some r):Pure prog 21 [.a (vT c)] (vb r):=by
 refine pq tok 19 func21 ?_;unfold E1 at h;refine sg ?_;have ⟨v1,ν,h⟩:=ι h;refine Ok.bg ⟨aq [(2,vb v1)],[]⟩ ?_ ?_
 ·refine rg ⟨_,rfl,_,ax _,fun _=>?_⟩;have ⟨c1,Δ,ν⟩:=ι ν;refine Br.eh Δ (fun hb Δ=>?_) fun hb Δ=>?_
  ·cases Δ;have ⟨c2,aF,ν⟩:=ι ν;replace aF:=ee aF;cases aF;cases ν;exact wt Q1 Q0 rfl
  refine ⟨_,rfl,_,oT _,?_⟩;cases Δ;have ⟨c2,aM,ν⟩:=ι ν;refine Br.eh aM (fun hb aM=>?_) fun hb aM=>?_
  ·cases aM;cases ν;exact wt Q1 Q0 rfl
  refine ⟨_,rfl,_,oT _,?_⟩;cases aM;cases ν;exact wt Q1 Q0 rfl
 refine rt ?_;cases h;exact Fz.v
end Go.Proofs
