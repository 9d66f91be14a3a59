/- The walks of this seat beside the plain programs, part 7. No condition. -/
import Derived.Test.YtdcgbodbejgliaaGreatDoorXTopClientsHb
import Derived.Test.YtdcgbodbejgliaaGreatDoorXTopClientsWk0
import Derived.Test.YtdcgbodbejgliaaGreatDoorXTopClientsWk1
import Derived.Test.YtdcgbodbejgliaaGreatDoorXTopClientsWk2
import Derived.Test.YtdcgbodbejgliaaGreatDoorXTopClientsWk3
import Derived.Test.YtdcgbodbejgliaaGreatDoorXTopClientsWk4
import Derived.Test.YtdcgbodbejgliaaGreatDoorXTopClientsWk5
import Derived.Test.YtdcgbodbejgliaaGreatDoorXTopClientsWk6
open List renaming length_map → az, map_append → fu
open Or renaming inl → θ, inr → bY
namespace Go.Proofs
set_option linter.all false
open Go Go.Cat Tryz
variable [M:bM]
set_option maxRecDepth 100000
set_option maxHeartbeats 4000000
def An [oY] {d e r} (h:pf d e=some r):Pure prog 12 [.a (b2 d),.a (uw e)] (.t [.a (b2 r.1),.a (np r.2)]):=by
 refine aaI (n:=44) (q:=[(2,1000),(3,3),(4,1001),(5,1002)]) (L:=[(2,.b 2 0),(3,.b 3 0),(4,.b 4 0),(5,.b 5 0)]) (H:=[(2,.box (b2 d)),(3,.box (uw e)),(4,.box (k6 0 0 0 0)),(5,.box (jG 0 0 0 0 0))]) (cf:=(b2 d)) (kf:=10) (ka:=7) (ans:=fun m=>(tn ((⟨m,0,0,0,0,[],[]⟩:dL).xD) ((⟨m,0,0,0,0,[],[]⟩:dL).ι) ((⟨m,0,0,0,0,[],[]⟩:dL).ξ) ((⟨m,0,0,0,0,[],[]⟩:dL).N) ((⟨m,0,0,0,0,[],[]⟩:dL).M) ((⟨m,0,0,0,0,[],[]⟩:dL).mj) ((⟨m,0,0,0,0,[],[]⟩:dL).aC))) tok func12 (by kernel_rfl) rfl rfl nb ⟨rfl,rfl,rfl⟩ ⟨rfl,rfl,rfl⟩ (by decide) (aan _ _ _ _ _ _ _ _ _ _) rfl rfl rfl rfl rfl rfl rfl rfl rfl rfl rfl rfl rfl rfl rfl (fun _=>rfl) rfl (fun _=>rfl) ?_ ?_
 ·refine rg ?_;exact ⟨rfl,wt Q4 ⟨hr,hr,hr,hr,Q0⟩ rfl⟩
 unfold pf at h;have ⟨v1,ν,h⟩:=κ h;refine Ok.bj ⟨ar [(2,.b 1000 0),(3,.b 3 0),(4,.b 1001 0),(5,.b 1002 0),(6,kH v1),(7,vb ((bn e.ξ Aj).isSome))],[(1000,.box (b2 d)),(3,.box (uw e)),(1001,.box (k6 0 0 0 0)),(1002,.box (jG 0 0 0 0 0))]⟩ ?_ ?_
 ·have ⟨x1,Ξ,ν⟩:=κ ν;have ⟨x2,au,ν⟩:=κ ν;refine abq x2 (fun hA=>?_) fun nA hA=>?_;all_goals refine Ok.aaK [[0,1,2,3,4,5,6,7,8],[0,1,2,3,4,5,7,6,8],[0,1,2,3,4,6,5,7,8],[1,0,2,3,4,5,6,7,8],[1,0,2,3,4,5,7,6,8],[1,0,2,3,4,6,5,7,8],[1,2,0,3,4,5,6,7,8],[1,2,0,3,4,5,7,6,8],[1,2,0,3,4,6,5,7,8]] tok mixed (by kernel_rfl) ⟨?_,?_,?_,?_,?_,?_,?_,?_,?_,Q0⟩
  iterate 6 (refine cg [] [(1,999)] (GM Ξ) .nil Q0 ?_;refine ⟨_,rfl,_,((pJ gM (z:=(0:Int)) au).trans (congrArg (fun a=>[a]) hA)),_,tq gM e.ξ Aj,?_⟩;cases ν;exact wt ⟨lr,lr,lr,lr,Le.of_eq hA.symm,Q1⟩ J4 rfl)
  iterate 3 (refine ⟨_,rfl,?_⟩;refine cg [] [(1,999)] (GM Ξ) .nil Q0 ?_;refine ⟨_,((pJ gM (z:=(0:Int)) au).trans (congrArg (fun a=>[a]) hA)),_,tq gM e.ξ Aj,?_⟩;cases ν;exact wt ⟨lr,lr,lr,lr,Le.of_eq hA.symm,Q1⟩ J4 rfl)
  iterate 6 (refine cg [] [(1,999)] (GM Ξ) .nil Q0 ?_;refine ⟨_,rfl,_,((pJ gM (z:=(0:Int)) au).trans (congrArg (fun a=>[a]) hA)),_,tq gM e.ξ Aj,?_⟩;cases ν;exact wt ⟨lr,lr,lr,lr,Le.of_eq hA.symm,Q1⟩ J4 rfl)
  iterate 2 (refine ⟨_,rfl,?_⟩;refine cg [] [(1,999)] (GM Ξ) .nil Q0 ?_;refine ⟨_,((pJ gM (z:=(0:Int)) au).trans (congrArg (fun a=>[a]) hA)),_,tq gM e.ξ Aj,?_⟩;cases ν;exact wt ⟨lr,lr,lr,lr,Le.of_eq hA.symm,Q1⟩ J4 rfl)
  refine ⟨_,rfl,?_⟩;refine cg [] [(1,999)] (GM Ξ) .nil Q0 ?_;refine ⟨_,((pJ gM (z:=(0:Int)) au).trans (congrArg (fun a=>[a]) hA)),_,tq gM e.ξ Aj,?_⟩;cases ν;exact wt ⟨lr,lr,lr,lr,Le.of_eq hA.symm,Q1⟩ J4 rfl
 refine Ok.fg (fun v2=>⟨ar [(2,.b 1000 0),(3,.b 3 0),(4,.b 1001 0),(5,.b 1002 0),(6,kH v1)],[(1000,.box (b2 d)),(3,.box (uw e)),(1001,.box (k6 0 0 0 0)),(1002,.box (jG 0 0 0 0 0))]⟩) (fun v2=>fa v1 d e v2=some r) ?_ ?_
 ·refine Ok.cV bh tok (θ (θ ?_));have ⟨c1,Δ,h⟩:=κ h;refine Br.ite Δ (fun hb Δ=>?_) fun hb Δ=>?_
  ·refine θ (θ (⟨_,rfl,θ ?_⟩));cases Δ;refine θ (θ ?_);have ⟨c2,aI,h⟩:=κ h;refine Br.ite aI (fun hb aI=>?_) fun hb aI=>?_
   ·refine θ (θ (⟨_,rfl,θ ?_⟩));cases aI;refine θ ?_;have ⟨x3,aM,h⟩:=κ h;refine bY (cx [] [] (pR aM) nq Q0 (fun e1 bD=>?_) (fun y1 cY=>?_))
    ·have h:=cw h bD;cases h;exact ⟨_,rfl,rfl,rfl,rfl,⟨_,rfl,rfl⟩,⟨_,rfl,rfl⟩,rfl⟩
    have h:=cy h cY;exact ⟨_,h,wt Q5 ⟨hr,hr,hr,hr,Q0⟩ rfl⟩
   cases aI;refine θ ?_;have ⟨x3,aM,h⟩:=κ h;refine bY (cx [] [] (pR aM) nq Q0 (fun e1 bD=>?_) (fun y1 cY=>?_))
   ·have h:=cw h bD;cases h;exact ⟨_,rfl,rfl,rfl,rfl,⟨_,rfl,rfl⟩,⟨_,rfl,rfl⟩,rfl⟩
   have h:=cy h cY;exact ⟨_,h,wt Q5 ⟨hr,hr,hr,hr,Q0⟩ rfl⟩
  cases Δ;refine θ (θ ?_);have ⟨c2,aS,h⟩:=κ h;replace aS:=eb aS;cases aS;refine θ ?_;have ⟨x3,aM,h⟩:=κ h;refine bY (cx [] [] (pR aM) nq Q0 (fun e1 bD=>?_) (fun y1 cY=>?_))
  ·have h:=cw h bD;cases h;exact ⟨_,rfl,rfl,rfl,rfl,⟨_,rfl,rfl⟩,⟨_,rfl,rfl⟩,rfl⟩
  have h:=cy h cY;exact ⟨_,h,wt Q5 ⟨hr,hr,hr,hr,Q0⟩ rfl⟩
 intro v2 h;unfold fa at h;refine sg ⟨_,rfl,_,rfl,?_⟩;refine wT [(4,.b 1001 0),(5,.b 1002 0),(6,kH v1),(8,.b 32 0)] [(1001,.box (k6 0 0 0 0)),(1002,.box (jG 0 0 0 0 0)),(32,.box (cP d.S.Γ.η d.S.Γ.Next d.S.Γ.aj d.S.bc d.S.a_ d.S.aU d.S.aW d.S.Next d.Holds d.bb e.ξ e.aL e.cm e.To e.N e.M e.bq e.aC 0 0 0 0 0)),(1000,.box (b2 d))] ⟨lr,lr,(by first|exact lr|exact Le.fnE|exact Le.abt|exact Le.abu),Q1⟩ J4 rfl ?_;refine Ok.fg (fun v3=>⟨ar [(4,.b 1001 0),(5,.b 1002 0),(8,.b 32 0)],[(1001,.box (k6 0 0 0 0)),(1002,.box (jG 0 0 0 0 0)),(32,.box (Vq v3.1 v3.2.1 v3.2.2.1 v3.2.2.2.1 v3.2.2.2.2.1 v3.2.2.2.2.2.1 v3.2.2.2.2.2.2.1 v3.2.2.2.2.2.2.2.1 (t8 v3).1 (t8 v3).2.1 e.ξ e.aL e.cm e.To e.N e.M e.bq e.aC (t8 v3).2.2.1 (t8 v3).2.2.2.1 (t8 v3).2.2.2.2.1 (t8 v3).2.2.2.2.2.1 (t5 (t8 v3)).2.1 (t5 (t8 v3)).2.2.1 (t8 (t8 v3)))),(1000,.box (b2 d))]⟩) (fun v3=>kI v3=some r) ?_ ?_
 ·refine lX h (fun hb h=>?_) (fun h=>?_)
  ·refine wT [(4,.b 1001 0),(5,.b 1002 0),(6,.c (.func 62) [] []),(8,.b 32 0)] [(1001,.box (k6 0 0 0 0)),(1002,.box (jG 0 0 0 0 0)),(32,.box (cP d.S.Γ.η d.S.Γ.Next d.S.Γ.aj d.S.bc d.S.a_ d.S.aU d.S.aW d.S.Next d.Holds d.bb e.ξ e.aL e.cm e.To e.N e.M e.bq e.aC 0 0 0 0 0)),(1000,.box (b2 d))] ⟨lr,lr,Le.fn hb (by decide),Q1⟩ J4 rfl ?_;refine Ok.cV bh tok ?_;have ⟨x4,bw,h⟩:=κ h;refine θ (θ ?_);refine bY (cx [(1000,32)] [] (ajN bw) (.cons (Ln.b rfl) .nil) ⟨⟨32,_,rfl,rfl,.box nq⟩,Q0⟩ (fun e2 dS=>?_) (fun y2 eu=>?_))
   ·have h:=cw h dS;cases h;exact ⟨_,rfl,rfl,rfl,rfl,⟨_,rfl,rfl⟩,⟨_,rfl,rfl⟩,rfl⟩
   have h:=cy h eu;exact ⟨_,h,wt Q3 ⟨hr,hr,⟨_,rfl,.box (l4 (l4 (l4 (l4 (l4 (l2 (l1 (.cons (Le.nil) (.cons (Le.nil) .nil)))))))))⟩,hr,Q0⟩ rfl⟩
  refine lX h (fun hb h=>?_) (fun h=>?_)
  ·refine wT [(4,.b 1001 0),(5,.b 1002 0),(6,.c (.func 63) [] []),(8,.b 32 0)] [(1001,.box (k6 0 0 0 0)),(1002,.box (jG 0 0 0 0 0)),(32,.box (cP d.S.Γ.η d.S.Γ.Next d.S.Γ.aj d.S.bc d.S.a_ d.S.aU d.S.aW d.S.Next d.Holds d.bb e.ξ e.aL e.cm e.To e.N e.M e.bq e.aC 0 0 0 0 0)),(1000,.box (b2 d))] ⟨lr,lr,Le.fn hb (by decide),Q1⟩ J4 rfl ?_;refine Ok.cV bh tok ?_;have ⟨x5,dv,h⟩:=κ h;refine θ (θ ?_);refine bY (cx [(1000,32)] [(999,998)] (ajO dv) (.cons (Ln.b rfl) .nil) ⟨⟨32,_,rfl,rfl,.box nq⟩,Q0⟩ (fun e3 jP=>?_) (fun y3 jD=>?_))
   ·have h:=cw h jP;cases h;exact ⟨_,rfl,rfl,rfl,rfl,⟨_,rfl,rfl⟩,⟨_,rfl,rfl⟩,rfl⟩
   have h:=cy h jD;exact ⟨_,h,(Wk.freeze (id:=998) rfl).trans (wt Q3 ⟨hr,hr,⟨_,rfl,.box (l4 (l4 (l4 (l4 (l4 (l2 (l1 (.cons (Le.nil) (.cons (Le.nil) .nil)))))))))⟩,hr,Q0⟩ rfl)⟩
  refine lX h (fun hb h=>?_) (fun h=>?_)
  ·refine wT [(4,.b 1001 0),(5,.b 1002 0),(6,.c (.func 64) [] []),(8,.b 32 0)] [(1001,.box (k6 0 0 0 0)),(1002,.box (jG 0 0 0 0 0)),(32,.box (cP d.S.Γ.η d.S.Γ.Next d.S.Γ.aj d.S.bc d.S.a_ d.S.aU d.S.aW d.S.Next d.Holds d.bb e.ξ e.aL e.cm e.To e.N e.M e.bq e.aC 0 0 0 0 0)),(1000,.box (b2 d))] ⟨lr,lr,Le.fn hb (by decide),Q1⟩ J4 rfl ?_;refine Ok.cV bh tok ?_;have ⟨x6,gY,h⟩:=κ h;refine θ (θ ?_);refine bY (cx [(1000,32)] [(999,998)] (ajL gY) (.cons (Ln.b rfl) .nil) ⟨⟨32,_,rfl,rfl,.box nq⟩,Q0⟩ (fun e4 j_=>?_) (fun y4 uV=>?_))
   ·have h:=cw h j_;cases h;exact ⟨_,rfl,rfl,rfl,rfl,⟨_,rfl,rfl⟩,⟨_,rfl,rfl⟩,rfl⟩
   have h:=cy h uV;exact ⟨_,h,(Wk.freeze (id:=998) rfl).trans (wt Q3 ⟨hr,hr,⟨_,rfl,.box (l4 (l4 (l4 (l4 (l4 (l2 (l1 (.cons (Le.nil) (.cons (Le.nil) .nil)))))))))⟩,hr,Q0⟩ rfl)⟩
  refine lX h (fun hb h=>?_) (fun h=>?_)
  ·refine wT [(4,.b 1001 0),(5,.b 1002 0),(6,.c (.func 65) [] []),(8,.b 32 0)] [(1001,.box (k6 0 0 0 0)),(1002,.box (jG 0 0 0 0 0)),(32,.box (cP d.S.Γ.η d.S.Γ.Next d.S.Γ.aj d.S.bc d.S.a_ d.S.aU d.S.aW d.S.Next d.Holds d.bb e.ξ e.aL e.cm e.To e.N e.M e.bq e.aC 0 0 0 0 0)),(1000,.box (b2 d))] ⟨lr,lr,Le.fn hb (by decide),Q1⟩ J4 rfl ?_;refine Ok.cV bh tok ?_;have ⟨x7,gF,h⟩:=κ h;refine θ (θ ?_);refine bY (cx [(1000,32)] [(999,998)] (ajV gF) (.cons (Ln.b rfl) .nil) ⟨⟨32,_,rfl,rfl,.box nq⟩,Q0⟩ (fun e5 Na=>?_) (fun y5 EJ=>?_))
   ·have h:=cw h Na;cases h;exact ⟨_,rfl,rfl,rfl,rfl,⟨_,rfl,rfl⟩,⟨_,rfl,rfl⟩,rfl⟩
   have h:=cy h EJ;exact ⟨_,h,(Wk.freeze (id:=998) rfl).trans (wt Q3 ⟨hr,hr,⟨_,rfl,.box (l4 (l4 (l4 (l4 (l4 (l2 (l1 (.cons (Le.nil) (.cons (Le.nil) .nil)))))))))⟩,hr,Q0⟩ rfl)⟩
  refine lX h (fun hb h=>?_) (fun h=>?_)
  ·refine wT [(4,.b 1001 0),(5,.b 1002 0),(6,.c (.func 66) [] []),(8,.b 32 0)] [(1001,.box (k6 0 0 0 0)),(1002,.box (jG 0 0 0 0 0)),(32,.box (cP d.S.Γ.η d.S.Γ.Next d.S.Γ.aj d.S.bc d.S.a_ d.S.aU d.S.aW d.S.Next d.Holds d.bb e.ξ e.aL e.cm e.To e.N e.M e.bq e.aC 0 0 0 0 0)),(1000,.box (b2 d))] ⟨lr,lr,Le.fn hb (by decide),Q1⟩ J4 rfl ?_;refine Ok.cV bh tok ?_;have ⟨x8,ke,h⟩:=κ h;refine θ (θ ?_);refine bY (cx [(1000,32)] [(999,998)] (ajS ke) (.cons (Ln.b rfl) .nil) ⟨⟨32,_,rfl,rfl,.box nq⟩,Q0⟩ (fun e6 he6=>?_) (fun y6 hq6=>?_))
   ·have h:=cw h he6;cases h;exact ⟨_,rfl,rfl,rfl,rfl,⟨_,rfl,rfl⟩,⟨_,rfl,rfl⟩,rfl⟩
   have h:=cy h hq6;exact ⟨_,h,(Wk.freeze (id:=998) rfl).trans (wt Q3 ⟨hr,hr,⟨_,rfl,.box (l4 (l4 (l4 (l4 (l4 (l2 (l1 (.cons (Le.nil) (.cons (Le.nil) .nil)))))))))⟩,hr,Q0⟩ rfl)⟩
  refine lX h (fun hb h=>?_) (fun h=>?_)
  ·refine wT [(4,.b 1001 0),(5,.b 1002 0),(6,.c (.func 67) [] []),(8,.b 32 0)] [(1001,.box (k6 0 0 0 0)),(1002,.box (jG 0 0 0 0 0)),(32,.box (cP d.S.Γ.η d.S.Γ.Next d.S.Γ.aj d.S.bc d.S.a_ d.S.aU d.S.aW d.S.Next d.Holds d.bb e.ξ e.aL e.cm e.To e.N e.M e.bq e.aC 0 0 0 0 0)),(1000,.box (b2 d))] ⟨lr,lr,Le.fn hb (by decide),Q1⟩ J4 rfl ?_;refine Ok.cV bh tok ?_;have ⟨x9,kV,h⟩:=κ h;refine θ (θ ?_);refine bY (cx [(1000,32)] [] (ajM kV) (.cons (Ln.b rfl) .nil) ⟨⟨32,_,rfl,rfl,.box nq⟩,Q0⟩ (fun e7 he7=>?_) (fun y7 hq7=>?_))
   ·have h:=cw h he7;cases h;exact ⟨_,rfl,rfl,rfl,rfl,⟨_,rfl,rfl⟩,⟨_,rfl,rfl⟩,rfl⟩
   have h:=cy h hq7;exact ⟨_,h,wt Q3 ⟨hr,hr,⟨_,rfl,.box (l4 (l4 (l4 (l4 (l4 (l4 (.cons (Le.nil) .nil)))))))⟩,hr,Q0⟩ rfl⟩
  refine lX h (fun hb h=>?_) (fun h=>?_)
  ·refine wT [(4,.b 1001 0),(5,.b 1002 0),(6,.c (.func 68) [] []),(8,.b 32 0)] [(1001,.box (k6 0 0 0 0)),(1002,.box (jG 0 0 0 0 0)),(32,.box (cP d.S.Γ.η d.S.Γ.Next d.S.Γ.aj d.S.bc d.S.a_ d.S.aU d.S.aW d.S.Next d.Holds d.bb e.ξ e.aL e.cm e.To e.N e.M e.bq e.aC 0 0 0 0 0)),(1000,.box (b2 d))] ⟨lr,lr,Le.fn hb (by decide),Q1⟩ J4 rfl ?_;refine Ok.cV bh tok ?_;have ⟨kv,qp,h⟩:=κ h;refine θ (θ ?_);refine bY (cx [(1000,32)] [] (ajT qp) (.cons (Ln.b rfl) .nil) ⟨⟨32,_,rfl,rfl,.box nq⟩,Q0⟩ (fun e8 he8=>?_) (fun y8 hq8=>?_))
   ·have h:=cw h he8;cases h;exact ⟨_,rfl,rfl,rfl,rfl,⟨_,rfl,rfl⟩,⟨_,rfl,rfl⟩,rfl⟩
   have h:=cy h hq8;exact ⟨_,h,wt Q3 ⟨hr,hr,⟨_,rfl,.box (l4 (l4 (l4 (l4 (l4 (l2 (l1 (.cons (Le.nil) (.cons (Le.nil) .nil)))))))))⟩,hr,Q0⟩ rfl⟩
  refine lX h (fun hb h=>?_) (fun h=>?_)
  ·refine wT [(4,.b 1001 0),(5,.b 1002 0),(6,.c (.func 69) [] []),(8,.b 32 0)] [(1001,.box (k6 0 0 0 0)),(1002,.box (jG 0 0 0 0 0)),(32,.box (cP d.S.Γ.η d.S.Γ.Next d.S.Γ.aj d.S.bc d.S.a_ d.S.aU d.S.aW d.S.Next d.Holds d.bb e.ξ e.aL e.cm e.To e.N e.M e.bq e.aC 0 0 0 0 0)),(1000,.box (b2 d))] ⟨lr,lr,Le.fn hb (by decide),Q1⟩ J4 rfl ?_;refine Ok.cV bh tok ?_;have ⟨j0,qq,h⟩:=κ h;refine θ (θ ?_);refine bY (cx [(1000,32)] [] (ajP qq) (.cons (Ln.b rfl) .nil) ⟨⟨32,_,rfl,rfl,.box nq⟩,Q0⟩ (fun e9 he9=>?_) (fun y9 hq9=>?_))
   ·have h:=cw h he9;cases h;exact ⟨_,rfl,rfl,rfl,rfl,⟨_,rfl,rfl⟩,⟨_,rfl,rfl⟩,rfl⟩
   have h:=cy h hq9;exact ⟨_,h,wt Q3 ⟨hr,hr,⟨_,rfl,.box (l4 (l4 (l4 (l4 (l4 (l2 (l1 (.cons (Le.nil) (.cons (Le.nil) .nil)))))))))⟩,hr,Q0⟩ rfl⟩
  refine lX h (fun hb h=>?_) (fun h=>?_)
  ·refine wT [(4,.b 1001 0),(5,.b 1002 0),(6,.c (.func 70) [] []),(8,.b 32 0)] [(1001,.box (k6 0 0 0 0)),(1002,.box (jG 0 0 0 0 0)),(32,.box (cP d.S.Γ.η d.S.Γ.Next d.S.Γ.aj d.S.bc d.S.a_ d.S.aU d.S.aW d.S.Next d.Holds d.bb e.ξ e.aL e.cm e.To e.N e.M e.bq e.aC 0 0 0 0 0)),(1000,.box (b2 d))] ⟨lr,lr,Le.fn hb (by decide),Q1⟩ J4 rfl ?_;refine Ok.cV bh tok ?_;have ⟨gb,qs,h⟩:=κ h;refine θ (θ ?_);refine bY (cx [(1000,32)] [] (ajE qs) (.cons (Ln.b rfl) .nil) ⟨⟨32,_,rfl,rfl,.box nq⟩,Q0⟩ (fun sI ab3=>?_) (fun uc acJ=>?_))
   ·have h:=cw h ab3;cases h;exact ⟨_,rfl,rfl,rfl,rfl,⟨_,rfl,rfl⟩,⟨_,rfl,rfl⟩,rfl⟩
   have h:=cy h acJ;exact ⟨_,h,wt Q3 ⟨hr,hr,⟨_,rfl,.box (l4 (l4 (l4 (l4 (l4 (l2 (l1 (.cons (Le.nil) (.cons (Le.nil) .nil)))))))))⟩,hr,Q0⟩ rfl⟩
  refine lX h (fun hb h=>?_) (fun h=>?_)
  ·refine wT [(4,.b 1001 0),(5,.b 1002 0),(6,.c (.func 71) [] []),(8,.b 32 0)] [(1001,.box (k6 0 0 0 0)),(1002,.box (jG 0 0 0 0 0)),(32,.box (cP d.S.Γ.η d.S.Γ.Next d.S.Γ.aj d.S.bc d.S.a_ d.S.aU d.S.aW d.S.Next d.Holds d.bb e.ξ e.aL e.cm e.To e.N e.M e.bq e.aC 0 0 0 0 0)),(1000,.box (b2 d))] ⟨lr,lr,Le.fn hb (by decide),Q1⟩ J4 rfl ?_;refine Ok.cV bh tok ?_;have ⟨pS,zm,h⟩:=κ h;refine θ (θ ?_);refine bY (cx [(1000,32)] [] (ajR zm) (.cons (Ln.b rfl) .nil) ⟨⟨32,_,rfl,rfl,.box nq⟩,Q0⟩ (fun sJ ab4=>?_) (fun QM acK=>?_))
   ·have h:=cw h ab4;cases h;exact ⟨_,rfl,rfl,rfl,rfl,⟨_,rfl,rfl⟩,⟨_,rfl,rfl⟩,rfl⟩
   have h:=cy h acK;exact ⟨_,h,wt Q3 ⟨hr,hr,⟨_,rfl,.box (l4 (l4 (l4 (l4 (l4 (l2 (l1 (.cons (Le.nil) lz))))))))⟩,hr,Q0⟩ rfl⟩
  refine lX h (fun hb h=>?_) (fun h=>?_)
  ·refine wT [(4,.b 1001 0),(5,.b 1002 0),(6,.c (.func 72) [] []),(8,.b 32 0)] [(1001,.box (k6 0 0 0 0)),(1002,.box (jG 0 0 0 0 0)),(32,.box (cP d.S.Γ.η d.S.Γ.Next d.S.Γ.aj d.S.bc d.S.a_ d.S.aU d.S.aW d.S.Next d.Holds d.bb e.ξ e.aL e.cm e.To e.N e.M e.bq e.aC 0 0 0 0 0)),(1000,.box (b2 d))] ⟨lr,lr,Le.fn hb (by decide),Q1⟩ J4 rfl ?_;refine Ok.cV bh tok ?_;have ⟨pT,wM,h⟩:=κ h;refine θ (θ ?_);refine bY (cx [(1000,32)] [(999,998)] (ajW wM) (.cons (Ln.b rfl) .nil) ⟨⟨32,_,rfl,rfl,.box nq⟩,Q0⟩ (fun ra ab5=>?_) (fun qI acL=>?_))
   ·have h:=cw h ab5;cases h;exact ⟨_,rfl,rfl,rfl,rfl,⟨_,rfl,rfl⟩,⟨_,rfl,rfl⟩,rfl⟩
   have h:=cy h acL;exact ⟨_,h,(Wk.freeze (id:=998) rfl).trans (wt Q3 ⟨hr,hr,⟨_,rfl,.box (l4 (l4 (l4 (l4 (l4 (l2 (l1 (.cons (Le.nil) (.cons (Le.nil) .nil)))))))))⟩,hr,Q0⟩ rfl)⟩
  refine lX h (fun hb h=>?_) (fun h=>?_)
  ·refine wT [(4,.b 1001 0),(5,.b 1002 0),(6,.c (.func 73) [] []),(8,.b 32 0)] [(1001,.box (k6 0 0 0 0)),(1002,.box (jG 0 0 0 0 0)),(32,.box (cP d.S.Γ.η d.S.Γ.Next d.S.Γ.aj d.S.bc d.S.a_ d.S.aU d.S.aW d.S.Next d.Holds d.bb e.ξ e.aL e.cm e.To e.N e.M e.bq e.aC 0 0 0 0 0)),(1000,.box (b2 d))] ⟨lr,lr,Le.fn hb (by decide),Q1⟩ J4 rfl ?_;refine Ok.cV bh tok ?_;have ⟨Ar,Oa,h⟩:=κ h;refine θ (θ ?_);refine bY (cx [(1000,32)] [(999,998)] (ajG Oa) (.cons (Ln.b rfl) .nil) ⟨⟨32,_,rfl,rfl,.box nq⟩,Q0⟩ (fun sK ab6=>?_) (fun qJ acM=>?_))
   ·have h:=cw h ab6;cases h;exact ⟨_,rfl,rfl,rfl,rfl,⟨_,rfl,rfl⟩,⟨_,rfl,rfl⟩,rfl⟩
   have h:=cy h acM;exact ⟨_,h,(Wk.freeze (id:=998) rfl).trans (wt Q3 ⟨hr,hr,⟨_,rfl,.box (l4 (l4 (l4 (l4 (l4 (l2 (l1 (.cons (Le.nil) (.cons (Le.nil) .nil)))))))))⟩,hr,Q0⟩ rfl)⟩
  refine lX h (fun hb h=>?_) (fun h=>?_)
  ·refine wT [(4,.b 1001 0),(5,.b 1002 0),(6,.c (.func 74) [] []),(8,.b 32 0)] [(1001,.box (k6 0 0 0 0)),(1002,.box (jG 0 0 0 0 0)),(32,.box (cP d.S.Γ.η d.S.Γ.Next d.S.Γ.aj d.S.bc d.S.a_ d.S.aU d.S.aW d.S.Next d.Holds d.bb e.ξ e.aL e.cm e.To e.N e.M e.bq e.aC 0 0 0 0 0)),(1000,.box (b2 d))] ⟨lr,lr,Le.fn hb (by decide),Q1⟩ J4 rfl ?_;refine Ok.cV bh tok ?_;have ⟨As,Ob,h⟩:=κ h;refine θ (θ ?_);refine bY (cx [(1000,32)] [(999,998)] (ajK Ob) (.cons (Ln.b rfl) .nil) ⟨⟨32,_,rfl,rfl,.box nq⟩,Q0⟩ (fun DI ab7=>?_) (fun sh acN=>?_))
   ·have h:=cw h ab7;cases h;exact ⟨_,rfl,rfl,rfl,rfl,⟨_,rfl,rfl⟩,⟨_,rfl,rfl⟩,rfl⟩
   have h:=cy h acN;exact ⟨_,h,(Wk.freeze (id:=998) rfl).trans (wt Q3 ⟨hr,hr,⟨_,rfl,.box (l4 (l4 (l4 (l4 (l4 (l2 (l1 (.cons (Le.nil) (.cons (Le.nil) .nil)))))))))⟩,hr,Q0⟩ rfl)⟩
  refine lX h (fun hb h=>?_) (fun h=>?_)
  ·refine wT [(4,.b 1001 0),(5,.b 1002 0),(6,.c (.func 75) [] []),(8,.b 32 0)] [(1001,.box (k6 0 0 0 0)),(1002,.box (jG 0 0 0 0 0)),(32,.box (cP d.S.Γ.η d.S.Γ.Next d.S.Γ.aj d.S.bc d.S.a_ d.S.aU d.S.aW d.S.Next d.Holds d.bb e.ξ e.aL e.cm e.To e.N e.M e.bq e.aC 0 0 0 0 0)),(1000,.box (b2 d))] ⟨lr,lr,Le.fn hb (by decide),Q1⟩ J4 rfl ?_;refine Ok.cV bh tok ?_;have ⟨YW,adn,h⟩:=κ h;refine θ (θ ?_);refine bY (cx [(1000,32)] [] (ajU adn) (.cons (Ln.b rfl) .nil) ⟨⟨32,_,rfl,rfl,.box nq⟩,Q0⟩ (fun DJ ab8=>?_) (fun ud acO=>?_))
   ·have h:=cw h ab8;cases h;exact ⟨_,rfl,rfl,rfl,rfl,⟨_,rfl,rfl⟩,⟨_,rfl,rfl⟩,rfl⟩
   have h:=cy h acO;exact ⟨_,h,wt Q3 ⟨hr,hr,⟨_,rfl,.box (l4 (l4 (l4 (l4 (l4 (l2 (l1 (.cons (Le.nil) (.cons (Le.nil) .nil)))))))))⟩,hr,Q0⟩ rfl⟩
  refine lX h (fun hb h=>?_) (fun h=>?_)
  ·refine wT [(4,.b 1001 0),(5,.b 1002 0),(6,.c (.func 76) [] []),(8,.b 32 0)] [(1001,.box (k6 0 0 0 0)),(1002,.box (jG 0 0 0 0 0)),(32,.box (cP d.S.Γ.η d.S.Γ.Next d.S.Γ.aj d.S.bc d.S.a_ d.S.aU d.S.aW d.S.Next d.Holds d.bb e.ξ e.aL e.cm e.To e.N e.M e.bq e.aC 0 0 0 0 0)),(1000,.box (b2 d))] ⟨lr,lr,Le.fn hb (by decide),Q1⟩ J4 rfl ?_;refine Ok.cV bh tok ?_;have ⟨YX,ado,h⟩:=κ h;refine θ (θ ?_);refine bY (cx [(1000,32)] [] (ajQ ado) (.cons (Ln.b rfl) .nil) ⟨⟨32,_,rfl,rfl,.box nq⟩,Q0⟩ (fun DK ab9=>?_) (fun Au acP=>?_))
   ·have h:=cw h ab9;cases h;exact ⟨_,rfl,rfl,rfl,rfl,⟨_,rfl,rfl⟩,⟨_,rfl,rfl⟩,rfl⟩
   have h:=cy h acP;exact ⟨_,h,wt Q3 ⟨hr,hr,hr,hr,Q0⟩ rfl⟩
  refine lX h (fun hb h=>?_) (fun h=>?_)
  ·refine wT [(4,.b 1001 0),(5,.b 1002 0),(6,.c (.func 77) [] []),(8,.b 32 0)] [(1001,.box (k6 0 0 0 0)),(1002,.box (jG 0 0 0 0 0)),(32,.box (cP d.S.Γ.η d.S.Γ.Next d.S.Γ.aj d.S.bc d.S.a_ d.S.aU d.S.aW d.S.Next d.Holds d.bb e.ξ e.aL e.cm e.To e.N e.M e.bq e.aC 0 0 0 0 0)),(1000,.box (b2 d))] ⟨lr,lr,Le.fn hb (by decide),Q1⟩ J4 rfl ?_;refine Ok.cV bh tok ?_;have ⟨YY,adp,h⟩:=κ h;refine θ (θ ?_);refine bY (cx [(1000,32)] [] (ajH adp) (.cons (Ln.b rfl) .nil) ⟨⟨32,_,rfl,rfl,.box nq⟩,Q0⟩ (fun sL ab_=>?_) (fun vw acQ=>?_))
   ·have h:=cw h ab_;cases h;exact ⟨_,rfl,rfl,rfl,rfl,⟨_,rfl,rfl⟩,⟨_,rfl,rfl⟩,rfl⟩
   have h:=cy h acQ;exact ⟨_,h,wt Q3 ⟨hr,hr,⟨_,rfl,.box (l4 (l4 (l4 (l4 (l4 (l2 (l1 (.cons (Le.nil) (.cons (Le.nil) .nil)))))))))⟩,hr,Q0⟩ rfl⟩
  refine lX h (fun hb h=>?_) (fun h=>?_)
  ·refine wT [(4,.b 1001 0),(5,.b 1002 0),(6,.c (.func 78) [] []),(8,.b 32 0)] [(1001,.box (k6 0 0 0 0)),(1002,.box (jG 0 0 0 0 0)),(32,.box (cP d.S.Γ.η d.S.Γ.Next d.S.Γ.aj d.S.bc d.S.a_ d.S.aU d.S.aW d.S.Next d.Holds d.bb e.ξ e.aL e.cm e.To e.N e.M e.bq e.aC 0 0 0 0 0)),(1000,.box (b2 d))] ⟨lr,lr,Le.fn hb (by decide),Q1⟩ J4 rfl ?_;refine rg ?_;have ⟨ub,adq,h⟩:=κ h;refine cg [(1000,32)] [] (ajF adq) (.cons (Ln.b rfl) .nil) ⟨⟨32,_,rfl,rfl,.box nq⟩,Q0⟩ ?_;exact ⟨_,h,wt Q3 ⟨hr,hr,⟨_,rfl,.box (l4 (l4 (l4 (l4 (l4 (l2 (l1 (.cons (Le.nil) (.cons (Le.nil) .nil)))))))))⟩,hr,Q0⟩ rfl⟩
  cases h
 intro v3 h;unfold kI at h;refine sq (Ok.q_ (m:=8) (late:=[4,5,6,7]) (MD:=⟨[]⟩) (CH:=⟨[]⟩) tok mixed (by kernel_rfl) ?_);refine ⟨_,rfl,_,rfl,_,rfl,_,⟨_,rfl,rfl⟩,_,rfl,_,rfl,_,rfl,_,⟨_,rfl,rfl⟩,Q0,?_⟩;refine ⟨_,rfl,⟨⟨_,rfl,rfl⟩,⟨_,rfl,rfl⟩,⟨_,rfl,rfl⟩,⟨_,rfl,_,rfl,rfl⟩,Q0⟩,_,rfl,?_⟩;refine wT [(4,.b 1001 0),(5,.b 1002 0)] [(1001,.box (k5 v3.1 v3.2.1 v3.2.2.1 v3.2.2.2.1 v3.2.2.2.2.1 v3.2.2.2.2.2.1 v3.2.2.2.2.2.2.1 v3.2.2.2.2.2.2.2.1 (t8 v3).1 (t8 v3).2.1)),(1002,.box (tn (t8 v3).2.2.1 (t8 v3).2.2.2.1 (t8 v3).2.2.2.2.1 (t8 v3).2.2.2.2.2.1 (t5 (t8 v3)).2.1 (t5 (t8 v3)).2.2.1 (t8 (t8 v3)))),(1000,.box (b2 d))] Q2 J3 rfl ?_;refine rt ?_;cases h;exact ⟨_,rfl,_,rfl,Fz.t fq⟩
def YQ {a r} (h:zI a=some r):iZ prog 84 [vi a] 5 1 (mU r):=by
 refine pv tok 27 func84 ?_;unfold zI at h;refine sg (sg (sg ⟨_,rfl,(by decide),_,rfl,(by decide),_,rfl,_,rfl,_,rfl,?_⟩));have ⟨v1,ν,h⟩:=κ h;refine Ok.bj ⟨ar [(3,.o 21),(4,.v (.int .u64 v1.1))],[(21,.own 5 1 (mU v1.2))]⟩ ?_ ?_
 ·refine bl (Ok.loop (fun (s1:Int×(List UInt8))=>⟨ar [(3,.o 21),(4,.v (.int .u64 s1.1))],[(21,.own 5 1 (mU s1.2))]⟩) (Fp) (s0:=((qH .u64 (pL .u64 (IntKind.u64.wrap a) (1)) (IntKind.u64.wrap (eV .i64 a (63)))),[])) ν ((Wk.BZ (t:=3) (id:=21) (E:=5) (K:=1) rfl rfl).trans (wt Q2 ⟨hr,Q0⟩ rfl)) ?_);intro s1 y1 ζ aQ;unfold Fp at ζ;refine sq (sg ?_);refine ct ζ (fun hb ζ=>?_) fun hb ζ=>?_
  ·refine sk (sq (bl (rg ?_)));have ⟨ax,ζ⟩:=aG ζ;refine ⟨_,X1 _,_,aac (lg s1.1) (128:UInt8),θ ⟨hZ (f:=dZ) (n:=1) (fun _=>rfl) ([(lg s1.1) ||| (128:UInt8)]),iy (f:=dZ) (l:=s1.2) (l':=[(lg s1.1) ||| (128:UInt8)]) ax,_,(fu (f:=dZ) (l₁:=s1.2) (l₂:=[(lg s1.1) ||| (128:UInt8)])).symm,?_⟩⟩;refine rg ⟨(by decide),_,rfl,?_⟩;exact ⟨_,sj ζ,wt Q2 J1 rfl⟩
  refine xt ?_;have ζ:=bz ζ aQ;cases ζ;exact wt Q2 J1 rfl
 refine sg ?_;have ⟨bt,h⟩:=aG h;refine ⟨_,X1 _,θ ⟨hZ (f:=dZ) (n:=1) (fun _=>rfl) ([lg v1.1]),iy (f:=dZ) (l:=v1.2) (l':=[lg v1.1]) bt,_,(fu (f:=dZ) (l₁:=v1.2) (l₂:=[lg v1.1])).symm,?_⟩⟩;refine rt ?_;cases h;exact (.inr ⟨_,rfl,rfl⟩)
def aiN {a r} (h:zI a=some r):Pure prog 84 [vi a] (.s (mU r)):=(YQ h).pure
def YR {a r} (h:zJ a=some r):iZ prog 36 [.s (mB a)] 5 1 (mU r):=by
 refine pv tok 18 func36 ?_;unfold zJ at h;refine sg (sg ?_);have ⟨v1,ν,h⟩:=κ h;refine Ok.bj ⟨ar [(3,.o 15)],[(15,.own 5 1 (mU v1))]⟩ ?_ ?_
 ·refine sg ⟨_,az _,fun _=>?_⟩;refine bl (Ok.loop (fun (s1:Int×(List UInt8))=>⟨ar [(3,.o 15),(6,.s (mB a)),(7,vi (a.length:Int)),(8,vi s1.1)],[(15,.own 5 1 (mU s1.2))]⟩) (wX a) (s0:=(0,[])) ν ((Wk.BZ (t:=3) (id:=15) (E:=5) (K:=1) rfl rfl).trans (wt Q4 ⟨hr,Q0⟩ rfl)) ?_);intro s1 y1 ζ aQ;unfold wX at ζ;refine sg (sq (ct ζ (fun hb ζ=>?_) fun hb ζ=>?_))
  ·refine sk (sq (bl (sg ?_)));have ⟨x1,Ξ,ζ⟩:=κ ζ;refine ⟨_,bK Ξ,_,bL Ξ,_,rfl,?_⟩;refine rg ?_;have ⟨x2,au,ζ⟩:=κ ζ;refine af.call (aiN au) lz ?_;have ⟨ax,ζ⟩:=aG ζ;refine ⟨hZ (f:=dZ) (n:=1) (fun _=>rfl) x2,iy (f:=dZ) (l:=s1.2) (l':=x2) ax,_,(fu (f:=dZ) (l₁:=s1.2) (l₂:=x2)).symm,?_⟩;refine rg ?_;have ⟨bt,ζ⟩:=aG ζ;refine (θ ⟨bt,?_⟩);exact ⟨_,sj ζ,wt Q4 J1 rfl⟩
  refine xt ?_;have ζ:=bz ζ aQ;cases ζ;exact wt Q1 J1 rfl
 refine sg (rt ?_);cases h;exact (.inr ⟨_,rfl,rfl⟩)
def aiR {a r} (h:zJ a=some r):Pure prog 36 [.s (mB a)] (.s (mU r)):=(YR h).pure
def akf {a r} (h:wW a=some r):iZ prog 37 [vs a] 5 1 (mU r):=by
 refine pv tok 8 func37 ?_;unfold wW at h;refine sg (sg ?_);have ⟨x1,Ξ,h⟩:=κ h;refine ⟨_,oS _,?_⟩;refine af.own (D:=5) (YQ Ξ) lz rfl ?_;have ⟨ax,h⟩:=aG h;refine ⟨hZ (f:=dZ) (n:=1) (fun _=>rfl) a,iy (f:=dZ) (l:=x1) (l':=a) ax,_,(fu (f:=dZ) (l₁:=x1) (l₂:=a)).symm,?_⟩;refine rt ?_;cases h;exact (.inr ⟨_,rfl,rfl⟩)
def QA {a r} (h:wW a=some r):Pure prog 37 [vs a] (.s (mU r)):=(akf h).pure
def ake {c r} (h:B4 c=some r):iZ prog 17 [.a (uw c)] 5 1 (mU r):=by
 refine pv tok 36 func17 ?_;unfold B4 at h;refine sg (sg ?_);have ⟨x1,Ξ,h⟩:=κ h;refine ⟨_,rfl,_,rfl,θ ?_⟩;refine af.own (D:=9) (YR Ξ) lz rfl ?_;refine sg ?_;have ⟨x2,au,h⟩:=κ h;refine ⟨_,rfl,?_⟩;refine af.call (QA au) lz ?_;have ⟨ax,h⟩:=aG h;refine ⟨hZ (f:=dZ) (n:=1) (fun _=>rfl) x2,iy (f:=dZ) (l:=x1) (l':=x2) ax,_,(fu (f:=dZ) (l₁:=x1) (l₂:=x2)).symm,?_⟩;refine sg ?_;have ⟨x3,aM,h⟩:=κ h;refine ⟨_,rfl,?_⟩;refine af.call (QA aM) lz ?_;have ⟨bt,h⟩:=aG h;refine ⟨hZ (f:=dZ) (n:=1) (fun _=>rfl) x3,iy (f:=dZ) (l:=x1++x2) (l':=x3) bt,_,(fu (f:=dZ) (l₁:=x1++x2) (l₂:=x3)).symm,?_⟩;refine sg ?_;have ⟨x4,bw,h⟩:=κ h;refine ⟨_,rfl,_,rfl,_,rfl,θ ?_⟩;refine af.call (aiR bw) lz ?_;have ⟨ep,h⟩:=aG h;refine ⟨hZ (f:=dZ) (n:=1) (fun _=>rfl) x4,iy (f:=dZ) (l:=(x1++x2)++x3) (l':=x4) ep,_,(fu (f:=dZ) (l₁:=(x1++x2)++x3) (l₂:=x4)).symm,?_⟩;refine sg ?_;have ⟨x5,dv,h⟩:=κ h;refine ⟨_,rfl,_,rfl,?_⟩;refine af.call (QA dv) lz ?_;have ⟨kN,h⟩:=aG h;refine ⟨hZ (f:=dZ) (n:=1) (fun _=>rfl) x5,iy (f:=dZ) (l:=((x1++x2)++x3)++x4) (l':=x5) kN,_,(fu (f:=dZ) (l₁:=((x1++x2)++x3)++x4) (l₂:=x5)).symm,?_⟩;refine rt ?_;cases h;exact (.inr ⟨_,rfl,rfl⟩)
def aiO {b r} (h:B4 b=some r):Pure prog 17 [.a (uw b)] (.s (mU r)):=(ake h).pure
def aiP {a r} (h:JH a=some r):Pure prog 82 [.s (mU a)] (.t (Vs r.1 r.2.1 r.2.2)):=by
 refine pq tok 50 func82 ?_;unfold JH at h;refine sg (sg (Ok.fg (fun v1=>⟨ar [],[]⟩) (fun v1=>O7 v1=some r) ?_ ?_))
 ·refine sg ⟨_,az _,fun _=>?_⟩;refine bl (Ok.loop (fun (s1:Int×Int)=>⟨ar [(0,.s (mU a)),(5,.v (.int .u64 s1.1)),(8,.s (mU a)),(9,vi (a.length:Int)),(10,vi s1.2)],[]⟩) (B5 a) (s0:=(0,0)) h (wt Q5 Q0 rfl) ?_);intro s1 y1 ζ aQ;unfold B5 at ζ;refine sg (sq (ct ζ (fun hb ζ=>?_) fun hb ζ=>?_))
  ·refine sk (sq (bl (sg ?_)));have ⟨x1,Ξ,ζ⟩:=κ ζ;refine ⟨_,bK Ξ,_,bL Ξ,_,rfl,?_⟩;refine sq ?_;have ⟨v2,aw,ζ⟩:=κ ζ;refine Ok.bj ⟨ar [(0,.s (mU a)),(5,.v (.int .u64 s1.1)),(6,vi s1.2),(7,vu x1),(8,.s (mU a)),(9,vi (a.length:Int)),(10,vi s1.2),(20,vb v2)],[]⟩ ?_ ?_
   ·refine rg ?_;have ⟨c1,Δ,aw⟩:=κ aw;refine Br.ite Δ (fun hb Δ=>?_) fun hb Δ=>?_
    ·cases Δ;cases aw;exact wt Q8 Q0 rfl
    cases Δ;cases aw;exact wt Q8 Q0 rfl
   refine ct ζ (fun hb ζ=>?_) fun hb ζ=>?_
   ·refine sg (rt ?_);have ζ:=bz ζ aQ;cases ζ;exact (Fz.t (.cons Fz.v (.cons Fz.nil fq)))
   refine sk (sg ?_);have ⟨ax,ζ⟩:=aG ζ;have ⟨bt,ζ⟩:=aG ζ;refine ⟨_,aab x1 (127:UInt8),_,akn (k:=.u64) (by decide) _,θ ⟨ax,bt,_,rfl,_,rfl,?_⟩⟩;refine sq (sg ?_);refine ct ζ (fun hb ζ=>?_) fun hb ζ=>?_
   ·refine xt (rg ?_);have ⟨ep,ζ⟩:=aG ζ;refine (θ ⟨ep,?_⟩);exact ⟨_,sj ζ,wt Q5 Q0 rfl⟩
   refine sk (sq ?_);have ⟨v3,dF,ζ⟩:=κ ζ;refine Ok.bj ⟨ar [(0,.s (mU a)),(5,.v (.int .u64 (ve .u64 s1.1 (pL .u64 ((x1 &&& (127:UInt8)).toNat:Int) (7*s1.2))))),(6,vi s1.2),(36,vb v3)],[]⟩ ?_ ?_
   ·refine rg ?_;have ⟨c2,aI,dF⟩:=κ dF;refine Br.ite aI (fun hb aI=>?_) fun hb aI=>?_
    ·cases aI;cases dF;exact wt Q4 Q0 rfl
    cases aI;cases dF;exact wt Q4 Q0 rfl
   refine ct ζ (fun hb ζ=>?_) fun hb ζ=>?_
   ·refine sg (rt ?_);have ζ:=bz ζ aQ;cases ζ;exact (Fz.t (.cons Fz.v (.cons Fz.nil fq)))
   refine sk (sq (dw 15 tok mixed ?_));have ⟨kN,ζ⟩:=aG ζ;have ⟨qg,ζ⟩:=aG ζ;have ⟨Ep,ζ⟩:=aG ζ;refine ⟨_,rfl,_,⟨(by decide),_,rfl,rfl⟩,_,⟨_,rfl,rfl⟩,_,rfl,_,⟨_,rfl,rfl⟩,_,⟨_,rfl,rfl⟩,_,⟨_,Θ.wrap kN,rfl⟩,_,⟨_,rfl,rfl⟩,_,rfl,_,rfl,_,θ ⟨qg,rfl⟩,_,⟨_,lf Ep.1,w_ Ep,Nat.le_refl _,w7 (f:=dZ) (K:=1) (fun _=>rfl) a,_,PM _ _ _,rfl⟩,_,rfl,_,rfl,_,rfl,Q0,?_⟩;refine rt ?_;have ζ:=bz ζ aQ;cases ζ;exact (Fz.t (.cons Fz.v (.cons Fz.s fq)))
  refine xt ?_;have ζ:=bz ζ aQ;exact ⟨_,ζ,wt Q0 Q0 rfl⟩
 intro v1 h;unfold O7 at h;refine sg (rt ?_);cases h;exact (Fz.t (.cons Fz.v (.cons Fz.nil fq)))
def C3 {self r} (h:tH self=some r):mq prog 33 [.b 1000 0] (.box [.s (mU self.iJ.b_),vi self.e_]) (fun x c=>x=(vi r.1)∧c=.box [.s (mU r.2.iJ.b_),vi r.2.e_]):=by
 refine qx (n:=31) (c:=f33.body.getD .skip) tok func33 (by kernel_rfl) rfl rfl nb ?_;unfold tH at h;refine sg (sq (sg ?_));refine ⟨_,rfl,?_⟩;refine ct h (fun hb h=>?_) fun hb h=>?_
 ·refine sg (rt ?_);cases h;exact ⟨_,_,⟨rfl,rfl⟩,rfl,rfl,Fz.v⟩
 refine sk (sg ?_);have ⟨x1,Ξ,h⟩:=κ h;refine ⟨_,rfl,?_⟩;refine af.call (aiP Ξ) lz ?_;refine sg ⟨_,rfl,_,rfl,?_⟩;refine sg (rt ?_);cases h;exact ⟨_,_,⟨rfl,rfl⟩,rfl,rfl,Fz.v⟩
def aiS {self r} (h:Fs self=some r):mq prog 38 [.b 1000 0] (.box [.s (mU self.iJ.b_),vi self.e_]) (fun x c=>x=(vi r.1)∧c=.box [.s (mU r.2.iJ.b_),vi r.2.e_]):=by
 refine qx (n:=31) (c:=f38.body.getD .skip) tok func38 (by kernel_rfl) rfl rfl nb ?_;unfold Fs at h;refine sg (sg ?_);have ⟨x1,Ξ,h⟩:=κ h;refine af.eB (id:=1000) (C3 Ξ) rfl (.box lz) rfl (.cons (Lr.b) .nil) ?_;rintro _ _ ⟨rfl,rfl⟩;refine Ok.fg (fun v1=>⟨ar [],[(1000,.box [.s (mU x1.2.iJ.b_),vi v1])]⟩) (fun v1=>JI x1 v1=some r) ?_ ?_
 ·refine bl (sg ?_);refine ⟨_,rfl,?_⟩;refine ct h (fun hb h=>?_) fun hb h=>?_
  ·refine sg (rt ?_);cases h;exact ⟨_,_,⟨rfl,rfl⟩,rfl,rfl,Fz.v⟩
  refine sg (ct h (fun hb h=>?_) fun hb h=>?_)
  ·refine rg ⟨_,rfl,?_⟩;exact ⟨_,h,wt Q0 ⟨hr,Q0⟩ rfl⟩
  refine sg ⟨_,rfl,_,az _,fun _=>?_⟩;refine ct h (fun hb h=>?_) fun hb h=>?_
  ·refine rg ⟨_,rfl,?_⟩;exact ⟨_,h,wt Q0 ⟨hr,Q0⟩ rfl⟩
  refine sg (rt ?_);cases h;exact ⟨_,_,⟨rfl,rfl⟩,rfl,rfl,Fz.v⟩
 intro v1 h;unfold JI at h;refine sg (rt ?_);cases h;exact ⟨_,_,⟨rfl,rfl⟩,rfl,rfl,Fz.v⟩
def aiU {self a r} (h:JK self a=some r):mq prog 83 [.b 1000 0,vi a] (.box [.s (mU self.iJ.b_),vi self.e_]) (fun x c=>x=(.s (mU r.1))∧c=.box [.s (mU r.2.iJ.b_),vi r.2.e_]):=by
 refine qx (n:=22) (c:=f83.body.getD .skip) tok func83 (by kernel_rfl) rfl rfl nb ?_;unfold JK at h;refine sg (sg ?_);have ⟨ax,h⟩:=aG h;refine ⟨_,rfl,_,lf ax.1,Nat.zero_le _,w_ ax,w7 (f:=dZ) (K:=1) (fun _=>rfl) self.iJ.b_,_,Km _ _ _,?_⟩;refine sg ?_;have ⟨bt,h⟩:=aG h;refine ⟨_,rfl,_,lf bt.1,w_ bt,Nat.le_refl _,w7 (f:=dZ) (K:=1) (fun _=>rfl) self.iJ.b_,_,PM _ _ _,_,rfl,?_⟩;refine sg (rt ?_);cases h;exact ⟨_,_,⟨rfl,rfl⟩,rfl,rfl,Fz.s⟩
def QB {self r} (h:zK self=some r):mq prog 34 [.b 1000 0] (.box [.s (mU self.iJ.b_),vi self.e_]) (fun x c=>x=(vs r.1)∧c=.box [.s (mU r.2.iJ.b_),vi r.2.e_]):=by
 refine qx (n:=17) (c:=f34.body.getD .skip) tok func34 (by kernel_rfl) rfl rfl nb ?_;unfold zK at h;refine sg (sg ?_);have ⟨x1,Ξ,h⟩:=κ h;refine af.eB (id:=1000) (aiS Ξ) rfl (.box lz) rfl (.cons (Lr.b) .nil) ?_;rintro _ _ ⟨rfl,rfl⟩;refine sq (sg ?_);refine ⟨_,rfl,?_⟩;refine ct h (fun hb h=>?_) fun hb h=>?_
 ·refine sg (rt ?_);cases h;exact ⟨_,_,⟨rfl,rfl⟩,rfl,rfl,Fz.v⟩
 refine sk (sg ?_);have ⟨x2,au,h⟩:=κ h;refine af.eB (id:=1000) (aiU au) rfl (.box lz) rfl (.cons (Lr.b) (.cons (Lr.dG rfl) .nil)) ?_;rintro _ _ ⟨rfl,rfl⟩;refine ⟨_,rfl,?_⟩;refine rt ?_;cases h;exact ⟨_,_,⟨rfl,rfl⟩,rfl,rfl,Fz.v⟩
def aiT {self r} (h:Ft self=some r):mq prog 35 [.b 1000 0] (.box [.s (mU self.iJ.b_),vi self.e_]) (fun x c=>x=(vi r.1)∧c=.box [.s (mU r.2.iJ.b_),vi r.2.e_]):=by
 refine qx (n:=24) (c:=f35.body.getD .skip) tok func35 (by kernel_rfl) rfl rfl nb ?_;unfold Ft at h;refine sg ?_;have ⟨v1,ν,h⟩:=κ h;refine Ok.bj ⟨ar [(0,.b 1000 0)],[(1000,.box [.s (mU self.iJ.b_),vi v1])]⟩ ?_ ?_
 ·have ⟨v2,aw,ν⟩:=κ ν;refine Ok.bj ⟨ar [(0,.b 1000 0),(16,vb v2)],[(1000,.box [.s (mU self.iJ.b_),vi self.e_])]⟩ ?_ ?_
  ·refine rg ⟨_,rfl,?_⟩;have ⟨c1,Δ,aw⟩:=κ aw;refine Br.ite Δ (fun hb Δ=>?_) fun hb Δ=>?_
   ·refine ⟨_,rfl,_,az _,fun _=>?_⟩;cases Δ;cases aw;exact wt Q2 J1 rfl
   cases Δ;cases aw;exact wt Q2 J1 rfl
  refine ct ν (fun hb ν=>?_) fun hb ν=>?_
  ·refine rg ⟨_,rfl,?_⟩;cases ν;exact wt Q1 J1 rfl
  refine sk ?_;cases ν;exact wt Q1 J1 rfl
 refine sg ⟨_,rfl,?_⟩;refine rt ?_;cases h;exact ⟨_,_,⟨rfl,rfl⟩,rfl,rfl,Fz.v⟩
def aiQ {c r} (h:Fq c=some r):Pure prog 16 [.s (mU c)] (.t [.a (uw r.1),vi r.2]):=by
 refine pq tok 43 func16 ?_;unfold Fq at h;refine sg (sg (sg (sg ?_)));have ⟨x1,Ξ,h⟩:=κ h;refine af.eB (id:=10) (C3 Ξ) rfl (.box lz) rfl (.cons (Lr.b) .nil) ?_;rintro _ _ ⟨rfl,rfl⟩;have ⟨x2,au,h⟩:=κ h;refine af.eB (id:=10) (C3 au) rfl (.box lz) rfl (.cons (Lr.b) .nil) ?_;rintro _ _ ⟨rfl,rfl⟩;refine ⟨_,rfl,_,rfl,?_⟩;refine sg ?_;have ⟨x3,aM,h⟩:=κ h;refine af.eB (id:=10) (QB aM) rfl (.box lz) rfl (.cons (Lr.b) .nil) ?_;rintro _ _ ⟨rfl,rfl⟩;have ⟨x4,bw,h⟩:=κ h;refine af.eB (id:=10) (QB bw) rfl (.box lz) rfl (.cons (Lr.b) .nil) ?_;rintro _ _ ⟨rfl,rfl⟩;refine ⟨_,rfl,_,rfl,?_⟩;refine wT [(2,.b 2 0),(4,.b 10 0),(5,.b 5 0)] [(2,.box (Vt 0 0 ([]) ([]) 0 0 0)),(10,.box [.s (mU x4.2.iJ.b_),vi x4.2.e_]),(5,.box (Vt x1.1 x2.1 x3.1 x4.1 0 0 0))] Q3 J3 rfl ?_;refine sg ?_;have ⟨x5,dv,h⟩:=κ h;refine af.eB (id:=10) (C3 dv) rfl (.box lz) rfl (.cons (Lr.b) .nil) ?_;rintro _ _ ⟨rfl,rfl⟩;have ⟨x6,gY,h⟩:=κ h;refine af.eB (id:=10) (C3 gY) rfl (.box lz) rfl (.cons (Lr.b) .nil) ?_;rintro _ _ ⟨rfl,rfl⟩;have ⟨x7,gF,h⟩:=κ h;refine af.eB (id:=10) (C3 gF) rfl (.box lz) rfl (.cons (Lr.b) .nil) ?_;rintro _ _ ⟨rfl,rfl⟩;refine ⟨_,rfl,_,rfl,_,rfl,?_⟩;refine sg ?_;have ⟨x8,ke,h⟩:=κ h;refine af.eB (id:=10) (QB ke) rfl (.box lz) rfl (.cons (Lr.b) .nil) ?_;rintro _ _ ⟨rfl,rfl⟩;have ⟨ax,h⟩:=aG h;refine ⟨ah4 ax,_,rfl,?_⟩;refine sq (sg ?_);have ⟨x9,kV,h⟩:=κ h;refine af.eB (id:=10) (aiT kV) rfl (.box lz) rfl (.cons (Lr.b) .nil) ?_
 rintro _ _ ⟨rfl,rfl⟩;refine sg (ct h (fun hb h=>?_) fun hb h=>?_)
 ·refine sg ⟨_,rfl,?_⟩;refine rt ?_;cases h;exact ⟨_,rfl,Fz.t (.cons (Fz.a (.cons Fz.v (.cons Fz.v (.cons Fz.v (.cons Fz.v (.cons Fz.v (.cons Fz.v (.cons Fz.v (.cons Fz.nil .nil))))))))) fq)⟩
 refine sk (sg ?_);refine ⟨_,rfl,_,rfl,?_⟩;refine rt ?_;cases h;exact ⟨_,rfl,Fz.t fq⟩
def ajr [oY] {r} (h:Gn=some r):Pure prog 8 [] (vb r):=by
 refine pq tok 85 func8 ?_;unfold Gn at h;refine sg (sg ?_);have ⟨x1,Ξ,h⟩:=κ h;refine af.call (Qw Ξ) lz ?_;have ⟨x2,au,h⟩:=κ h;refine af.call (An au) (l1 (.cons (Le.a (l4 (l2 (l1 (.cons (Le.nil) .nil))))) .nil)) ?_;refine ⟨_,rfl,_,rfl,?_⟩;refine sg ?_;have ⟨x3,aM,h⟩:=κ h;refine ⟨_,rfl,?_⟩;refine af.call (An aM) (l1 (.cons (Le.a (l4 (l2 (l1 (.cons (Le.nil) .nil))))) .nil)) ?_;refine ⟨_,rfl,_,rfl,?_⟩;refine sg ?_;have ⟨x4,bw,h⟩:=κ h;refine ⟨_,rfl,?_⟩;refine af.call (An bw) (l1 (.cons (Le.a (l4 (l2 (l1 (.cons (Le.nil) .nil))))) .nil)) ?_;refine ⟨_,rfl,_,rfl,?_⟩;refine wT [(1,.b 1 0),(2,.b 2 0),(3,.b 3 0),(4,.b 4 0)] [(1,.box (b2 x4.1)),(2,.box (np x2.2)),(3,.box (np x3.2)),(4,.box (np x4.2))] Q4 J4 rfl ?_;refine sg ?_;have ⟨x5,dv,h⟩:=κ h;refine ⟨_,rfl,?_⟩;refine af.call (An dv) (l1 (.cons (Le.a (l4 (l2 (l1 (.cons (Le.nil) .nil))))) .nil)) ?_;refine ⟨_,rfl,_,rfl,?_⟩;refine sg ?_;have ⟨x6,gY,h⟩:=κ h;refine ⟨_,rfl,?_⟩;refine af.call (An gY) (l1 (.cons (Le.a (l4 (l2 (l1 (.cons (Le.nil) .nil))))) .nil)) ?_;refine ⟨_,rfl,_,rfl,?_⟩;refine wT [(2,.b 2 0),(3,.b 3 0),(4,.b 4 0),(6,.b 6 0),(8,.b 8 0)] [(2,.box (np x2.2)),(3,.box (np x3.2)),(4,.box (np x4.2)),(6,.box (np x5.2)),(8,.box (np x6.2))] Q5 ⟨hr,J4⟩ rfl ?_;refine sg ?_;have ⟨x7,gF,h⟩:=κ h;refine af.call (aiO gF) (.cons (Le.a (l4 (l2 (l1 (.cons (Le.nil) .nil))))) .nil) ?_;have ⟨x8,ke,h⟩:=κ h;refine af.call (aiQ ke) lz ?_;refine ⟨_,rfl,?_⟩;refine sq (sg ?_);refine ⟨_,rfl,_,az _,fun _=>?_⟩
 refine ct h (fun hb h=>?_) fun hb h=>?_
 ·refine sg (rt ?_);cases h;exact Fz.v
 refine sk ?_;have ⟨v1,ν,h⟩:=κ h;refine Ok.bj ⟨ar [(0,vb v1)],[]⟩ ?_ ?_
 ·refine rg ⟨_,rfl,?_⟩;have ⟨c1,Δ,ν⟩:=κ ν;refine Br.ite Δ (fun hb Δ=>?_) fun hb Δ=>?_
  ·refine ⟨_,rfl,?_⟩;cases Δ;have ⟨c2,aI,ν⟩:=κ ν;refine Br.ite aI (fun hb aI=>?_) fun hb aI=>?_
   ·refine ⟨_,rfl,?_⟩;cases aI;have ⟨c3,aS,ν⟩:=κ ν;refine Br.ite aS (fun hb aS=>?_) fun hb aS=>?_
    ·have ⟨x9,kV,aS⟩:=κ aS;refine ⟨_,rfl,_,bK kV,_,bL kV,_,rfl,_,tY _ _,?_⟩;cases aS;have ⟨c4,di,ν⟩:=κ ν;refine Br.ite di (fun hb di=>?_) fun hb di=>?_
     ·refine ⟨_,rfl,?_⟩;cases di;have ⟨c5,dI,ν⟩:=κ ν;refine Br.ite dI (fun hb dI=>?_) fun hb dI=>?_
      ·refine ⟨_,rfl,_,tY _ _,?_⟩;cases dI;have ⟨c6,eF,ν⟩:=κ ν;refine Br.ite eF (fun hb eF=>?_) fun hb eF=>?_
       ·cases eF;cases ν;exact wt Q1 Q0 rfl
       cases eF;cases ν;exact wt Q1 Q0 rfl
      cases dI;have ⟨c6,fy,ν⟩:=κ ν;replace fy:=eb fy;cases fy;cases ν;exact wt Q1 Q0 rfl
     cases di;have ⟨c5,fL,ν⟩:=κ ν;replace fL:=eb fL;cases fL;have ⟨c6,gV,ν⟩:=κ ν;replace gV:=eb gV;cases gV;cases ν;exact wt Q1 Q0 rfl
    cases aS;have ⟨c4,fx,ν⟩:=κ ν;replace fx:=eb fx;cases fx;have ⟨c5,iB,ν⟩:=κ ν;replace iB:=eb iB;cases iB;have ⟨c6,iC,ν⟩:=κ ν;replace iC:=eb iC;cases iC;cases ν;exact wt Q1 Q0 rfl
   cases aI;have ⟨c3,jR,ν⟩:=κ ν;replace jR:=eb jR;cases jR;have ⟨c4,kO,ν⟩:=κ ν;replace kO:=eb kO;cases kO;have ⟨c5,jS,ν⟩:=κ ν;replace jS:=eb jS;cases jS;have ⟨c6,nF,ν⟩:=κ ν;replace nF:=eb nF;cases nF;cases ν;exact wt Q1 Q0 rfl
  cases Δ;have ⟨c2,rv,ν⟩:=κ ν;replace rv:=eb rv;cases rv;have ⟨c3,nG,ν⟩:=κ ν;replace nG:=eb nG;cases nG;have ⟨c4,uK,ν⟩:=κ ν;replace uK:=eb uK;cases uK;have ⟨c5,yI,ν⟩:=κ ν;replace yI:=eb yI;cases yI;have ⟨c6,uL,ν⟩:=κ ν;replace uL:=eb uL;cases uL;cases ν;exact wt Q1 Q0 rfl
 refine rt ?_;cases h;exact Fz.v
def aiK {c r} (h:E3 c=some r):Pure prog 21 [.a (uw c)] (vb r):=by
 refine pq tok 19 func21 ?_;unfold E3 at h;refine sg ?_;have ⟨v1,ν,h⟩:=κ h;refine Ok.bj ⟨ar [(2,vb v1)],[]⟩ ?_ ?_
 ·refine rg ⟨_,rfl,_,az _,fun _=>?_⟩;have ⟨c1,Δ,ν⟩:=κ ν;refine Br.ei Δ (fun hb Δ=>?_) fun hb Δ=>?_
  ·cases Δ;have ⟨c2,aI,ν⟩:=κ ν;replace aI:=eh aI;cases aI;cases ν;exact wt Q1 Q0 rfl
  refine ⟨_,rfl,_,oS _,?_⟩;cases Δ;have ⟨c2,aS,ν⟩:=κ ν;refine Br.ei aS (fun hb aS=>?_) fun hb aS=>?_
  ·cases aS;cases ν;exact wt Q1 Q0 rfl
  refine ⟨_,rfl,_,oS _,?_⟩;cases aS;cases ν;exact wt Q1 Q0 rfl
 refine rt ?_;cases h;exact Fz.v
end Go.Proofs
