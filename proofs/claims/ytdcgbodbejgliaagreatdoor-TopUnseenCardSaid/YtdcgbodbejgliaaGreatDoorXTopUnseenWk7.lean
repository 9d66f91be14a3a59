/- The walks of this seat beside the plain programs, part 7. No condition. -/
import Derived.Test.YtdcgbodbejgliaaGreatDoorXTopUnseenHb
import Derived.Test.YtdcgbodbejgliaaGreatDoorXTopUnseenWk0
import Derived.Test.YtdcgbodbejgliaaGreatDoorXTopUnseenWk1
import Derived.Test.YtdcgbodbejgliaaGreatDoorXTopUnseenWk2
import Derived.Test.YtdcgbodbejgliaaGreatDoorXTopUnseenWk3
import Derived.Test.YtdcgbodbejgliaaGreatDoorXTopUnseenWk4
import Derived.Test.YtdcgbodbejgliaaGreatDoorXTopUnseenWk5
import Derived.Test.YtdcgbodbejgliaaGreatDoorXTopUnseenWk6
open List renaming length_map → ay, map_append → fo
open Or renaming inl → θ, inr → bX
namespace Go.Proofs
set_option linter.all false
open Go Go.Cat Tryz
variable [M:bK]
set_option maxRecDepth 100000
set_option maxHeartbeats 4000000
def xb [oV] {d e r} (h:nB d e=some r):Pure prog 12 [.a (b2 d),.a (vC e)] (.t [.a (b2 r.1),.a (np r.2)]):=by
 refine aav (n:=44) (q:=[(2,1000),(3,3),(4,1001),(5,1002)]) (L:=[(2,.b 2 0),(3,.b 3 0),(4,.b 4 0),(5,.b 5 0)]) (H:=[(2,.box (b2 d)),(3,.box (vC e)),(4,.box (k6 0 0 0 0)),(5,.box (jA 0 0 0 0 0))]) (cf:=(b2 d)) (kf:=10) (ka:=7) (ans:=fun m=>(sV ((⟨m,0,0,0,0,[],[]⟩:dL).xz) ((⟨m,0,0,0,0,[],[]⟩:dL).ι) ((⟨m,0,0,0,0,[],[]⟩:dL).τ) ((⟨m,0,0,0,0,[],[]⟩:dL).N) ((⟨m,0,0,0,0,[],[]⟩:dL).M) ((⟨m,0,0,0,0,[],[]⟩:dL).mq) ((⟨m,0,0,0,0,[],[]⟩:dL).aC))) tok func12 (by kernel_rfl) rfl rfl nb ⟨rfl,rfl,rfl⟩ ⟨rfl,rfl,rfl⟩ (by decide) (aab _ _ _ _ _ _ _ _ _ _) rfl rfl rfl rfl rfl rfl rfl rfl rfl rfl rfl rfl rfl rfl rfl (fun _=>rfl) rfl (fun _=>rfl) ?_ ?_
 ·refine rg ?_;exact ⟨rfl,wt Q4 ⟨⟨_,rfl,.refl _⟩,⟨_,rfl,.refl _⟩,⟨_,rfl,.refl _⟩,⟨_,rfl,.refl _⟩,Q0⟩ rfl⟩
 unfold nB at h;have ⟨v1,ν,h⟩:=κ h;refine Ok.bh ⟨ar [(2,.b 1000 0),(3,.b 3 0),(4,.b 1001 0),(5,.b 1002 0),(6,kG v1),(7,vb ((bn e.τ Aa).isSome))],[(1000,.box (b2 d)),(3,.box (vC e)),(1001,.box (k6 0 0 0 0)),(1002,.box (jA 0 0 0 0 0))]⟩ ?_ ?_
 ·have ⟨x1,Ξ,ν⟩:=κ ν;have ⟨x2,au,ν⟩:=κ ν;refine abd x2 (fun hA=>?_) fun nA hA=>?_;all_goals refine Ok.aax [[0,1,2,3,4,5,6,7,8],[0,1,2,3,4,5,7,6,8],[0,1,2,3,4,6,5,7,8],[1,0,2,3,4,5,6,7,8],[1,0,2,3,4,5,7,6,8],[1,0,2,3,4,6,5,7,8],[1,2,0,3,4,5,6,7,8],[1,2,0,3,4,5,7,6,8],[1,2,0,3,4,6,5,7,8]] tok mixed (by kernel_rfl) ⟨?_,?_,?_,?_,?_,?_,?_,?_,?_,Q0⟩
  iterate 6 (refine cg [] [(1,999)] (Gp Ξ) .nil Q0 ?_;refine ⟨_,rfl,_,((pF gI (z:=(0:Int)) au).trans (congrArg (fun a=>[a]) hA)),_,sX gI e.τ Aa,?_⟩;cases ν;exact wt ⟨lr,lr,lr,lr,Le.of_eq hA.symm,Q1⟩ J4 rfl)
  iterate 3 (refine ⟨_,rfl,?_⟩;refine cg [] [(1,999)] (Gp Ξ) .nil Q0 ?_;refine ⟨_,((pF gI (z:=(0:Int)) au).trans (congrArg (fun a=>[a]) hA)),_,sX gI e.τ Aa,?_⟩;cases ν;exact wt ⟨lr,lr,lr,lr,Le.of_eq hA.symm,Q1⟩ J4 rfl)
  iterate 6 (refine cg [] [(1,999)] (Gp Ξ) .nil Q0 ?_;refine ⟨_,rfl,_,((pF gI (z:=(0:Int)) au).trans (congrArg (fun a=>[a]) hA)),_,sX gI e.τ Aa,?_⟩;cases ν;exact wt ⟨lr,lr,lr,lr,Le.of_eq hA.symm,Q1⟩ J4 rfl)
  iterate 2 (refine ⟨_,rfl,?_⟩;refine cg [] [(1,999)] (Gp Ξ) .nil Q0 ?_;refine ⟨_,((pF gI (z:=(0:Int)) au).trans (congrArg (fun a=>[a]) hA)),_,sX gI e.τ Aa,?_⟩;cases ν;exact wt ⟨lr,lr,lr,lr,Le.of_eq hA.symm,Q1⟩ J4 rfl)
  refine ⟨_,rfl,?_⟩;refine cg [] [(1,999)] (Gp Ξ) .nil Q0 ?_;refine ⟨_,((pF gI (z:=(0:Int)) au).trans (congrArg (fun a=>[a]) hA)),_,sX gI e.τ Aa,?_⟩;cases ν;exact wt ⟨lr,lr,lr,lr,Le.of_eq hA.symm,Q1⟩ J4 rfl
 refine Ok.eW (fun v2=>⟨ar [(2,.b 1000 0),(3,.b 3 0),(4,.b 1001 0),(5,.b 1002 0),(6,kG v1)],[(1000,.box (b2 d)),(3,.box (vC e)),(1001,.box (k6 0 0 0 0)),(1002,.box (jA 0 0 0 0 0))]⟩) (fun v2=>eY v1 d e v2=some r) ?_ ?_
 ·refine Ok.cW bg tok (θ (θ ?_));have ⟨c1,Δ,h⟩:=κ h;refine Br.ite Δ (fun hb Δ=>?_) fun hb Δ=>?_
  ·refine θ (θ (⟨_,rfl,θ ?_⟩));cases Δ;refine θ (θ ?_);have ⟨c2,aI,h⟩:=κ h;refine Br.ite aI (fun hb aI=>?_) fun hb aI=>?_
   ·refine θ (θ (⟨_,rfl,θ ?_⟩));cases aI;refine θ ?_;have ⟨x3,aL,h⟩:=κ h;refine bX (cx [] [] (pN aL) nq Q0 (fun e1 bE=>?_) (fun y1 cZ=>?_))
    ·have h:=cw h bE;cases h;exact ⟨_,rfl,rfl,rfl,rfl,⟨_,rfl,rfl⟩,⟨_,rfl,rfl⟩,rfl⟩
    have h:=cy h cZ;exact ⟨_,h,wt Q5 ⟨⟨_,rfl,.refl _⟩,⟨_,rfl,.refl _⟩,⟨_,rfl,.refl _⟩,⟨_,rfl,.refl _⟩,Q0⟩ rfl⟩
   cases aI;refine θ ?_;have ⟨x3,aL,h⟩:=κ h;refine bX (cx [] [] (pN aL) nq Q0 (fun e1 bE=>?_) (fun y1 cZ=>?_))
   ·have h:=cw h bE;cases h;exact ⟨_,rfl,rfl,rfl,rfl,⟨_,rfl,rfl⟩,⟨_,rfl,rfl⟩,rfl⟩
   have h:=cy h cZ;exact ⟨_,h,wt Q5 ⟨⟨_,rfl,.refl _⟩,⟨_,rfl,.refl _⟩,⟨_,rfl,.refl _⟩,⟨_,rfl,.refl _⟩,Q0⟩ rfl⟩
  cases Δ;refine θ (θ ?_);have ⟨c2,aX,h⟩:=κ h;replace aX:=ed aX;cases aX;refine θ ?_;have ⟨x3,aL,h⟩:=κ h;refine bX (cx [] [] (pN aL) nq Q0 (fun e1 bE=>?_) (fun y1 cZ=>?_))
  ·have h:=cw h bE;cases h;exact ⟨_,rfl,rfl,rfl,rfl,⟨_,rfl,rfl⟩,⟨_,rfl,rfl⟩,rfl⟩
  have h:=cy h cZ;exact ⟨_,h,wt Q5 ⟨⟨_,rfl,.refl _⟩,⟨_,rfl,.refl _⟩,⟨_,rfl,.refl _⟩,⟨_,rfl,.refl _⟩,Q0⟩ rfl⟩
 intro v2 h;unfold eY at h;refine sg ⟨_,rfl,_,rfl,?_⟩;refine wT [(4,.b 1001 0),(5,.b 1002 0),(6,kG v1),(8,.b 32 0)] [(1001,.box (k6 0 0 0 0)),(1002,.box (jA 0 0 0 0 0)),(32,.box (cP d.S.Γ.η d.S.Γ.Next d.S.Γ.aj d.S.aT d.S.aQ d.S.aS d.S.aW d.S.Next d.Holds d.bc e.τ e.aV e.cA e.To e.N e.M e.cd e.aC 0 0 0 0 0)),(1000,.box (b2 d))] ⟨lr,lr,(by first | exact lr | exact Le.fnE | exact Le.abf | exact Le.abg),Q1⟩ J4 rfl ?_;refine Ok.eW (fun v3=>⟨ar [(4,.b 1001 0),(5,.b 1002 0),(8,.b 32 0)],[(1001,.box (k6 0 0 0 0)),(1002,.box (jA 0 0 0 0 0)),(32,.box (Vg v3.1 v3.2.1 v3.2.2.1 v3.2.2.2.1 v3.2.2.2.2.1 v3.2.2.2.2.2.1 v3.2.2.2.2.2.2.1 v3.2.2.2.2.2.2.2.1 v3.2.2.2.2.2.2.2.2.1 v3.2.2.2.2.2.2.2.2.2.1 e.τ e.aV e.cA e.To e.N e.M e.cd e.aC v3.2.2.2.2.2.2.2.2.2.2.1 v3.2.2.2.2.2.2.2.2.2.2.2.1 v3.2.2.2.2.2.2.2.2.2.2.2.2.1 v3.2.2.2.2.2.2.2.2.2.2.2.2.2.1 v3.2.2.2.2.2.2.2.2.2.2.2.2.2.2.1 v3.2.2.2.2.2.2.2.2.2.2.2.2.2.2.2.1 v3.2.2.2.2.2.2.2.2.2.2.2.2.2.2.2.2)),(1000,.box (b2 d))]⟩) (fun v3=>kH v3=some r) ?_ ?_
 ·refine lX h (fun hb h=>?_) (fun h=>?_)
  ·refine wT [(4,.b 1001 0),(5,.b 1002 0),(6,.c (.func 62) [] []),(8,.b 32 0)] [(1001,.box (k6 0 0 0 0)),(1002,.box (jA 0 0 0 0 0)),(32,.box (cP d.S.Γ.η d.S.Γ.Next d.S.Γ.aj d.S.aT d.S.aQ d.S.aS d.S.aW d.S.Next d.Holds d.bc e.τ e.aV e.cA e.To e.N e.M e.cd e.aC 0 0 0 0 0)),(1000,.box (b2 d))] ⟨lr,lr,Le.fn hb (by decide),Q1⟩ J4 rfl ?_;refine Ok.cW bg tok ?_;have ⟨x4,bu,h⟩:=κ h;refine θ (θ ?_);refine bX (cx [(1000,32)] [] (ajE bu) (.cons (Ln.b rfl) .nil) ⟨⟨32,_,rfl,rfl,.box nq⟩,Q0⟩ (fun e2 dR=>?_) (fun y2 et=>?_))
   ·have h:=cw h dR;cases h;exact ⟨_,rfl,rfl,rfl,rfl,⟨_,rfl,rfl⟩,⟨_,rfl,rfl⟩,rfl⟩
   have h:=cy h et;exact ⟨_,h,wt Q3 ⟨⟨_,rfl,.refl _⟩,⟨_,rfl,.refl _⟩,⟨_,rfl,.box (l4 (l4 (l4 (l4 (l4 (l2 (l1 (.cons (Le.nil) (.cons (Le.nil) .nil)))))))))⟩,⟨_,rfl,.refl _⟩,Q0⟩ rfl⟩
  refine lX h (fun hb h=>?_) (fun h=>?_)
  ·refine wT [(4,.b 1001 0),(5,.b 1002 0),(6,.c (.func 63) [] []),(8,.b 32 0)] [(1001,.box (k6 0 0 0 0)),(1002,.box (jA 0 0 0 0 0)),(32,.box (cP d.S.Γ.η d.S.Γ.Next d.S.Γ.aj d.S.aT d.S.aQ d.S.aS d.S.aW d.S.Next d.Holds d.bc e.τ e.aV e.cA e.To e.N e.M e.cd e.aC 0 0 0 0 0)),(1000,.box (b2 d))] ⟨lr,lr,Le.fn hb (by decide),Q1⟩ J4 rfl ?_;refine Ok.cW bg tok ?_;have ⟨x5,dA,h⟩:=κ h;refine θ (θ ?_);refine bX (cx [(1000,32)] [(999,998)] (ajF dA) (.cons (Ln.b rfl) .nil) ⟨⟨32,_,rfl,rfl,.box nq⟩,Q0⟩ (fun e3 jL=>?_) (fun y3 jx=>?_))
   ·have h:=cw h jL;cases h;exact ⟨_,rfl,rfl,rfl,rfl,⟨_,rfl,rfl⟩,⟨_,rfl,rfl⟩,rfl⟩
   have h:=cy h jx;exact ⟨_,h,(Wk.freeze (id:=998) rfl).trans (wt Q3 ⟨⟨_,rfl,.refl _⟩,⟨_,rfl,.refl _⟩,⟨_,rfl,.box (l4 (l4 (l4 (l4 (l4 (l2 (l1 (.cons (Le.nil) (.cons (Le.nil) .nil)))))))))⟩,⟨_,rfl,.refl _⟩,Q0⟩ rfl)⟩
  refine lX h (fun hb h=>?_) (fun h=>?_)
  ·refine wT [(4,.b 1001 0),(5,.b 1002 0),(6,.c (.func 64) [] []),(8,.b 32 0)] [(1001,.box (k6 0 0 0 0)),(1002,.box (jA 0 0 0 0 0)),(32,.box (cP d.S.Γ.η d.S.Γ.Next d.S.Γ.aj d.S.aT d.S.aQ d.S.aS d.S.aW d.S.Next d.Holds d.bc e.τ e.aV e.cA e.To e.N e.M e.cd e.aC 0 0 0 0 0)),(1000,.box (b2 d))] ⟨lr,lr,Le.fn hb (by decide),Q1⟩ J4 rfl ?_;refine Ok.cW bg tok ?_;have ⟨x6,gW,h⟩:=κ h;refine θ (θ ?_);refine bX (cx [(1000,32)] [(999,998)] (ajC gW) (.cons (Ln.b rfl) .nil) ⟨⟨32,_,rfl,rfl,.box nq⟩,Q0⟩ (fun e4 j8=>?_) (fun y4 uH=>?_))
   ·have h:=cw h j8;cases h;exact ⟨_,rfl,rfl,rfl,rfl,⟨_,rfl,rfl⟩,⟨_,rfl,rfl⟩,rfl⟩
   have h:=cy h uH;exact ⟨_,h,(Wk.freeze (id:=998) rfl).trans (wt Q3 ⟨⟨_,rfl,.refl _⟩,⟨_,rfl,.refl _⟩,⟨_,rfl,.box (l4 (l4 (l4 (l4 (l4 (l2 (l1 (.cons (Le.nil) (.cons (Le.nil) .nil)))))))))⟩,⟨_,rfl,.refl _⟩,Q0⟩ rfl)⟩
  refine lX h (fun hb h=>?_) (fun h=>?_)
  ·refine wT [(4,.b 1001 0),(5,.b 1002 0),(6,.c (.func 65) [] []),(8,.b 32 0)] [(1001,.box (k6 0 0 0 0)),(1002,.box (jA 0 0 0 0 0)),(32,.box (cP d.S.Γ.η d.S.Γ.Next d.S.Γ.aj d.S.aT d.S.aQ d.S.aS d.S.aW d.S.Next d.Holds d.bc e.τ e.aV e.cA e.To e.N e.M e.cd e.aC 0 0 0 0 0)),(1000,.box (b2 d))] ⟨lr,lr,Le.fn hb (by decide),Q1⟩ J4 rfl ?_;refine Ok.cW bg tok ?_;have ⟨x7,gn,h⟩:=κ h;refine θ (θ ?_);refine bX (cx [(1000,32)] [(999,998)] (ajM gn) (.cons (Ln.b rfl) .nil) ⟨⟨32,_,rfl,rfl,.box nq⟩,Q0⟩ (fun e5 MV=>?_) (fun y5 Ez=>?_))
   ·have h:=cw h MV;cases h;exact ⟨_,rfl,rfl,rfl,rfl,⟨_,rfl,rfl⟩,⟨_,rfl,rfl⟩,rfl⟩
   have h:=cy h Ez;exact ⟨_,h,(Wk.freeze (id:=998) rfl).trans (wt Q3 ⟨⟨_,rfl,.refl _⟩,⟨_,rfl,.refl _⟩,⟨_,rfl,.box (l4 (l4 (l4 (l4 (l4 (l2 (l1 (.cons (Le.nil) (.cons (Le.nil) .nil)))))))))⟩,⟨_,rfl,.refl _⟩,Q0⟩ rfl)⟩
  refine lX h (fun hb h=>?_) (fun h=>?_)
  ·refine wT [(4,.b 1001 0),(5,.b 1002 0),(6,.c (.func 66) [] []),(8,.b 32 0)] [(1001,.box (k6 0 0 0 0)),(1002,.box (jA 0 0 0 0 0)),(32,.box (cP d.S.Γ.η d.S.Γ.Next d.S.Γ.aj d.S.aT d.S.aQ d.S.aS d.S.aW d.S.Next d.Holds d.bc e.τ e.aV e.cA e.To e.N e.M e.cd e.aC 0 0 0 0 0)),(1000,.box (b2 d))] ⟨lr,lr,Le.fn hb (by decide),Q1⟩ J4 rfl ?_;refine Ok.cW bg tok ?_;have ⟨x8,jS,h⟩:=κ h;refine θ (θ ?_);refine bX (cx [(1000,32)] [(999,998)] (ajJ jS) (.cons (Ln.b rfl) .nil) ⟨⟨32,_,rfl,rfl,.box nq⟩,Q0⟩ (fun e6 he6=>?_) (fun y6 hq6=>?_))
   ·have h:=cw h he6;cases h;exact ⟨_,rfl,rfl,rfl,rfl,⟨_,rfl,rfl⟩,⟨_,rfl,rfl⟩,rfl⟩
   have h:=cy h hq6;exact ⟨_,h,(Wk.freeze (id:=998) rfl).trans (wt Q3 ⟨⟨_,rfl,.refl _⟩,⟨_,rfl,.refl _⟩,⟨_,rfl,.box (l4 (l4 (l4 (l4 (l4 (l2 (l1 (.cons (Le.nil) (.cons (Le.nil) .nil)))))))))⟩,⟨_,rfl,.refl _⟩,Q0⟩ rfl)⟩
  refine lX h (fun hb h=>?_) (fun h=>?_)
  ·refine wT [(4,.b 1001 0),(5,.b 1002 0),(6,.c (.func 67) [] []),(8,.b 32 0)] [(1001,.box (k6 0 0 0 0)),(1002,.box (jA 0 0 0 0 0)),(32,.box (cP d.S.Γ.η d.S.Γ.Next d.S.Γ.aj d.S.aT d.S.aQ d.S.aS d.S.aW d.S.Next d.Holds d.bc e.τ e.aV e.cA e.To e.N e.M e.cd e.aC 0 0 0 0 0)),(1000,.box (b2 d))] ⟨lr,lr,Le.fn hb (by decide),Q1⟩ J4 rfl ?_;refine Ok.cW bg tok ?_;have ⟨x9,j_,h⟩:=κ h;refine θ (θ ?_);refine bX (cx [(1000,32)] [] (ajD j_) (.cons (Ln.b rfl) .nil) ⟨⟨32,_,rfl,rfl,.box nq⟩,Q0⟩ (fun e7 he7=>?_) (fun y7 hq7=>?_))
   ·have h:=cw h he7;cases h;exact ⟨_,rfl,rfl,rfl,rfl,⟨_,rfl,rfl⟩,⟨_,rfl,rfl⟩,rfl⟩
   have h:=cy h hq7;exact ⟨_,h,wt Q3 ⟨⟨_,rfl,.refl _⟩,⟨_,rfl,.refl _⟩,⟨_,rfl,.box (l4 (l4 (l4 (l4 (l4 (l4 (.cons (Le.nil) .nil)))))))⟩,⟨_,rfl,.refl _⟩,Q0⟩ rfl⟩
  refine lX h (fun hb h=>?_) (fun h=>?_)
  ·refine wT [(4,.b 1001 0),(5,.b 1002 0),(6,.c (.func 68) [] []),(8,.b 32 0)] [(1001,.box (k6 0 0 0 0)),(1002,.box (jA 0 0 0 0 0)),(32,.box (cP d.S.Γ.η d.S.Γ.Next d.S.Γ.aj d.S.aT d.S.aQ d.S.aS d.S.aW d.S.Next d.Holds d.bc e.τ e.aV e.cA e.To e.N e.M e.cd e.aC 0 0 0 0 0)),(1000,.box (b2 d))] ⟨lr,lr,Le.fn hb (by decide),Q1⟩ J4 rfl ?_;refine Ok.cW bg tok ?_;have ⟨gq,qg,h⟩:=κ h;refine θ (θ ?_);refine bX (cx [(1000,32)] [] (ajK qg) (.cons (Ln.b rfl) .nil) ⟨⟨32,_,rfl,rfl,.box nq⟩,Q0⟩ (fun e8 he8=>?_) (fun y8 hq8=>?_))
   ·have h:=cw h he8;cases h;exact ⟨_,rfl,rfl,rfl,rfl,⟨_,rfl,rfl⟩,⟨_,rfl,rfl⟩,rfl⟩
   have h:=cy h hq8;exact ⟨_,h,wt Q3 ⟨⟨_,rfl,.refl _⟩,⟨_,rfl,.refl _⟩,⟨_,rfl,.box (l4 (l4 (l4 (l4 (l4 (l2 (l1 (.cons (Le.nil) (.cons (Le.nil) .nil)))))))))⟩,⟨_,rfl,.refl _⟩,Q0⟩ rfl⟩
  refine lX h (fun hb h=>?_) (fun h=>?_)
  ·refine wT [(4,.b 1001 0),(5,.b 1002 0),(6,.c (.func 69) [] []),(8,.b 32 0)] [(1001,.box (k6 0 0 0 0)),(1002,.box (jA 0 0 0 0 0)),(32,.box (cP d.S.Γ.η d.S.Γ.Next d.S.Γ.aj d.S.aT d.S.aQ d.S.aS d.S.aW d.S.Next d.Holds d.bc e.τ e.aV e.cA e.To e.N e.M e.cd e.aC 0 0 0 0 0)),(1000,.box (b2 d))] ⟨lr,lr,Le.fn hb (by decide),Q1⟩ J4 rfl ?_;refine Ok.cW bg tok ?_;have ⟨iW,nN,h⟩:=κ h;refine θ (θ ?_);refine bX (cx [(1000,32)] [] (ajG nN) (.cons (Ln.b rfl) .nil) ⟨⟨32,_,rfl,rfl,.box nq⟩,Q0⟩ (fun e9 he9=>?_) (fun y9 hq9=>?_))
   ·have h:=cw h he9;cases h;exact ⟨_,rfl,rfl,rfl,rfl,⟨_,rfl,rfl⟩,⟨_,rfl,rfl⟩,rfl⟩
   have h:=cy h hq9;exact ⟨_,h,wt Q3 ⟨⟨_,rfl,.refl _⟩,⟨_,rfl,.refl _⟩,⟨_,rfl,.box (l4 (l4 (l4 (l4 (l4 (l2 (l1 (.cons (Le.nil) (.cons (Le.nil) .nil)))))))))⟩,⟨_,rfl,.refl _⟩,Q0⟩ rfl⟩
  refine lX h (fun hb h=>?_) (fun h=>?_)
  ·refine wT [(4,.b 1001 0),(5,.b 1002 0),(6,.c (.func 70) [] []),(8,.b 32 0)] [(1001,.box (k6 0 0 0 0)),(1002,.box (jA 0 0 0 0 0)),(32,.box (cP d.S.Γ.η d.S.Γ.Next d.S.Γ.aj d.S.aT d.S.aQ d.S.aS d.S.aW d.S.Next d.Holds d.bc e.τ e.aV e.cA e.To e.N e.M e.cd e.aC 0 0 0 0 0)),(1000,.box (b2 d))] ⟨lr,lr,Le.fn hb (by decide),Q1⟩ J4 rfl ?_;refine Ok.cW bg tok ?_;have ⟨ei,oK,h⟩:=κ h;refine θ (θ ?_);refine bX (cx [(1000,32)] [] (ajv oK) (.cons (Ln.b rfl) .nil) ⟨⟨32,_,rfl,rfl,.box nq⟩,Q0⟩ (fun sl abO=>?_) (fun tK acu=>?_))
   ·have h:=cw h abO;cases h;exact ⟨_,rfl,rfl,rfl,rfl,⟨_,rfl,rfl⟩,⟨_,rfl,rfl⟩,rfl⟩
   have h:=cy h acu;exact ⟨_,h,wt Q3 ⟨⟨_,rfl,.refl _⟩,⟨_,rfl,.refl _⟩,⟨_,rfl,.box (l4 (l4 (l4 (l4 (l4 (l2 (l1 (.cons (Le.nil) (.cons (Le.nil) .nil)))))))))⟩,⟨_,rfl,.refl _⟩,Q0⟩ rfl⟩
  refine lX h (fun hb h=>?_) (fun h=>?_)
  ·refine wT [(4,.b 1001 0),(5,.b 1002 0),(6,.c (.func 71) [] []),(8,.b 32 0)] [(1001,.box (k6 0 0 0 0)),(1002,.box (jA 0 0 0 0 0)),(32,.box (cP d.S.Γ.η d.S.Γ.Next d.S.Γ.aj d.S.aT d.S.aQ d.S.aS d.S.aW d.S.Next d.Holds d.bc e.τ e.aV e.cA e.To e.N e.M e.cd e.aC 0 0 0 0 0)),(1000,.box (b2 d))] ⟨lr,lr,Le.fn hb (by decide),Q1⟩ J4 rfl ?_;refine Ok.cW bg tok ?_;have ⟨na,uI,h⟩:=κ h;refine θ (θ ?_);refine bX (cx [(1000,32)] [] (ajI uI) (.cons (Ln.b rfl) .nil) ⟨⟨32,_,rfl,rfl,.box nq⟩,Q0⟩ (fun sm abP=>?_) (fun QB acv=>?_))
   ·have h:=cw h abP;cases h;exact ⟨_,rfl,rfl,rfl,rfl,⟨_,rfl,rfl⟩,⟨_,rfl,rfl⟩,rfl⟩
   have h:=cy h acv;exact ⟨_,h,wt Q3 ⟨⟨_,rfl,.refl _⟩,⟨_,rfl,.refl _⟩,⟨_,rfl,.box (l4 (l4 (l4 (l4 (l4 (l2 (l1 (.cons (Le.nil) lz))))))))⟩,⟨_,rfl,.refl _⟩,Q0⟩ rfl⟩
  refine lX h (fun hb h=>?_) (fun h=>?_)
  ·refine wT [(4,.b 1001 0),(5,.b 1002 0),(6,.c (.func 72) [] []),(8,.b 32 0)] [(1001,.box (k6 0 0 0 0)),(1002,.box (jA 0 0 0 0 0)),(32,.box (cP d.S.Γ.η d.S.Γ.Next d.S.Γ.aj d.S.aT d.S.aQ d.S.aS d.S.aW d.S.Next d.Holds d.bc e.τ e.aV e.cA e.To e.N e.M e.cd e.aC 0 0 0 0 0)),(1000,.box (b2 d))] ⟨lr,lr,Le.fn hb (by decide),Q1⟩ J4 rfl ?_;refine Ok.cW bg tok ?_;have ⟨nf,sR,h⟩:=κ h;refine θ (θ ?_);refine bX (cx [(1000,32)] [(999,998)] (ajN sR) (.cons (Ln.b rfl) .nil) ⟨⟨32,_,rfl,rfl,.box nq⟩,Q0⟩ (fun qS abQ=>?_) (fun qw acw=>?_))
   ·have h:=cw h abQ;cases h;exact ⟨_,rfl,rfl,rfl,rfl,⟨_,rfl,rfl⟩,⟨_,rfl,rfl⟩,rfl⟩
   have h:=cy h acw;exact ⟨_,h,(Wk.freeze (id:=998) rfl).trans (wt Q3 ⟨⟨_,rfl,.refl _⟩,⟨_,rfl,.refl _⟩,⟨_,rfl,.box (l4 (l4 (l4 (l4 (l4 (l2 (l1 (.cons (Le.nil) (.cons (Le.nil) .nil)))))))))⟩,⟨_,rfl,.refl _⟩,Q0⟩ rfl)⟩
  refine lX h (fun hb h=>?_) (fun h=>?_)
  ·refine wT [(4,.b 1001 0),(5,.b 1002 0),(6,.c (.func 73) [] []),(8,.b 32 0)] [(1001,.box (k6 0 0 0 0)),(1002,.box (jA 0 0 0 0 0)),(32,.box (cP d.S.Γ.η d.S.Γ.Next d.S.Γ.aj d.S.aT d.S.aQ d.S.aS d.S.aW d.S.Next d.Holds d.bc e.τ e.aV e.cA e.To e.N e.M e.cd e.aC 0 0 0 0 0)),(1000,.box (b2 d))] ⟨lr,lr,Le.fn hb (by decide),Q1⟩ J4 rfl ?_;refine Ok.cW bg tok ?_;have ⟨Ae,NT,h⟩:=κ h;refine θ (θ ?_);refine bX (cx [(1000,32)] [(999,998)] (ajx NT) (.cons (Ln.b rfl) .nil) ⟨⟨32,_,rfl,rfl,.box nq⟩,Q0⟩ (fun sr abR=>?_) (fun qx acx=>?_))
   ·have h:=cw h abR;cases h;exact ⟨_,rfl,rfl,rfl,rfl,⟨_,rfl,rfl⟩,⟨_,rfl,rfl⟩,rfl⟩
   have h:=cy h acx;exact ⟨_,h,(Wk.freeze (id:=998) rfl).trans (wt Q3 ⟨⟨_,rfl,.refl _⟩,⟨_,rfl,.refl _⟩,⟨_,rfl,.box (l4 (l4 (l4 (l4 (l4 (l2 (l1 (.cons (Le.nil) (.cons (Le.nil) .nil)))))))))⟩,⟨_,rfl,.refl _⟩,Q0⟩ rfl)⟩
  refine lX h (fun hb h=>?_) (fun h=>?_)
  ·refine wT [(4,.b 1001 0),(5,.b 1002 0),(6,.c (.func 74) [] []),(8,.b 32 0)] [(1001,.box (k6 0 0 0 0)),(1002,.box (jA 0 0 0 0 0)),(32,.box (cP d.S.Γ.η d.S.Γ.Next d.S.Γ.aj d.S.aT d.S.aQ d.S.aS d.S.aW d.S.Next d.Holds d.bc e.τ e.aV e.cA e.To e.N e.M e.cd e.aC 0 0 0 0 0)),(1000,.box (b2 d))] ⟨lr,lr,Le.fn hb (by decide),Q1⟩ J4 rfl ?_;refine Ok.cW bg tok ?_;have ⟨Af,NU,h⟩:=κ h;refine θ (θ ?_);refine bX (cx [(1000,32)] [(999,998)] (ajB NU) (.cons (Ln.b rfl) .nil) ⟨⟨32,_,rfl,rfl,.box nq⟩,Q0⟩ (fun Dx abS=>?_) (fun rQ acy=>?_))
   ·have h:=cw h abS;cases h;exact ⟨_,rfl,rfl,rfl,rfl,⟨_,rfl,rfl⟩,⟨_,rfl,rfl⟩,rfl⟩
   have h:=cy h acy;exact ⟨_,h,(Wk.freeze (id:=998) rfl).trans (wt Q3 ⟨⟨_,rfl,.refl _⟩,⟨_,rfl,.refl _⟩,⟨_,rfl,.box (l4 (l4 (l4 (l4 (l4 (l2 (l1 (.cons (Le.nil) (.cons (Le.nil) .nil)))))))))⟩,⟨_,rfl,.refl _⟩,Q0⟩ rfl)⟩
  refine lX h (fun hb h=>?_) (fun h=>?_)
  ·refine wT [(4,.b 1001 0),(5,.b 1002 0),(6,.c (.func 75) [] []),(8,.b 32 0)] [(1001,.box (k6 0 0 0 0)),(1002,.box (jA 0 0 0 0 0)),(32,.box (cP d.S.Γ.η d.S.Γ.Next d.S.Γ.aj d.S.aT d.S.aQ d.S.aS d.S.aW d.S.Next d.Holds d.bc e.τ e.aV e.cA e.To e.N e.M e.cd e.aC 0 0 0 0 0)),(1000,.box (b2 d))] ⟨lr,lr,Le.fn hb (by decide),Q1⟩ J4 rfl ?_;refine Ok.cW bg tok ?_;have ⟨YL,ac8,h⟩:=κ h;refine θ (θ ?_);refine bX (cx [(1000,32)] [] (ajL ac8) (.cons (Ln.b rfl) .nil) ⟨⟨32,_,rfl,rfl,.box nq⟩,Q0⟩ (fun Dy abT=>?_) (fun tL acz=>?_))
   ·have h:=cw h abT;cases h;exact ⟨_,rfl,rfl,rfl,rfl,⟨_,rfl,rfl⟩,⟨_,rfl,rfl⟩,rfl⟩
   have h:=cy h acz;exact ⟨_,h,wt Q3 ⟨⟨_,rfl,.refl _⟩,⟨_,rfl,.refl _⟩,⟨_,rfl,.box (l4 (l4 (l4 (l4 (l4 (l2 (l1 (.cons (Le.nil) (.cons (Le.nil) .nil)))))))))⟩,⟨_,rfl,.refl _⟩,Q0⟩ rfl⟩
  refine lX h (fun hb h=>?_) (fun h=>?_)
  ·refine wT [(4,.b 1001 0),(5,.b 1002 0),(6,.c (.func 76) [] []),(8,.b 32 0)] [(1001,.box (k6 0 0 0 0)),(1002,.box (jA 0 0 0 0 0)),(32,.box (cP d.S.Γ.η d.S.Γ.Next d.S.Γ.aj d.S.aT d.S.aQ d.S.aS d.S.aW d.S.Next d.Holds d.bc e.τ e.aV e.cA e.To e.N e.M e.cd e.aC 0 0 0 0 0)),(1000,.box (b2 d))] ⟨lr,lr,Le.fn hb (by decide),Q1⟩ J4 rfl ?_;refine Ok.cW bg tok ?_;have ⟨YM,ac9,h⟩:=κ h;refine θ (θ ?_);refine bX (cx [(1000,32)] [] (ajH ac9) (.cons (Ln.b rfl) .nil) ⟨⟨32,_,rfl,rfl,.box nq⟩,Q0⟩ (fun Dz abU=>?_) (fun Ag acA=>?_))
   ·have h:=cw h abU;cases h;exact ⟨_,rfl,rfl,rfl,rfl,⟨_,rfl,rfl⟩,⟨_,rfl,rfl⟩,rfl⟩
   have h:=cy h acA;exact ⟨_,h,wt Q3 ⟨⟨_,rfl,.refl _⟩,⟨_,rfl,.refl _⟩,⟨_,rfl,.refl _⟩,⟨_,rfl,.refl _⟩,Q0⟩ rfl⟩
  refine lX h (fun hb h=>?_) (fun h=>?_)
  ·refine wT [(4,.b 1001 0),(5,.b 1002 0),(6,.c (.func 77) [] []),(8,.b 32 0)] [(1001,.box (k6 0 0 0 0)),(1002,.box (jA 0 0 0 0 0)),(32,.box (cP d.S.Γ.η d.S.Γ.Next d.S.Γ.aj d.S.aT d.S.aQ d.S.aS d.S.aW d.S.Next d.Holds d.bc e.τ e.aV e.cA e.To e.N e.M e.cd e.aC 0 0 0 0 0)),(1000,.box (b2 d))] ⟨lr,lr,Le.fn hb (by decide),Q1⟩ J4 rfl ?_;refine Ok.cW bg tok ?_;have ⟨YN,ac_,h⟩:=κ h;refine θ (θ ?_);refine bX (cx [(1000,32)] [] (ajy ac_) (.cons (Ln.b rfl) .nil) ⟨⟨32,_,rfl,rfl,.box nq⟩,Q0⟩ (fun ss abV=>?_) (fun uY acB=>?_))
   ·have h:=cw h abV;cases h;exact ⟨_,rfl,rfl,rfl,rfl,⟨_,rfl,rfl⟩,⟨_,rfl,rfl⟩,rfl⟩
   have h:=cy h acB;exact ⟨_,h,wt Q3 ⟨⟨_,rfl,.refl _⟩,⟨_,rfl,.refl _⟩,⟨_,rfl,.box (l4 (l4 (l4 (l4 (l4 (l2 (l1 (.cons (Le.nil) (.cons (Le.nil) .nil)))))))))⟩,⟨_,rfl,.refl _⟩,Q0⟩ rfl⟩
  refine lX h (fun hb h=>?_) (fun h=>?_)
  ·refine wT [(4,.b 1001 0),(5,.b 1002 0),(6,.c (.func 78) [] []),(8,.b 32 0)] [(1001,.box (k6 0 0 0 0)),(1002,.box (jA 0 0 0 0 0)),(32,.box (cP d.S.Γ.η d.S.Γ.Next d.S.Γ.aj d.S.aT d.S.aQ d.S.aS d.S.aW d.S.Next d.Holds d.bc e.τ e.aV e.cA e.To e.N e.M e.cd e.aC 0 0 0 0 0)),(1000,.box (b2 d))] ⟨lr,lr,Le.fn hb (by decide),Q1⟩ J4 rfl ?_;refine rg ?_;have ⟨tJ,ac',h⟩:=κ h;refine cg [(1000,32)] [] (ajw ac') (.cons (Ln.b rfl) .nil) ⟨⟨32,_,rfl,rfl,.box nq⟩,Q0⟩ ?_;exact ⟨_,h,wt Q3 ⟨⟨_,rfl,.refl _⟩,⟨_,rfl,.refl _⟩,⟨_,rfl,.box (l4 (l4 (l4 (l4 (l4 (l2 (l1 (.cons (Le.nil) (.cons (Le.nil) .nil)))))))))⟩,⟨_,rfl,.refl _⟩,Q0⟩ rfl⟩
  cases h
 intro v3 h;unfold kH at h;refine sq (Ok.p4 (m:=8) (late:=[4,5,6,7]) (MD:=⟨[]⟩) (CH:=⟨[]⟩) tok mixed (by kernel_rfl) ?_);refine ⟨_,rfl,_,rfl,_,rfl,_,⟨_,rfl,rfl⟩,_,rfl,_,rfl,_,rfl,_,⟨_,rfl,rfl⟩,Q0,?_⟩;refine ⟨_,rfl,⟨⟨_,rfl,rfl⟩,⟨_,rfl,rfl⟩,⟨_,rfl,rfl⟩,⟨_,rfl,_,rfl,rfl⟩,Q0⟩,_,rfl,?_⟩;refine wT [(4,.b 1001 0),(5,.b 1002 0)] [(1001,.box (k5 v3.1 v3.2.1 v3.2.2.1 v3.2.2.2.1 v3.2.2.2.2.1 v3.2.2.2.2.2.1 v3.2.2.2.2.2.2.1 v3.2.2.2.2.2.2.2.1 v3.2.2.2.2.2.2.2.2.1 v3.2.2.2.2.2.2.2.2.2.1)),(1002,.box (sV v3.2.2.2.2.2.2.2.2.2.2.1 v3.2.2.2.2.2.2.2.2.2.2.2.1 v3.2.2.2.2.2.2.2.2.2.2.2.2.1 v3.2.2.2.2.2.2.2.2.2.2.2.2.2.1 v3.2.2.2.2.2.2.2.2.2.2.2.2.2.2.1 v3.2.2.2.2.2.2.2.2.2.2.2.2.2.2.2.1 v3.2.2.2.2.2.2.2.2.2.2.2.2.2.2.2.2)),(1000,.box (b2 d))] Q2 J3 rfl ?_;refine rt ?_;cases h;exact ⟨_,rfl,_,rfl,Fz.t fq⟩
def YE {a r} (h:zz a=some r):i_ prog 84 [vi a] 5 1 (mU r):=by
 refine pv tok 27 func84 ?_;unfold zz at h;refine sg (sg (sg ⟨_,rfl,(by decide),_,rfl,(by decide),_,rfl,_,rfl,_,rfl,?_⟩));have ⟨v1,ν,h⟩:=κ h;refine Ok.bh ⟨ar [(3,.o 21),(4,.v (.int .u64 v1.1))],[(21,.own 5 1 (mU v1.2))]⟩ ?_ ?_
 ·refine bl (Ok.loop (fun (s1:Int×(List UInt8))=>⟨ar [(3,.o 21),(4,.v (.int .u64 s1.1))],[(21,.own 5 1 (mU s1.2))]⟩) (Fg) (s0:=((qv .u64 (pH .u64 (IntKind.u64.wrap a) (1)) (IntKind.u64.wrap (eT .i64 a (63)))),[])) ν ((Wk.BP (t:=3) (id:=21) (E:=5) (K:=1) rfl rfl).trans (wt Q2 ⟨⟨_,rfl,.refl _⟩,Q0⟩ rfl)) ?_);intro s1 y1 ζ aP;unfold Fg at ζ;refine sq (sg ?_);refine ct ζ (fun hb ζ=>?_) fun hb ζ=>?_
  ·refine sk (sq (bl (rg ?_)));have ⟨aw,ζ⟩:=aG ζ;refine ⟨_,XO _,_,Z1 (k_ s1.1) (128:UInt8),θ ⟨g_ (f:=dZ) (n:=1) (fun _=>rfl) ([(k_ s1.1) ||| (128:UInt8)]),ix (f:=dZ) (l:=s1.2) (l':=[(k_ s1.1) ||| (128:UInt8)]) aw,_,(fo (f:=dZ) (l₁:=s1.2) (l₂:=[(k_ s1.1) ||| (128:UInt8)])).symm,?_⟩⟩;refine rg ⟨(by decide),_,rfl,?_⟩;exact ⟨_,sj ζ,wt Q2 J1 rfl⟩
  refine xt ?_;have ζ:=bx ζ aP;cases ζ;exact wt Q2 J1 rfl
 refine sg ?_;have ⟨br,h⟩:=aG h;refine ⟨_,XO _,θ ⟨g_ (f:=dZ) (n:=1) (fun _=>rfl) ([k_ v1.1]),ix (f:=dZ) (l:=v1.2) (l':=[k_ v1.1]) br,_,(fo (f:=dZ) (l₁:=v1.2) (l₂:=[k_ v1.1])).symm,?_⟩⟩;refine rt ?_;cases h;exact (.inr ⟨_,rfl,rfl⟩)
def aiE {a r} (h:zz a=some r):Pure prog 84 [vi a] (.s (mU r)):=(YE h).pure
def YF {a r} (h:zA a=some r):i_ prog 36 [.s (mB a)] 5 1 (mU r):=by
 refine pv tok 18 func36 ?_;unfold zA at h;refine sg (sg ?_);have ⟨v1,ν,h⟩:=κ h;refine Ok.bh ⟨ar [(3,.o 15)],[(15,.own 5 1 (mU v1))]⟩ ?_ ?_
 ·refine sg ⟨_,ay _,fun _=>?_⟩;refine bl (Ok.loop (fun (s1:Int×(List UInt8))=>⟨ar [(3,.o 15),(6,.s (mB a)),(7,vi (a.length:Int)),(8,vi s1.1)],[(15,.own 5 1 (mU s1.2))]⟩) (wM a) (s0:=(0,[])) ν ((Wk.BP (t:=3) (id:=15) (E:=5) (K:=1) rfl rfl).trans (wt Q4 ⟨⟨_,rfl,.refl _⟩,Q0⟩ rfl)) ?_);intro s1 y1 ζ aP;unfold wM at ζ;refine sg (sq (ct ζ (fun hb ζ=>?_) fun hb ζ=>?_))
  ·refine sk (sq (bl (sg ?_)));have ⟨x1,Ξ,ζ⟩:=κ ζ;refine ⟨_,bz Ξ,_,bC Ξ,_,rfl,?_⟩;refine rg ?_;have ⟨x2,au,ζ⟩:=κ ζ;refine af.call (aiE au) lz ?_;have ⟨aw,ζ⟩:=aG ζ;refine ⟨g_ (f:=dZ) (n:=1) (fun _=>rfl) x2,ix (f:=dZ) (l:=s1.2) (l':=x2) aw,_,(fo (f:=dZ) (l₁:=s1.2) (l₂:=x2)).symm,?_⟩;refine rg ?_;have ⟨br,ζ⟩:=aG ζ;refine (θ ⟨br,?_⟩);exact ⟨_,sj ζ,wt Q4 J1 rfl⟩
  refine xt ?_;have ζ:=bx ζ aP;cases ζ;exact wt Q1 J1 rfl
 refine sg (rt ?_);cases h;exact (.inr ⟨_,rfl,rfl⟩)
def aiI {a r} (h:zA a=some r):Pure prog 36 [.s (mB a)] (.s (mU r)):=(YF h).pure
def aj8 {a r} (h:wL a=some r):i_ prog 37 [vs a] 5 1 (mU r):=by
 refine pv tok 8 func37 ?_;unfold wL at h;refine sg (sg ?_);have ⟨x1,Ξ,h⟩:=κ h;refine ⟨_,nZ _,?_⟩;refine af.own (D:=5) (YE Ξ) lz rfl ?_;have ⟨aw,h⟩:=aG h;refine ⟨g_ (f:=dZ) (n:=1) (fun _=>rfl) a,ix (f:=dZ) (l:=x1) (l':=a) aw,_,(fo (f:=dZ) (l₁:=x1) (l₂:=a)).symm,?_⟩;refine rt ?_;cases h;exact (.inr ⟨_,rfl,rfl⟩)
def Qp {a r} (h:wL a=some r):Pure prog 37 [vs a] (.s (mU r)):=(aj8 h).pure
def aj7 {c r} (h:BU c=some r):i_ prog 17 [.a (vC c)] 5 1 (mU r):=by
 refine pv tok 36 func17 ?_;unfold BU at h;refine sg (sg ?_);have ⟨x1,Ξ,h⟩:=κ h;refine ⟨_,rfl,_,rfl,θ ?_⟩;refine af.own (D:=9) (YF Ξ) lz rfl ?_;refine sg ?_;have ⟨x2,au,h⟩:=κ h;refine ⟨_,rfl,?_⟩;refine af.call (Qp au) lz ?_;have ⟨aw,h⟩:=aG h;refine ⟨g_ (f:=dZ) (n:=1) (fun _=>rfl) x2,ix (f:=dZ) (l:=x1) (l':=x2) aw,_,(fo (f:=dZ) (l₁:=x1) (l₂:=x2)).symm,?_⟩;refine sg ?_;have ⟨x3,aL,h⟩:=κ h;refine ⟨_,rfl,?_⟩;refine af.call (Qp aL) lz ?_;have ⟨br,h⟩:=aG h;refine ⟨g_ (f:=dZ) (n:=1) (fun _=>rfl) x3,ix (f:=dZ) (l:=x1++x2) (l':=x3) br,_,(fo (f:=dZ) (l₁:=x1++x2) (l₂:=x3)).symm,?_⟩;refine sg ?_;have ⟨x4,bu,h⟩:=κ h;refine ⟨_,rfl,_,rfl,_,rfl,θ ?_⟩;refine af.call (aiI bu) lz ?_;have ⟨eo,h⟩:=aG h;refine ⟨g_ (f:=dZ) (n:=1) (fun _=>rfl) x4,ix (f:=dZ) (l:=(x1++x2)++x3) (l':=x4) eo,_,(fo (f:=dZ) (l₁:=(x1++x2)++x3) (l₂:=x4)).symm,?_⟩;refine sg ?_;have ⟨x5,dA,h⟩:=κ h;refine ⟨_,rfl,_,rfl,?_⟩;refine af.call (Qp dA) lz ?_;have ⟨kL,h⟩:=aG h;refine ⟨g_ (f:=dZ) (n:=1) (fun _=>rfl) x5,ix (f:=dZ) (l:=((x1++x2)++x3)++x4) (l':=x5) kL,_,(fo (f:=dZ) (l₁:=((x1++x2)++x3)++x4) (l₂:=x5)).symm,?_⟩;refine rt ?_;cases h;exact (.inr ⟨_,rfl,rfl⟩)
def aiF {b r} (h:BU b=some r):Pure prog 17 [.a (vC b)] (.s (mU r)):=(aj7 h).pure
def aiG {a r} (h:Jp a=some r):Pure prog 82 [.s (mU a)] (.t (Vh r.1 r.2.1 r.2.2)):=by
 refine pq tok 50 func82 ?_;unfold Jp at h;refine sg (sg (Ok.eW (fun v1=>⟨ar [],[]⟩) (fun v1=>ON v1=some r) ?_ ?_))
 ·refine sg ⟨_,ay _,fun _=>?_⟩;refine bl (Ok.loop (fun (s1:Int×Int)=>⟨ar [(0,.s (mU a)),(5,.v (.int .u64 s1.1)),(8,.s (mU a)),(9,vi (a.length:Int)),(10,vi s1.2)],[]⟩) (BV a) (s0:=(0,0)) h (wt Q5 Q0 rfl) ?_);intro s1 y1 ζ aP;unfold BV at ζ;refine sg (sq (ct ζ (fun hb ζ=>?_) fun hb ζ=>?_))
  ·refine sk (sq (bl (sg ?_)));have ⟨x1,Ξ,ζ⟩:=κ ζ;refine ⟨_,bz Ξ,_,bC Ξ,_,rfl,?_⟩;refine sq ?_;have ⟨v2,ax,ζ⟩:=κ ζ;refine Ok.bh ⟨ar [(0,.s (mU a)),(5,.v (.int .u64 s1.1)),(6,vi s1.2),(7,vu x1),(8,.s (mU a)),(9,vi (a.length:Int)),(10,vi s1.2),(20,vb v2)],[]⟩ ?_ ?_
   ·refine rg ?_;have ⟨c1,Δ,ax⟩:=κ ax;refine Br.ite Δ (fun hb Δ=>?_) fun hb Δ=>?_
    ·cases Δ;cases ax;exact wt Q8 Q0 rfl
    cases Δ;cases ax;exact wt Q8 Q0 rfl
   refine ct ζ (fun hb ζ=>?_) fun hb ζ=>?_
   ·refine sg (rt ?_);have ζ:=bx ζ aP;cases ζ;exact (Fz.t (.cons Fz.v (.cons Fz.nil fq)))
   refine sk (sg ?_);have ⟨aw,ζ⟩:=aG ζ;have ⟨br,ζ⟩:=aG ζ;refine ⟨_,Z0 x1 (127:UInt8),_,YJ (k:=.u64) (by decide) _,θ ⟨aw,br,_,rfl,_,rfl,?_⟩⟩;refine sq (sg ?_);refine ct ζ (fun hb ζ=>?_) fun hb ζ=>?_
   ·refine xt (rg ?_);have ⟨eo,ζ⟩:=aG ζ;refine (θ ⟨eo,?_⟩);exact ⟨_,sj ζ,wt Q5 Q0 rfl⟩
   refine sk (sq ?_);have ⟨v3,eb,ζ⟩:=κ ζ;refine Ok.bh ⟨ar [(0,.s (mU a)),(5,.v (.int .u64 (uO .u64 s1.1 (pH .u64 ((x1 &&& (127:UInt8)).toNat:Int) (7*s1.2))))),(6,vi s1.2),(36,vb v3)],[]⟩ ?_ ?_
   ·refine rg ?_;have ⟨c2,aI,eb⟩:=κ eb;refine Br.ite aI (fun hb aI=>?_) fun hb aI=>?_
    ·cases aI;cases eb;exact wt Q4 Q0 rfl
    cases aI;cases eb;exact wt Q4 Q0 rfl
   refine ct ζ (fun hb ζ=>?_) fun hb ζ=>?_
   ·refine sg (rt ?_);have ζ:=bx ζ aP;cases ζ;exact (Fz.t (.cons Fz.v (.cons Fz.nil fq)))
   refine sk (sq (dw 15 tok mixed ?_));have ⟨kL,ζ⟩:=aG ζ;have ⟨p_,ζ⟩:=aG ζ;have ⟨Ef,ζ⟩:=aG ζ;refine ⟨_,rfl,_,⟨(by decide),_,rfl,rfl⟩,_,⟨_,rfl,rfl⟩,_,rfl,_,⟨_,rfl,rfl⟩,_,⟨_,rfl,rfl⟩,_,⟨_,Θ.wrap kL,rfl⟩,_,⟨_,rfl,rfl⟩,_,rfl,_,rfl,_,θ ⟨p_,rfl⟩,_,⟨_,kZ Ef.1,wV Ef,Nat.le_refl _,wQ (f:=dZ) (K:=1) (fun _=>rfl) a,_,Pr _ _ _,rfl⟩,_,rfl,_,rfl,_,rfl,Q0,?_⟩;refine rt ?_;have ζ:=bx ζ aP;cases ζ;exact (Fz.t (.cons Fz.v (.cons Fz.s fq)))
  refine xt ?_;have ζ:=bx ζ aP;exact ⟨_,ζ,wt Q0 Q0 rfl⟩
 intro v1 h;unfold ON at h;refine sg (rt ?_);cases h;exact (Fz.t (.cons Fz.v (.cons Fz.nil fq)))
def CQ {self r} (h:s_ self=some r):mr prog 33 [.b 1000 0] (.box [.s (mU self.iI.b_),vi self.e_]) (fun x c=>x=(vi r.1)∧c=.box [.s (mU r.2.iI.b_),vi r.2.e_]):=by
 refine qk (n:=31) (c:=f33.body.getD .skip) tok func33 (by kernel_rfl) rfl rfl nb ?_;unfold s_ at h;refine sg (sq (sg ?_));refine ⟨_,rfl,?_⟩;refine ct h (fun hb h=>?_) fun hb h=>?_
 ·refine sg (rt ?_);cases h;exact ⟨_,_,⟨rfl,rfl⟩,rfl,rfl,Fz.v⟩
 refine sk (sg ?_);have ⟨x1,Ξ,h⟩:=κ h;refine ⟨_,rfl,?_⟩;refine af.call (aiG Ξ) lz ?_;refine sg ⟨_,rfl,_,rfl,?_⟩;refine sg (rt ?_);cases h;exact ⟨_,_,⟨rfl,rfl⟩,rfl,rfl,Fz.v⟩
def aiJ {self r} (h:Fi self=some r):mr prog 38 [.b 1000 0] (.box [.s (mU self.iI.b_),vi self.e_]) (fun x c=>x=(vi r.1)∧c=.box [.s (mU r.2.iI.b_),vi r.2.e_]):=by
 refine qk (n:=31) (c:=f38.body.getD .skip) tok func38 (by kernel_rfl) rfl rfl nb ?_;unfold Fi at h;refine sg (sg ?_);have ⟨x1,Ξ,h⟩:=κ h;refine af.ez (id:=1000) (CQ Ξ) rfl (.box lz) rfl (.cons (Lr.b) .nil) ?_;rintro _ _ ⟨rfl,rfl⟩;refine Ok.eW (fun v1=>⟨ar [],[(1000,.box [.s (mU x1.2.iI.b_),vi v1])]⟩) (fun v1=>Jq x1 v1=some r) ?_ ?_
 ·refine bl (sg ?_);refine ⟨_,rfl,?_⟩;refine ct h (fun hb h=>?_) fun hb h=>?_
  ·refine sg (rt ?_);cases h;exact ⟨_,_,⟨rfl,rfl⟩,rfl,rfl,Fz.v⟩
  refine sg (ct h (fun hb h=>?_) fun hb h=>?_)
  ·refine rg ⟨_,rfl,?_⟩;exact ⟨_,h,wt Q0 ⟨⟨_,rfl,.refl _⟩,Q0⟩ rfl⟩
  refine sg ⟨_,rfl,_,ay _,fun _=>?_⟩;refine ct h (fun hb h=>?_) fun hb h=>?_
  ·refine rg ⟨_,rfl,?_⟩;exact ⟨_,h,wt Q0 ⟨⟨_,rfl,.refl _⟩,Q0⟩ rfl⟩
  refine sg (rt ?_);cases h;exact ⟨_,_,⟨rfl,rfl⟩,rfl,rfl,Fz.v⟩
 intro v1 h;unfold Jq at h;refine sg (rt ?_);cases h;exact ⟨_,_,⟨rfl,rfl⟩,rfl,rfl,Fz.v⟩
def aiL {self a r} (h:Js self a=some r):mr prog 83 [.b 1000 0,vi a] (.box [.s (mU self.iI.b_),vi self.e_]) (fun x c=>x=(.s (mU r.1))∧c=.box [.s (mU r.2.iI.b_),vi r.2.e_]):=by
 refine qk (n:=22) (c:=f83.body.getD .skip) tok func83 (by kernel_rfl) rfl rfl nb ?_;unfold Js at h;refine sg (sg ?_);have ⟨aw,h⟩:=aG h;refine ⟨_,rfl,_,kZ aw.1,Nat.zero_le _,wV aw,wQ (f:=dZ) (K:=1) (fun _=>rfl) self.iI.b_,_,J0 _ _ _,?_⟩;refine sg ?_;have ⟨br,h⟩:=aG h;refine ⟨_,rfl,_,kZ br.1,wV br,Nat.le_refl _,wQ (f:=dZ) (K:=1) (fun _=>rfl) self.iI.b_,_,Pr _ _ _,_,rfl,?_⟩;refine sg (rt ?_);cases h;exact ⟨_,_,⟨rfl,rfl⟩,rfl,rfl,Fz.s⟩
def Qq {self r} (h:zB self=some r):mr prog 34 [.b 1000 0] (.box [.s (mU self.iI.b_),vi self.e_]) (fun x c=>x=(vs r.1)∧c=.box [.s (mU r.2.iI.b_),vi r.2.e_]):=by
 refine qk (n:=17) (c:=f34.body.getD .skip) tok func34 (by kernel_rfl) rfl rfl nb ?_;unfold zB at h;refine sg (sg ?_);have ⟨x1,Ξ,h⟩:=κ h;refine af.ez (id:=1000) (aiJ Ξ) rfl (.box lz) rfl (.cons (Lr.b) .nil) ?_;rintro _ _ ⟨rfl,rfl⟩;refine sq (sg ?_);refine ⟨_,rfl,?_⟩;refine ct h (fun hb h=>?_) fun hb h=>?_
 ·refine sg (rt ?_);cases h;exact ⟨_,_,⟨rfl,rfl⟩,rfl,rfl,Fz.v⟩
 refine sk (sg ?_);have ⟨x2,au,h⟩:=κ h;refine af.ez (id:=1000) (aiL au) rfl (.box lz) rfl (.cons (Lr.b) (.cons (Lr.dG rfl) .nil)) ?_;rintro _ _ ⟨rfl,rfl⟩;refine ⟨_,rfl,?_⟩;refine rt ?_;cases h;exact ⟨_,_,⟨rfl,rfl⟩,rfl,rfl,Fz.v⟩
def aiK {self r} (h:Fj self=some r):mr prog 35 [.b 1000 0] (.box [.s (mU self.iI.b_),vi self.e_]) (fun x c=>x=(vi r.1)∧c=.box [.s (mU r.2.iI.b_),vi r.2.e_]):=by
 refine qk (n:=24) (c:=f35.body.getD .skip) tok func35 (by kernel_rfl) rfl rfl nb ?_;unfold Fj at h;refine sg ?_;have ⟨v1,ν,h⟩:=κ h;refine Ok.bh ⟨ar [(0,.b 1000 0)],[(1000,.box [.s (mU self.iI.b_),vi v1])]⟩ ?_ ?_
 ·have ⟨v2,ax,ν⟩:=κ ν;refine Ok.bh ⟨ar [(0,.b 1000 0),(16,vb v2)],[(1000,.box [.s (mU self.iI.b_),vi self.e_])]⟩ ?_ ?_
  ·refine rg ⟨_,rfl,?_⟩;have ⟨c1,Δ,ax⟩:=κ ax;refine Br.ite Δ (fun hb Δ=>?_) fun hb Δ=>?_
   ·refine ⟨_,rfl,_,ay _,fun _=>?_⟩;cases Δ;cases ax;exact wt Q2 J1 rfl
   cases Δ;cases ax;exact wt Q2 J1 rfl
  refine ct ν (fun hb ν=>?_) fun hb ν=>?_
  ·refine rg ⟨_,rfl,?_⟩;cases ν;exact wt Q1 J1 rfl
  refine sk ?_;cases ν;exact wt Q1 J1 rfl
 refine sg ⟨_,rfl,?_⟩;refine rt ?_;cases h;exact ⟨_,_,⟨rfl,rfl⟩,rfl,rfl,Fz.v⟩
def aiH {c r} (h:Fh c=some r):Pure prog 16 [.s (mU c)] (.t [.a (vC r.1),vi r.2]):=by
 refine pq tok 43 func16 ?_;unfold Fh at h;refine sg (sg (sg (sg ?_)));have ⟨x1,Ξ,h⟩:=κ h;refine af.ez (id:=10) (CQ Ξ) rfl (.box lz) rfl (.cons (Lr.b) .nil) ?_;rintro _ _ ⟨rfl,rfl⟩;have ⟨x2,au,h⟩:=κ h;refine af.ez (id:=10) (CQ au) rfl (.box lz) rfl (.cons (Lr.b) .nil) ?_;rintro _ _ ⟨rfl,rfl⟩;refine ⟨_,rfl,_,rfl,?_⟩;refine sg ?_;have ⟨x3,aL,h⟩:=κ h;refine af.ez (id:=10) (Qq aL) rfl (.box lz) rfl (.cons (Lr.b) .nil) ?_;rintro _ _ ⟨rfl,rfl⟩;have ⟨x4,bu,h⟩:=κ h;refine af.ez (id:=10) (Qq bu) rfl (.box lz) rfl (.cons (Lr.b) .nil) ?_;rintro _ _ ⟨rfl,rfl⟩;refine ⟨_,rfl,_,rfl,?_⟩;refine wT [(2,.b 2 0),(4,.b 10 0),(5,.b 5 0)] [(2,.box (Vi 0 0 ([]) ([]) 0 0 0)),(10,.box [.s (mU x4.2.iI.b_),vi x4.2.e_]),(5,.box (Vi x1.1 x2.1 x3.1 x4.1 0 0 0))] Q3 J3 rfl ?_;refine sg ?_;have ⟨x5,dA,h⟩:=κ h;refine af.ez (id:=10) (CQ dA) rfl (.box lz) rfl (.cons (Lr.b) .nil) ?_;rintro _ _ ⟨rfl,rfl⟩;have ⟨x6,gW,h⟩:=κ h;refine af.ez (id:=10) (CQ gW) rfl (.box lz) rfl (.cons (Lr.b) .nil) ?_;rintro _ _ ⟨rfl,rfl⟩;have ⟨x7,gn,h⟩:=κ h;refine af.ez (id:=10) (CQ gn) rfl (.box lz) rfl (.cons (Lr.b) .nil) ?_;rintro _ _ ⟨rfl,rfl⟩;refine ⟨_,rfl,_,rfl,_,rfl,?_⟩;refine sg ?_;have ⟨x8,jS,h⟩:=κ h;refine af.ez (id:=10) (Qq jS) rfl (.box lz) rfl (.cons (Lr.b) .nil) ?_;rintro _ _ ⟨rfl,rfl⟩;have ⟨aw,h⟩:=aG h;refine ⟨ahR aw,_,rfl,?_⟩;refine sq (sg ?_);have ⟨x9,j_,h⟩:=κ h;refine af.ez (id:=10) (aiK j_) rfl (.box lz) rfl (.cons (Lr.b) .nil) ?_
 rintro _ _ ⟨rfl,rfl⟩;refine sg (ct h (fun hb h=>?_) fun hb h=>?_)
 ·refine sg ⟨_,rfl,?_⟩;refine rt ?_;cases h;exact ⟨_,rfl,Fz.t (.cons (Fz.a (.cons Fz.v (.cons Fz.v (.cons Fz.v (.cons Fz.v (.cons Fz.v (.cons Fz.v (.cons Fz.v (.cons Fz.nil .nil))))))))) fq)⟩
 refine sk (sg ?_);refine ⟨_,rfl,_,rfl,?_⟩;refine rt ?_;cases h;exact ⟨_,rfl,Fz.t fq⟩
def aji [oV] {r} (h:Ge=some r):Pure prog 8 [] (vb r):=by
 refine pq tok 85 func8 ?_;unfold Ge at h;refine sg (sg ?_);have ⟨x1,Ξ,h⟩:=κ h;refine af.call (Ql Ξ) lz ?_;have ⟨x2,au,h⟩:=κ h;refine af.call (xb au) (l1 (.cons (Le.a (l4 (l2 (l1 (.cons (Le.nil) .nil))))) .nil)) ?_;refine ⟨_,rfl,_,rfl,?_⟩;refine sg ?_;have ⟨x3,aL,h⟩:=κ h;refine ⟨_,rfl,?_⟩;refine af.call (xb aL) (l1 (.cons (Le.a (l4 (l2 (l1 (.cons (Le.nil) .nil))))) .nil)) ?_;refine ⟨_,rfl,_,rfl,?_⟩;refine sg ?_;have ⟨x4,bu,h⟩:=κ h;refine ⟨_,rfl,?_⟩;refine af.call (xb bu) (l1 (.cons (Le.a (l4 (l2 (l1 (.cons (Le.nil) .nil))))) .nil)) ?_;refine ⟨_,rfl,_,rfl,?_⟩;refine wT [(1,.b 1 0),(2,.b 2 0),(3,.b 3 0),(4,.b 4 0)] [(1,.box (b2 x4.1)),(2,.box (np x2.2)),(3,.box (np x3.2)),(4,.box (np x4.2))] Q4 J4 rfl ?_;refine sg ?_;have ⟨x5,dA,h⟩:=κ h;refine ⟨_,rfl,?_⟩;refine af.call (xb dA) (l1 (.cons (Le.a (l4 (l2 (l1 (.cons (Le.nil) .nil))))) .nil)) ?_;refine ⟨_,rfl,_,rfl,?_⟩;refine sg ?_;have ⟨x6,gW,h⟩:=κ h;refine ⟨_,rfl,?_⟩;refine af.call (xb gW) (l1 (.cons (Le.a (l4 (l2 (l1 (.cons (Le.nil) .nil))))) .nil)) ?_;refine ⟨_,rfl,_,rfl,?_⟩;refine wT [(2,.b 2 0),(3,.b 3 0),(4,.b 4 0),(6,.b 6 0),(8,.b 8 0)] [(2,.box (np x2.2)),(3,.box (np x3.2)),(4,.box (np x4.2)),(6,.box (np x5.2)),(8,.box (np x6.2))] Q5 ⟨hr,J4⟩ rfl ?_;refine sg ?_;have ⟨x7,gn,h⟩:=κ h;refine af.call (aiF gn) (.cons (Le.a (l4 (l2 (l1 (.cons (Le.nil) .nil))))) .nil) ?_;have ⟨x8,jS,h⟩:=κ h;refine af.call (aiH jS) lz ?_;refine ⟨_,rfl,?_⟩;refine sq (sg ?_);refine ⟨_,rfl,_,ay _,fun _=>?_⟩
 refine ct h (fun hb h=>?_) fun hb h=>?_
 ·refine sg (rt ?_);cases h;exact Fz.v
 refine sk ?_;have ⟨v1,ν,h⟩:=κ h;refine Ok.bh ⟨ar [(0,vb v1)],[]⟩ ?_ ?_
 ·refine rg ⟨_,rfl,?_⟩;have ⟨c1,Δ,ν⟩:=κ ν;refine Br.ite Δ (fun hb Δ=>?_) fun hb Δ=>?_
  ·refine ⟨_,rfl,?_⟩;cases Δ;have ⟨c2,aI,ν⟩:=κ ν;refine Br.ite aI (fun hb aI=>?_) fun hb aI=>?_
   ·refine ⟨_,rfl,?_⟩;cases aI;have ⟨c3,aX,ν⟩:=κ ν;refine Br.ite aX (fun hb aX=>?_) fun hb aX=>?_
    ·have ⟨x9,j_,aX⟩:=κ aX;refine ⟨_,rfl,_,bz j_,_,bC j_,_,rfl,_,tD _ _,?_⟩;cases aX;have ⟨c4,cU,ν⟩:=κ ν;refine Br.ite cU (fun hb cU=>?_) fun hb cU=>?_
     ·refine ⟨_,rfl,?_⟩;cases cU;have ⟨c5,db,ν⟩:=κ ν;refine Br.ite db (fun hb db=>?_) fun hb db=>?_
      ·refine ⟨_,rfl,_,tD _ _,?_⟩;cases db;have ⟨c6,eD,ν⟩:=κ ν;refine Br.ite eD (fun hb eD=>?_) fun hb eD=>?_
       ·cases eD;cases ν;exact wt Q1 Q0 rfl
       cases eD;cases ν;exact wt Q1 Q0 rfl
      cases db;have ⟨c6,fw,ν⟩:=κ ν;replace fw:=ed fw;cases fw;cases ν;exact wt Q1 Q0 rfl
     cases cU;have ⟨c5,fH,ν⟩:=κ ν;replace fH:=ed fH;cases fH;have ⟨c6,gT,ν⟩:=κ ν;replace gT:=ed gT;cases gT;cases ν;exact wt Q1 Q0 rfl
    cases aX;have ⟨c4,fu,ν⟩:=κ ν;replace fu:=ed fu;cases fu;have ⟨c5,iz,ν⟩:=κ ν;replace iz:=ed iz;cases iz;have ⟨c6,iA,ν⟩:=κ ν;replace iA:=ed iA;cases iA;cases ν;exact wt Q1 Q0 rfl
   cases aI;have ⟨c3,jN,ν⟩:=κ ν;replace jN:=ed jN;cases jN;have ⟨c4,kM,ν⟩:=κ ν;replace kM:=ed kM;cases kM;have ⟨c5,jO,ν⟩:=κ ν;replace jO:=ed jO;cases jO;have ⟨c6,nF,ν⟩:=κ ν;replace nF:=ed nF;cases nF;cases ν;exact wt Q1 Q0 rfl
  cases Δ;have ⟨c2,q8,ν⟩:=κ ν;replace q8:=ed q8;cases q8;have ⟨c3,nG,ν⟩:=κ ν;replace nG:=ed nG;cases nG;have ⟨c4,uw,ν⟩:=κ ν;replace uw:=ed uw;cases uw;have ⟨c5,yD,ν⟩:=κ ν;replace yD:=ed yD;cases yD;have ⟨c6,ux,ν⟩:=κ ν;replace ux:=ed ux;cases ux;cases ν;exact wt Q1 Q0 rfl
 refine rt ?_;cases h;exact Fz.v
def aiB {c r} (h:ET c=some r):Pure prog 21 [.a (vC c)] (vb r):=by
 refine pq tok 19 func21 ?_;unfold ET at h;refine sg ?_;have ⟨v1,ν,h⟩:=κ h;refine Ok.bh ⟨ar [(2,vb v1)],[]⟩ ?_ ?_
 ·refine rg ⟨_,rfl,_,ay _,fun _=>?_⟩;have ⟨c1,Δ,ν⟩:=κ ν;refine Br.dV Δ (fun hb Δ=>?_) fun hb Δ=>?_
  ·cases Δ;have ⟨c2,aI,ν⟩:=κ ν;replace aI:=ee aI;cases aI;cases ν;exact wt Q1 Q0 rfl
  refine ⟨_,rfl,_,nZ _,?_⟩;cases Δ;have ⟨c2,aX,ν⟩:=κ ν;refine Br.dV aX (fun hb aX=>?_) fun hb aX=>?_
  ·cases aX;cases ν;exact wt Q1 Q0 rfl
  refine ⟨_,rfl,_,nZ _,?_⟩;cases aX;cases ν;exact wt Q1 Q0 rfl
 refine rt ?_;cases h;exact Fz.v
end Go.Proofs
