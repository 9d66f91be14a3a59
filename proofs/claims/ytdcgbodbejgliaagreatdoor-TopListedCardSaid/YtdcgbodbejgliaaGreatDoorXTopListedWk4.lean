/- The walks of this seat beside the plain programs, part 4. No condition. -/
import Derived.Test.YtdcgbodbejgliaaGreatDoorXTopListedWk3
open List renaming length_map → au, map_append → bP
open Nat renaming le_refl → bm
open Or renaming inl → af, inr → fp
namespace Go.Proofs
set_option linter.all false
open Go Go.Cat Tryz
variable [M:bU] [K:LK]
set_option maxRecDepth 100000
set_option maxHeartbeats 4000000
def ua [mP] {d e r} (h:lv d e=some r):Pure prog 12 [.a (b2 d),.a (j_ e)] (.t [.a (b2 r.1),.a (kb r.2)]):=by
 refine Xx (n:=44) (q:=[(2,1000),(3,3),(4,1001),(5,1002)]) (L:=[(2,.b 2 0),(3,.b 3 0),(4,.b 4 0),(5,.b 5 0)]) (H:=[(2,.box (b2 d)),(3,.box (j_ e)),(4,.box (k6 0 0 0 0)),(5,.box (gU 0 0 0 0 0))]) (cf:=(b2 d)) (kf:=10) (ka:=7) (ans:=fun m=>(R5 ((⟨m,0,0,0,0,[],[]⟩:dh).uz) ((⟨m,0,0,0,0,[],[]⟩:dh).κ) ((⟨m,0,0,0,0,[],[]⟩:dh).Ω) ((⟨m,0,0,0,0,[],[]⟩:dh).N) ((⟨m,0,0,0,0,[],[]⟩:dh).M) ((⟨m,0,0,0,0,[],[]⟩:dh).lS) ((⟨m,0,0,0,0,[],[]⟩:dh).aP))) tok func12 (by kernel_rfl) rfl rfl nb ⟨rfl,rfl,rfl⟩ ⟨rfl,rfl,rfl⟩ (by decide) (W3 _ _ _ _ _ _ _ _ _ _) rfl rfl rfl rfl rfl rfl rfl rfl rfl rfl rfl rfl rfl rfl rfl (fun _=>rfl) rfl (fun _=>rfl) ?_ ?_
 ·refine rg ?_;exact ⟨rfl,wt Q4 ⟨hr,hr,hr,hr,Q0⟩ rfl⟩
 unfold lv at h;have ⟨v1,ν,h⟩:=η h;refine Ok.aB ⟨Γ [(2,.b 1000 0),(3,.b 3 0),(4,.b 1001 0),(5,.b 1002 0),(6,jO v1),(7,vb ((iu e.Ω rU).isSome))],[(1000,.box (b2 d)),(3,.box (j_ e)),(1001,.box (k6 0 0 0 0)),(1002,.box (gU 0 0 0 0 0))]⟩ ?_ ?_
 ·have ⟨x1,θ,ν⟩:=η ν;have ⟨x2,aq,ν⟩:=η ν;refine YI x2 (fun hA=>?_) fun nA hA=>?_;all_goals refine Ok.Xy [[0,1,2,3,4,5,6,7,8],[0,1,2,3,4,5,7,6,8],[0,1,2,3,4,6,5,7,8],[1,0,2,3,4,5,6,7,8],[1,0,2,3,4,5,7,6,8],[1,0,2,3,4,6,5,7,8],[1,2,0,3,4,5,6,7,8],[1,2,0,3,4,5,7,6,8],[1,2,0,3,4,6,5,7,8]] tok mixed (by kernel_rfl) ⟨?_,?_,?_,?_,?_,?_,?_,?_,?_,Q0⟩
  iterate 6 (refine cg [] [(1,999)] (CA θ) .nil Q0 ?_;refine ⟨_,rfl,_,((vV gb (z:=(0:Int)) aq).trans (congrArg (fun a=>[a]) hA)),_,yp gb e.Ω rU,?_⟩;cases ν;exact wt ⟨lr,lr,lr,lr,Le.of_eq hA.symm,Q1⟩ J4 rfl)
  iterate 3 (refine ⟨_,rfl,?_⟩;refine cg [] [(1,999)] (CA θ) .nil Q0 ?_;refine ⟨_,((vV gb (z:=(0:Int)) aq).trans (congrArg (fun a=>[a]) hA)),_,yp gb e.Ω rU,?_⟩;cases ν;exact wt ⟨lr,lr,lr,lr,Le.of_eq hA.symm,Q1⟩ J4 rfl)
  iterate 6 (refine cg [] [(1,999)] (CA θ) .nil Q0 ?_;refine ⟨_,rfl,_,((vV gb (z:=(0:Int)) aq).trans (congrArg (fun a=>[a]) hA)),_,yp gb e.Ω rU,?_⟩;cases ν;exact wt ⟨lr,lr,lr,lr,Le.of_eq hA.symm,Q1⟩ J4 rfl)
  iterate 2 (refine ⟨_,rfl,?_⟩;refine cg [] [(1,999)] (CA θ) .nil Q0 ?_;refine ⟨_,((vV gb (z:=(0:Int)) aq).trans (congrArg (fun a=>[a]) hA)),_,yp gb e.Ω rU,?_⟩;cases ν;exact wt ⟨lr,lr,lr,lr,Le.of_eq hA.symm,Q1⟩ J4 rfl)
  refine ⟨_,rfl,?_⟩;refine cg [] [(1,999)] (CA θ) .nil Q0 ?_;refine ⟨_,((vV gb (z:=(0:Int)) aq).trans (congrArg (fun a=>[a]) hA)),_,yp gb e.Ω rU,?_⟩;cases ν;exact wt ⟨lr,lr,lr,lr,Le.of_eq hA.symm,Q1⟩ J4 rfl
 refine Ok.cU (fun v2=>⟨Γ [(2,.b 1000 0),(3,.b 3 0),(4,.b 1001 0),(5,.b 1002 0),(6,jO v1)],[(1000,.box (b2 d)),(3,.box (j_ e)),(1001,.box (k6 0 0 0 0)),(1002,.box (gU 0 0 0 0 0))]⟩) (fun v2=>uN v1 d e v2=some r) ?_ ?_
 ·refine Ok.jq eB tok (af (af ?_));have ⟨c1,ξ,h⟩:=η h;refine Br.ite ξ (fun hb ξ=>?_) fun hb ξ=>?_
  ·refine af (af (⟨_,rfl,af ?_⟩));cases ξ;refine af (af ?_);have ⟨c2,ax,h⟩:=η h;refine Br.ite ax (fun hb ax=>?_) fun hb ax=>?_
   ·refine af (af (⟨_,rfl,af ?_⟩));cases ax;refine af ?_;have ⟨x3,aF,h⟩:=η h;refine fp (cx [] [] (zt aF) nq Q0 (fun e1 cH=>?_) (fun y1 fQ=>?_))
    ·have h:=gV h cH;cases h;exact ⟨_,rfl,rfl,rfl,rfl,⟨_,rfl,rfl⟩,⟨_,rfl,rfl⟩,rfl⟩
    have h:=gW h fQ;exact ⟨_,h,wt Q5 ⟨hr,hr,hr,hr,Q0⟩ rfl⟩
   cases ax;refine af ?_;have ⟨x3,aF,h⟩:=η h;refine fp (cx [] [] (zt aF) nq Q0 (fun e1 cH=>?_) (fun y1 fQ=>?_))
   ·have h:=gV h cH;cases h;exact ⟨_,rfl,rfl,rfl,rfl,⟨_,rfl,rfl⟩,⟨_,rfl,rfl⟩,rfl⟩
   have h:=gW h fQ;exact ⟨_,h,wt Q5 ⟨hr,hr,hr,hr,Q0⟩ rfl⟩
  cases ξ;refine af (af ?_);have ⟨c2,aL,h⟩:=η h;replace aL:=c9 aL;cases aL;refine af ?_;have ⟨x3,aF,h⟩:=η h;refine fp (cx [] [] (zt aF) nq Q0 (fun e1 cH=>?_) (fun y1 fQ=>?_))
  ·have h:=gV h cH;cases h;exact ⟨_,rfl,rfl,rfl,rfl,⟨_,rfl,rfl⟩,⟨_,rfl,rfl⟩,rfl⟩
  have h:=gW h fQ;exact ⟨_,h,wt Q5 ⟨hr,hr,hr,hr,Q0⟩ rfl⟩
 intro v2 h;unfold uN at h;refine sg ⟨_,rfl,_,rfl,?_⟩;refine wT [(4,.b 1001 0),(5,.b 1002 0),(6,jO v1),(8,.b 32 0)] [(1001,.box (k6 0 0 0 0)),(1002,.box (gU 0 0 0 0 0)),(32,.box (iJ d.S.aC.ι d.S.aC.Next d.S.aC.ar d.S.bH d.S.dI d.S.cW d.S.cm d.S.Next d.Holds d.f_ e.Ω e.fZ e.ia e.To e.N e.M e.iO e.aP 0 0 0 0 0)),(1000,.box (b2 d))] ⟨lr,lr,(by first|exact lr|exact Le.YK|exact Le.YL|exact Le.YM),Q1⟩ J4 rfl ?_;refine Ok.cU (fun v3=>⟨Γ [(4,.b 1001 0),(5,.b 1002 0),(8,.b 32 0)],[(1001,.box (k6 0 0 0 0)),(1002,.box (gU 0 0 0 0 0)),(32,.box (R4 v3.1 v3.2.1 v3.2.2.1 v3.2.2.2.1 v3.2.2.2.2.1 v3.2.2.2.2.2.1 v3.2.2.2.2.2.2.1 v3.2.2.2.2.2.2.2.1 d.Holds (t8 v3).1 e.Ω e.fZ e.ia e.To e.N e.M e.iO e.aP (t8 v3).2.1 (t8 v3).2.2.1 (t8 v3).2.2.2.1 (t8 v3).2.2.2.2.1 (t8 v3).2.2.2.2.2.1 (t5 (t8 v3)).2)),(1000,.box (b2 d))]⟩) (fun v3=>xz d v3=some r) ?_ ?_
 ·refine Et h (fun hb h=>?_) (fun h=>?_)
  ·refine wT [(4,.b 1001 0),(5,.b 1002 0),(6,.c (.func 62) [] []),(8,.b 32 0)] [(1001,.box (k6 0 0 0 0)),(1002,.box (gU 0 0 0 0 0)),(32,.box (iJ d.S.aC.ι d.S.aC.Next d.S.aC.ar d.S.bH d.S.dI d.S.cW d.S.cm d.S.Next d.Holds d.f_ e.Ω e.fZ e.ia e.To e.N e.M e.iO e.aP 0 0 0 0 0)),(1000,.box (b2 d))] ⟨lr,lr,Le.fn hb (by decide),Q1⟩ J4 rfl ?_;refine Ok.jq eB tok ?_;have ⟨x4,aV,h⟩:=η h;refine af (af ?_);refine fp (cx [(1000,32)] [] (af2 aV) (.cons (Ln.b rfl) .nil) ⟨⟨32,_,rfl,rfl,.box nq⟩,Q0⟩ (fun e2 jg=>?_) (fun y2 kS=>?_))
   ·have h:=gV h jg;cases h;exact ⟨_,rfl,rfl,rfl,rfl,⟨_,rfl,rfl⟩,⟨_,rfl,rfl⟩,rfl⟩
   have h:=gW h kS;exact ⟨_,h,wt Q3 ⟨hr,hr,⟨_,rfl,.box (l4 (l4 (l4 (l4 (l4 (l2 (l1 (.cons (Le.nil) lz))))))))⟩,hr,Q0⟩ rfl⟩
  refine Et h (fun hb h=>?_) (fun h=>?_)
  ·refine wT [(4,.b 1001 0),(5,.b 1002 0),(6,.c (.func 63) [] []),(8,.b 32 0)] [(1001,.box (k6 0 0 0 0)),(1002,.box (gU 0 0 0 0 0)),(32,.box (iJ d.S.aC.ι d.S.aC.Next d.S.aC.ar d.S.bH d.S.dI d.S.cW d.S.cm d.S.Next d.Holds d.f_ e.Ω e.fZ e.ia e.To e.N e.M e.iO e.aP 0 0 0 0 0)),(1000,.box (b2 d))] ⟨lr,lr,Le.fn hb (by decide),Q1⟩ J4 rfl ?_;refine Ok.jq eB tok ?_;have ⟨x5,bJ,h⟩:=η h;refine af (af ?_);refine fp (cx [(1000,32)] [(999,998)] (af3 bJ) (.cons (Ln.b rfl) .nil) ⟨⟨32,_,rfl,rfl,.box nq⟩,Q0⟩ (fun e3 pn=>?_) (fun y3 oH=>?_))
   ·have h:=gV h pn;cases h;exact ⟨_,rfl,rfl,rfl,rfl,⟨_,rfl,rfl⟩,⟨_,rfl,rfl⟩,rfl⟩
   have h:=gW h oH;exact ⟨_,h,(Wk.freeze (id:=998) rfl).trans (wt Q3 ⟨hr,hr,⟨_,rfl,.box (l4 (l4 (l4 (l4 (l4 (l2 (l1 (.cons (Le.nil) lz))))))))⟩,hr,Q0⟩ rfl)⟩
  refine Et h (fun hb h=>?_) (fun h=>?_)
  ·refine wT [(4,.b 1001 0),(5,.b 1002 0),(6,.c (.func 66) [] []),(8,.b 32 0)] [(1001,.box (k6 0 0 0 0)),(1002,.box (gU 0 0 0 0 0)),(32,.box (iJ d.S.aC.ι d.S.aC.Next d.S.aC.ar d.S.bH d.S.dI d.S.cW d.S.cm d.S.Next d.Holds d.f_ e.Ω e.fZ e.ia e.To e.N e.M e.iO e.aP 0 0 0 0 0)),(1000,.box (b2 d))] ⟨lr,lr,Le.fn hb (by decide),Q1⟩ J4 rfl ?_;refine Ok.jq eB tok ?_;have ⟨x6,cK,h⟩:=η h;refine af (af ?_);refine fp (cx [(1000,32)] [(999,998)] (af5 cK) (.cons (Ln.b rfl) .nil) ⟨⟨32,_,rfl,rfl,.box nq⟩,Q0⟩ (fun e4 mX=>?_) (fun y4 JJ=>?_))
   ·have h:=gV h mX;cases h;exact ⟨_,rfl,rfl,rfl,rfl,⟨_,rfl,rfl⟩,⟨_,rfl,rfl⟩,rfl⟩
   have h:=gW h JJ;exact ⟨_,h,(Wk.freeze (id:=998) rfl).trans (wt Q3 ⟨hr,hr,⟨_,rfl,.box (l4 (l4 (l4 (l4 (l4 (l2 (l1 (.cons (Le.nil) lz))))))))⟩,hr,Q0⟩ rfl)⟩
  refine Et h (fun hb h=>?_) (fun h=>?_)
  ·refine wT [(4,.b 1001 0),(5,.b 1002 0),(6,.c (.func 67) [] []),(8,.b 32 0)] [(1001,.box (k6 0 0 0 0)),(1002,.box (gU 0 0 0 0 0)),(32,.box (iJ d.S.aC.ι d.S.aC.Next d.S.aC.ar d.S.bH d.S.dI d.S.cW d.S.cm d.S.Next d.Holds d.f_ e.Ω e.fZ e.ia e.To e.N e.M e.iO e.aP 0 0 0 0 0)),(1000,.box (b2 d))] ⟨lr,lr,Le.fn hb (by decide),Q1⟩ J4 rfl ?_;refine Ok.jq eB tok ?_;have ⟨x7,cP,h⟩:=η h;refine af (af ?_);refine fp (cx [(1000,32)] [] (af1 cP) (.cons (Ln.b rfl) .nil) ⟨⟨32,_,rfl,rfl,.box nq⟩,Q0⟩ (fun e5 Jd=>?_) (fun y5 AK=>?_))
   ·have h:=gV h Jd;cases h;exact ⟨_,rfl,rfl,rfl,rfl,⟨_,rfl,rfl⟩,⟨_,rfl,rfl⟩,rfl⟩
   have h:=gW h AK;exact ⟨_,h,wt Q3 ⟨hr,hr,hr,hr,Q0⟩ rfl⟩
  cases h
 intro v3 h;unfold xz at h;refine sq (Ok.gP (m:=8) (late:=[4,5,6,7]) (MD:=⟨[]⟩) (CH:=⟨[]⟩) tok mixed (by kernel_rfl) ?_);refine ⟨_,rfl,_,rfl,_,rfl,_,⟨_,rfl,rfl⟩,_,rfl,_,rfl,_,rfl,_,⟨_,rfl,rfl⟩,Q0,?_⟩;refine ⟨_,rfl,⟨⟨_,rfl,rfl⟩,⟨_,rfl,rfl⟩,⟨_,rfl,rfl⟩,⟨_,rfl,_,rfl,rfl⟩,Q0⟩,_,rfl,?_⟩;refine wT [(4,.b 1001 0),(5,.b 1002 0)] [(1001,.box (k5 v3.1 v3.2.1 v3.2.2.1 v3.2.2.2.1 v3.2.2.2.2.1 v3.2.2.2.2.2.1 v3.2.2.2.2.2.2.1 v3.2.2.2.2.2.2.2.1 d.Holds (t8 v3).1)),(1002,.box (k20 (t8 v3).2.1 (t8 v3).2.2.1 (t8 v3).2.2.2.1 (t8 v3).2.2.2.2.1 (t8 v3).2.2.2.2.2.1 (t5 (t8 v3)).2)),(1000,.box (b2 d))] Q2 J3 rfl ?_;refine rt ?_;cases h;exact ⟨_,rfl,_,rfl,Fz.t (.cons (Fz.cq rfl) (.cons (Fz.a (.cons Fz.v (.cons Fz.v (.cons Fz.v (.cons Fz.v (.cons Fz.v (.cons Fz.s (.cons Fz.nil .nil)))))))) .nil))⟩
def VA {a r} (h:Bi a=some r):jb prog 84 [vi a] 5 1 (mU r):=by
 refine pv tok 27 func84 ?_;unfold Bi at h;refine sg (sg (sg ⟨_,rfl,(by decide),_,rfl,(by decide),_,rfl,_,rfl,_,rfl,?_⟩));have ⟨v1,ν,h⟩:=η h;refine Ok.aB ⟨Γ [(3,.o 21),(4,.v (.int .u64 v1.1))],[(21,.own 5 1 (mU v1.2))]⟩ ?_ ?_
 ·refine bl (Ok.loop (fun (s1:Int×(List UInt8))=>⟨Γ [(3,.o 21),(4,.v (.int .u64 s1.1))],[(21,.own 5 1 (mU s1.2))]⟩) (KJ) (s0:=((NW .u64 (wJ .u64 (IntKind.u64.wrap a) (1)) (IntKind.u64.wrap (fV .i64 a (63)))),[])) ν ((Wk.nn (t:=3) (id:=21) (E:=5) (K:=1) rfl rfl).trans (wt Q2 ⟨hr,Q0⟩ rfl)) ?_);intro s1 y1 ζ az;unfold KJ at ζ;refine sq (sg ?_);refine ct ζ (fun hb ζ=>?_) fun hb ζ=>?_
  ·refine sk (sq (bl (rg ?_)));have ⟨ah,ζ⟩:=ak ζ;refine ⟨_,UQ _,_,WJ (lM s1.1) (128:UInt8),af ⟨cL (f:=du) (n:=1) (fun _=>rfl) ([(lM s1.1) ||| (128:UInt8)]),cJ (f:=du) (l:=s1.2) (l':=[(lM s1.1) ||| (128:UInt8)]) ah,_,(bP (f:=du) (l₁:=s1.2) (l₂:=[(lM s1.1) ||| (128:UInt8)])).symm,?_⟩⟩;refine rg ⟨(by decide),_,rfl,?_⟩;exact ⟨_,sj ζ,wt Q2 J1 rfl⟩
  refine xt ?_;have ζ:=aN ζ az;cases ζ;exact wt Q2 J1 rfl
 refine sg ?_;have ⟨aQ,h⟩:=ak h;refine ⟨_,UQ _,af ⟨cL (f:=du) (n:=1) (fun _=>rfl) ([lM v1.1]),cJ (f:=du) (l:=v1.2) (l':=[lM v1.1]) aQ,_,(bP (f:=du) (l₁:=v1.2) (l₂:=[lM v1.1])).symm,?_⟩⟩;refine rt ?_;cases h;exact (.inr ⟨_,rfl,rfl⟩)
def aeI {a r} (h:Bi a=some r):Pure prog 84 [vi a] (.s (mU r)):=(VA h).pure
def VB {a r} (h:Bj a=some r):jb prog 36 [.s (mB a)] 5 1 (mU r):=by
 refine pv tok 18 func36 ?_;unfold Bj at h;refine sg (sg ?_);have ⟨v1,ν,h⟩:=η h;refine Ok.aB ⟨Γ [(3,.o 15)],[(15,.own 5 1 (mU v1))]⟩ ?_ ?_
 ·refine sg ⟨_,au _,fun _=>?_⟩;refine bl (Ok.loop (fun (s1:Int×(List UInt8))=>⟨Γ [(3,.o 15),(6,.s (mB a)),(7,vi (a.length:Int)),(8,vi s1.1)],[(15,.own 5 1 (mU s1.2))]⟩) (KO a) (s0:=(0,[])) ν ((Wk.nn (t:=3) (id:=15) (E:=5) (K:=1) rfl rfl).trans (wt Q4 ⟨hr,Q0⟩ rfl)) ?_);intro s1 y1 ζ az;unfold KO at ζ;refine sg (sq (ct ζ (fun hb ζ=>?_) fun hb ζ=>?_))
  ·refine sk (sq (bl (sg ?_)));have ⟨x1,θ,ζ⟩:=η ζ;refine ⟨_,aI θ,_,aK θ,_,rfl,?_⟩;refine rg ?_;have ⟨x2,aq,ζ⟩:=η ζ;refine Θ.call (aeI aq) lz ?_;have ⟨ah,ζ⟩:=ak ζ;refine ⟨cL (f:=du) (n:=1) (fun _=>rfl) x2,cJ (f:=du) (l:=s1.2) (l':=x2) ah,_,(bP (f:=du) (l₁:=s1.2) (l₂:=x2)).symm,?_⟩;refine rg ?_;have ⟨aQ,ζ⟩:=ak ζ;refine (af ⟨aQ,?_⟩);exact ⟨_,sj ζ,wt Q4 J1 rfl⟩
  refine xt ?_;have ζ:=aN ζ az;cases ζ;exact wt Q1 J1 rfl
 refine sg (rt ?_);cases h;exact (.inr ⟨_,rfl,rfl⟩)
def aeM {a r} (h:Bj a=some r):Pure prog 36 [.s (mB a)] (.s (mU r)):=(VB h).pure
def agm {a r} (h:yy a=some r):jb prog 37 [vs a] 5 1 (mU r):=by
 refine pv tok 8 func37 ?_;unfold yy at h;refine sg (sg ?_);have ⟨x1,θ,h⟩:=η h;refine ⟨_,j1 _,?_⟩;refine Θ.own (D:=5) (VA θ) lz rfl ?_;have ⟨ah,h⟩:=ak h;refine ⟨cL (f:=du) (n:=1) (fun _=>rfl) a,cJ (f:=du) (l:=x1) (l':=a) ah,_,(bP (f:=du) (l₁:=x1) (l₂:=a)).symm,?_⟩;refine rt ?_;cases h;exact (.inr ⟨_,rfl,rfl⟩)
def NA {a r} (h:yy a=some r):Pure prog 37 [vs a] (.s (mU r)):=(agm h).pure
def agl {c r} (h:ET c=some r):jb prog 17 [.a (j_ c)] 5 1 (mU r):=by
 refine pv tok 36 func17 ?_;unfold ET at h;refine sg (sg ?_);have ⟨x1,θ,h⟩:=η h;refine ⟨_,rfl,_,rfl,af ?_⟩;refine Θ.own (D:=9) (VB θ) lz rfl ?_;refine sg ?_;have ⟨x2,aq,h⟩:=η h;refine ⟨_,rfl,?_⟩;refine Θ.call (NA aq) lz ?_;have ⟨ah,h⟩:=ak h;refine ⟨cL (f:=du) (n:=1) (fun _=>rfl) x2,cJ (f:=du) (l:=x1) (l':=x2) ah,_,(bP (f:=du) (l₁:=x1) (l₂:=x2)).symm,?_⟩;refine sg ?_;have ⟨x3,aF,h⟩:=η h;refine ⟨_,rfl,?_⟩;refine Θ.call (NA aF) lz ?_;have ⟨aQ,h⟩:=ak h;refine ⟨cL (f:=du) (n:=1) (fun _=>rfl) x3,cJ (f:=du) (l:=x1++x2) (l':=x3) aQ,_,(bP (f:=du) (l₁:=x1++x2) (l₂:=x3)).symm,?_⟩;refine sg ?_;have ⟨x4,aV,h⟩:=η h;refine ⟨_,rfl,_,rfl,_,rfl,af ?_⟩;refine Θ.call (aeM aV) lz ?_;have ⟨bN,h⟩:=ak h;refine ⟨cL (f:=du) (n:=1) (fun _=>rfl) x4,cJ (f:=du) (l:=(x1++x2)++x3) (l':=x4) bN,_,(bP (f:=du) (l₁:=(x1++x2)++x3) (l₂:=x4)).symm,?_⟩;refine sg ?_;have ⟨x5,bJ,h⟩:=η h;refine ⟨_,rfl,_,rfl,?_⟩;refine Θ.call (NA bJ) lz ?_;have ⟨c8,h⟩:=ak h;refine ⟨cL (f:=du) (n:=1) (fun _=>rfl) x5,cJ (f:=du) (l:=((x1++x2)++x3)++x4) (l':=x5) c8,_,(bP (f:=du) (l₁:=((x1++x2)++x3)++x4) (l₂:=x5)).symm,?_⟩;refine rt ?_;cases h;exact (.inr ⟨_,rfl,rfl⟩)
def aeJ {b r} (h:ET b=some r):Pure prog 17 [.a (j_ b)] (.s (mU r)):=(agl h).pure
def aeK {a r} (h:KK a=some r):Pure prog 82 [.s (mU a)] (.t (k21 r.1 r.2.1 r.2.2)):=by
 refine pq tok 50 func82 ?_;unfold KK at h;refine sg (sg (Ok.cU (fun v1=>⟨Γ [],[]⟩) (fun v1=>KM v1=some r) ?_ ?_))
 ·refine sg ⟨_,au _,fun _=>?_⟩;refine bl (Ok.loop (fun (s1:Int×Int)=>⟨Γ [(0,.s (mU a)),(5,.v (.int .u64 s1.1)),(8,.s (mU a)),(9,vi (a.length:Int)),(10,vi s1.2)],[]⟩) (KL a) (s0:=(0,0)) h (wt Q5 Q0 rfl) ?_);intro s1 y1 ζ az;unfold KL at ζ;refine sg (sq (ct ζ (fun hb ζ=>?_) fun hb ζ=>?_))
  ·refine sk (sq (bl (sg ?_)));have ⟨x1,θ,ζ⟩:=η ζ;refine ⟨_,aI θ,_,aK θ,_,rfl,?_⟩;refine sq ?_;have ⟨v2,Δ,ζ⟩:=η ζ;refine Ok.aB ⟨Γ [(0,.s (mU a)),(5,.v (.int .u64 s1.1)),(6,vi s1.2),(7,vu x1),(8,.s (mU a)),(9,vi (a.length:Int)),(10,vi s1.2),(20,vb v2)],[]⟩ ?_ ?_
   ·refine rg ?_;have ⟨c1,ξ,Δ⟩:=η Δ;refine Br.ite ξ (fun hb ξ=>?_) fun hb ξ=>?_
    ·cases ξ;cases Δ;exact wt Q8 Q0 rfl
    cases ξ;cases Δ;exact wt Q8 Q0 rfl
   refine ct ζ (fun hb ζ=>?_) fun hb ζ=>?_
   ·refine sg (rt ?_);have ζ:=aN ζ az;cases ζ;exact (Fz.t (.cons Fz.v (.cons Fz.nil fq)))
   refine sk (sg ?_);have ⟨ah,ζ⟩:=ak ζ;have ⟨aQ,ζ⟩:=ak ζ;refine ⟨_,WI x1 (127:UInt8),_,VE (k:=.u64) (by decide) _,af ⟨ah,aQ,_,rfl,_,rfl,?_⟩⟩;refine sq (sg ?_);refine ct ζ (fun hb ζ=>?_) fun hb ζ=>?_
   ·refine xt (rg ?_);have ⟨bN,ζ⟩:=ak ζ;refine (af ⟨bN,?_⟩);exact ⟨_,sj ζ,wt Q5 Q0 rfl⟩
   refine sk (sq ?_);have ⟨v3,aA,ζ⟩:=η ζ;refine Ok.aB ⟨Γ [(0,.s (mU a)),(5,.v (.int .u64 (Bg .u64 s1.1 (wJ .u64 ((x1 &&& (127:UInt8)).toNat:Int) (7*s1.2))))),(6,vi s1.2),(36,vb v3)],[]⟩ ?_ ?_
   ·refine rg ?_;have ⟨c2,ax,aA⟩:=η aA;refine Br.ite ax (fun hb ax=>?_) fun hb ax=>?_
    ·cases ax;cases aA;exact wt Q4 Q0 rfl
    cases ax;cases aA;exact wt Q4 Q0 rfl
   refine ct ζ (fun hb ζ=>?_) fun hb ζ=>?_
   ·refine sg (rt ?_);have ζ:=aN ζ az;cases ζ;exact (Fz.t (.cons Fz.v (.cons Fz.nil fq)))
   refine sk (sq (dw 15 tok mixed ?_));have ⟨c8,ζ⟩:=ak ζ;have ⟨eJ,ζ⟩:=ak ζ;have ⟨nJ,ζ⟩:=ak ζ;refine ⟨_,rfl,_,⟨(by decide),_,rfl,rfl⟩,_,⟨_,rfl,rfl⟩,_,rfl,_,⟨_,rfl,rfl⟩,_,⟨_,rfl,rfl⟩,_,⟨_,Ψ.wrap c8,rfl⟩,_,⟨_,rfl,rfl⟩,_,rfl,_,rfl,_,af ⟨eJ,rfl⟩,_,⟨_,fK nJ.1,nW nJ,bm _,mo (f:=du) (K:=1) (fun _=>rfl) a,_,Cg _ _ _,rfl⟩,_,rfl,_,rfl,_,rfl,Q0,?_⟩;refine rt ?_;have ζ:=aN ζ az;cases ζ;exact (Fz.t (.cons Fz.v (.cons Fz.s fq)))
  refine xt ?_;have ζ:=aN ζ az;exact ⟨_,ζ,wt Q0 Q0 rfl⟩
 intro v1 h;unfold KM at h;refine sg (rt ?_);cases h;exact (Fz.t (.cons Fz.v (.cons Fz.nil fq)))
def zq {self r} (h:tE self=some r):lg prog 33 [.b 1000 0] (.box [.s (mU self.gZ.b_),vi self.e_]) (fun x c=>x=(vi r.1)∧c=.box [.s (mU r.2.gZ.b_),vi r.2.e_]):=by
 refine oM (n:=31) (c:=f33.body.getD .skip) tok func33 (by kernel_rfl) rfl rfl nb ?_;unfold tE at h;refine sg (sq (sg ?_));refine ⟨_,rfl,?_⟩;refine ct h (fun hb h=>?_) fun hb h=>?_
 ·refine sg (rt ?_);cases h;exact ⟨_,_,⟨rfl,rfl⟩,rfl,rfl,Fz.v⟩
 refine sk (sg ?_);have ⟨x1,θ,h⟩:=η h;refine ⟨_,rfl,?_⟩;refine Θ.call (aeK θ) lz ?_;refine sg ⟨_,rfl,_,rfl,?_⟩;refine sg (rt ?_);cases h;exact ⟨_,_,⟨rfl,rfl⟩,rfl,rfl,Fz.v⟩
def aeN {self r} (h:KP self=some r):lg prog 38 [.b 1000 0] (.box [.s (mU self.gZ.b_),vi self.e_]) (fun x c=>x=(vi r.1)∧c=.box [.s (mU r.2.gZ.b_),vi r.2.e_]):=by
 refine oM (n:=31) (c:=f38.body.getD .skip) tok func38 (by kernel_rfl) rfl rfl nb ?_;unfold KP at h;refine sg (sg ?_);have ⟨x1,θ,h⟩:=η h;refine Θ.eD (id:=1000) (zq θ) rfl (.box lz) rfl (.cons (Lr.b) .nil) ?_;rintro _ _ ⟨rfl,rfl⟩;refine Ok.cU (fun v1=>⟨Γ [],[(1000,.box [.s (mU x1.2.gZ.b_),vi v1])]⟩) (fun v1=>EU x1 v1=some r) ?_ ?_
 ·refine bl (sg ?_);refine ⟨_,rfl,?_⟩;refine ct h (fun hb h=>?_) fun hb h=>?_
  ·refine sg (rt ?_);cases h;exact ⟨_,_,⟨rfl,rfl⟩,rfl,rfl,Fz.v⟩
  refine sg (ct h (fun hb h=>?_) fun hb h=>?_)
  ·refine rg ⟨_,rfl,?_⟩;exact ⟨_,h,wt Q0 ⟨hr,Q0⟩ rfl⟩
  refine sg ⟨_,rfl,_,au _,fun _=>?_⟩;refine ct h (fun hb h=>?_) fun hb h=>?_
  ·refine rg ⟨_,rfl,?_⟩;exact ⟨_,h,wt Q0 ⟨hr,Q0⟩ rfl⟩
  refine sg (rt ?_);cases h;exact ⟨_,_,⟨rfl,rfl⟩,rfl,rfl,Fz.v⟩
 intro v1 h;unfold EU at h;refine sg (rt ?_);cases h;exact ⟨_,_,⟨rfl,rfl⟩,rfl,rfl,Fz.v⟩
def aeP {self a r} (h:KR self a=some r):lg prog 83 [.b 1000 0,vi a] (.box [.s (mU self.gZ.b_),vi self.e_]) (fun x c=>x=(.s (mU r.1))∧c=.box [.s (mU r.2.gZ.b_),vi r.2.e_]):=by
 refine oM (n:=22) (c:=f83.body.getD .skip) tok func83 (by kernel_rfl) rfl rfl nb ?_;unfold KR at h;refine sg (sg ?_);have ⟨ah,h⟩:=ak h;refine ⟨_,rfl,_,fK ah.1,Nat.zero_le _,nW ah,mo (f:=du) (K:=1) (fun _=>rfl) self.gZ.b_,_,wL _ _ _,?_⟩;refine sg ?_;have ⟨aQ,h⟩:=ak h;refine ⟨_,rfl,_,fK aQ.1,nW aQ,bm _,mo (f:=du) (K:=1) (fun _=>rfl) self.gZ.b_,_,Cg _ _ _,_,rfl,?_⟩;refine sg (rt ?_);cases h;exact ⟨_,_,⟨rfl,rfl⟩,rfl,rfl,Fz.s⟩
def NB {self r} (h:Bk self=some r):lg prog 34 [.b 1000 0] (.box [.s (mU self.gZ.b_),vi self.e_]) (fun x c=>x=(vs r.1)∧c=.box [.s (mU r.2.gZ.b_),vi r.2.e_]):=by
 refine oM (n:=17) (c:=f34.body.getD .skip) tok func34 (by kernel_rfl) rfl rfl nb ?_;unfold Bk at h;refine sg (sg ?_);have ⟨x1,θ,h⟩:=η h;refine Θ.eD (id:=1000) (aeN θ) rfl (.box lz) rfl (.cons (Lr.b) .nil) ?_;rintro _ _ ⟨rfl,rfl⟩;refine sq (sg ?_);refine ⟨_,rfl,?_⟩;refine ct h (fun hb h=>?_) fun hb h=>?_
 ·refine sg (rt ?_);cases h;exact ⟨_,_,⟨rfl,rfl⟩,rfl,rfl,Fz.v⟩
 refine sk (sg ?_);have ⟨x2,aq,h⟩:=η h;refine Θ.eD (id:=1000) (aeP aq) rfl (.box lz) rfl (.cons (Lr.b) (.cons (Lr.cq rfl) .nil)) ?_;rintro _ _ ⟨rfl,rfl⟩;refine ⟨_,rfl,?_⟩;refine rt ?_;cases h;exact ⟨_,_,⟨rfl,rfl⟩,rfl,rfl,Fz.v⟩
def aeO {self r} (h:KQ self=some r):lg prog 35 [.b 1000 0] (.box [.s (mU self.gZ.b_),vi self.e_]) (fun x c=>x=(vi r.1)∧c=.box [.s (mU r.2.gZ.b_),vi r.2.e_]):=by
 refine oM (n:=24) (c:=f35.body.getD .skip) tok func35 (by kernel_rfl) rfl rfl nb ?_;unfold KQ at h;refine sg ?_;have ⟨v1,ν,h⟩:=η h;refine Ok.aB ⟨Γ [(0,.b 1000 0)],[(1000,.box [.s (mU self.gZ.b_),vi v1])]⟩ ?_ ?_
 ·have ⟨v2,Δ,ν⟩:=η ν;refine Ok.aB ⟨Γ [(0,.b 1000 0),(16,vb v2)],[(1000,.box [.s (mU self.gZ.b_),vi self.e_])]⟩ ?_ ?_
  ·refine rg ⟨_,rfl,?_⟩;have ⟨c1,ξ,Δ⟩:=η Δ;refine Br.ite ξ (fun hb ξ=>?_) fun hb ξ=>?_
   ·refine ⟨_,rfl,_,au _,fun _=>?_⟩;cases ξ;cases Δ;exact wt Q2 J1 rfl
   cases ξ;cases Δ;exact wt Q2 J1 rfl
  refine ct ν (fun hb ν=>?_) fun hb ν=>?_
  ·refine rg ⟨_,rfl,?_⟩;cases ν;exact wt Q1 J1 rfl
  refine sk ?_;cases ν;exact wt Q1 J1 rfl
 refine sg ⟨_,rfl,?_⟩;refine rt ?_;cases h;exact ⟨_,_,⟨rfl,rfl⟩,rfl,rfl,Fz.v⟩
def aeL {c r} (h:KN c=some r):Pure prog 16 [.s (mU c)] (.t [.a (j_ r.1),vi r.2]):=by
 refine pq tok 43 func16 ?_;unfold KN at h;refine sg (sg (sg (sg ?_)));have ⟨x1,θ,h⟩:=η h;refine Θ.eD (id:=10) (zq θ) rfl (.box lz) rfl (.cons (Lr.b) .nil) ?_;rintro _ _ ⟨rfl,rfl⟩;have ⟨x2,aq,h⟩:=η h;refine Θ.eD (id:=10) (zq aq) rfl (.box lz) rfl (.cons (Lr.b) .nil) ?_;rintro _ _ ⟨rfl,rfl⟩;refine ⟨_,rfl,_,rfl,?_⟩;refine sg ?_;have ⟨x3,aF,h⟩:=η h;refine Θ.eD (id:=10) (NB aF) rfl (.box lz) rfl (.cons (Lr.b) .nil) ?_;rintro _ _ ⟨rfl,rfl⟩;have ⟨x4,aV,h⟩:=η h;refine Θ.eD (id:=10) (NB aV) rfl (.box lz) rfl (.cons (Lr.b) .nil) ?_;rintro _ _ ⟨rfl,rfl⟩;refine ⟨_,rfl,_,rfl,?_⟩;refine wT [(2,.b 2 0),(4,.b 10 0),(5,.b 5 0)] [(2,.box (R6 0 0 ([]) ([]) 0 0 0)),(10,.box [.s (mU x4.2.gZ.b_),vi x4.2.e_]),(5,.box (R6 x1.1 x2.1 x3.1 x4.1 0 0 0))] Q3 J3 rfl ?_;refine sg ?_;have ⟨x5,bJ,h⟩:=η h;refine Θ.eD (id:=10) (zq bJ) rfl (.box lz) rfl (.cons (Lr.b) .nil) ?_;rintro _ _ ⟨rfl,rfl⟩;have ⟨x6,cK,h⟩:=η h;refine Θ.eD (id:=10) (zq cK) rfl (.box lz) rfl (.cons (Lr.b) .nil) ?_;rintro _ _ ⟨rfl,rfl⟩;have ⟨x7,cP,h⟩:=η h;refine Θ.eD (id:=10) (zq cP) rfl (.box lz) rfl (.cons (Lr.b) .nil) ?_;rintro _ _ ⟨rfl,rfl⟩;refine ⟨_,rfl,_,rfl,_,rfl,?_⟩;refine sg ?_;have ⟨x8,ew,h⟩:=η h;refine Θ.eD (id:=10) (NB ew) rfl (.box lz) rfl (.cons (Lr.b) .nil) ?_;rintro _ _ ⟨rfl,rfl⟩;have ⟨ah,h⟩:=ak h;refine ⟨ad9 ah,_,rfl,?_⟩;refine sq (sg ?_);have ⟨x9,fi,h⟩:=η h;refine Θ.eD (id:=10) (aeO fi) rfl (.box lz) rfl (.cons (Lr.b) .nil) ?_
 rintro _ _ ⟨rfl,rfl⟩;refine sg (ct h (fun hb h=>?_) fun hb h=>?_)
 ·refine sg ⟨_,rfl,?_⟩;refine rt ?_;cases h;exact ⟨_,rfl,Fz.t (.cons (Fz.a (.cons Fz.v (.cons Fz.v (.cons Fz.v (.cons Fz.v (.cons Fz.v (.cons Fz.v (.cons Fz.v (.cons Fz.nil .nil))))))))) fq)⟩
 refine sk (sg ?_);refine ⟨_,rfl,_,rfl,?_⟩;refine rt ?_;cases h;exact ⟨_,rfl,Fz.t fq⟩
def afL [mP] {r} (h:M6=some r):Pure prog 8 [] (vb r):=by
 refine pq tok 85 func8 ?_;unfold M6 at h;refine sg (sg ?_);have ⟨x1,θ,h⟩:=η h;refine Θ.call (aet θ) lz ?_;have ⟨x2,aq,h⟩:=η h;refine Θ.call (ua aq) (l1 (.cons (Le.a (l4 (l2 (l1 (.cons (Le.nil) .nil))))) .nil)) ?_;refine ⟨_,rfl,_,rfl,?_⟩;refine sg ?_;have ⟨x3,aF,h⟩:=η h;refine ⟨_,rfl,?_⟩;refine Θ.call (ua aF) (l1 (.cons (Le.a (l4 (l2 (l1 (.cons (Le.nil) .nil))))) .nil)) ?_;refine ⟨_,rfl,_,rfl,?_⟩;refine sg ?_;have ⟨x4,aV,h⟩:=η h;refine ⟨_,rfl,?_⟩;refine Θ.call (ua aV) (l1 (.cons (Le.a (l4 (l2 (l1 (.cons (Le.nil) .nil))))) .nil)) ?_;refine ⟨_,rfl,_,rfl,?_⟩;refine wT [(1,.b 1 0),(2,.b 2 0),(3,.b 3 0),(4,.b 4 0)] [(1,.box (b2 x4.1)),(2,.box (kb x2.2)),(3,.box (kb x3.2)),(4,.box (kb x4.2))] Q4 J4 rfl ?_;refine sg ?_;have ⟨x5,bJ,h⟩:=η h;refine ⟨_,rfl,?_⟩;refine Θ.call (ua bJ) (l1 (.cons (Le.a (l4 (l2 (l1 (.cons (Le.nil) .nil))))) .nil)) ?_;refine ⟨_,rfl,_,rfl,?_⟩;refine sg ?_;have ⟨x6,cK,h⟩:=η h;refine ⟨_,rfl,?_⟩;refine Θ.call (ua cK) (l1 (.cons (Le.a (l4 (l2 (l1 (.cons (Le.nil) .nil))))) .nil)) ?_;refine ⟨_,rfl,_,rfl,?_⟩;refine wT [(2,.b 2 0),(3,.b 3 0),(4,.b 4 0),(6,.b 6 0),(8,.b 8 0)] [(2,.box (kb x2.2)),(3,.box (kb x3.2)),(4,.box (kb x4.2)),(6,.box (kb x5.2)),(8,.box (kb x6.2))] Q5 ⟨hr,J4⟩ rfl ?_;refine sg ?_;have ⟨x7,cP,h⟩:=η h;refine Θ.call (aeJ cP) (.cons (Le.a (l4 (l2 (l1 (.cons (Le.nil) .nil))))) .nil) ?_;have ⟨x8,ew,h⟩:=η h;refine Θ.call (aeL ew) lz ?_;refine ⟨_,rfl,?_⟩;refine sq (sg ?_);refine ⟨_,rfl,_,au _,fun _=>?_⟩
 refine ct h (fun hb h=>?_) fun hb h=>?_
 ·refine sg (rt ?_);cases h;exact Fz.v
 refine sk ?_;have ⟨v1,ν,h⟩:=η h;refine Ok.aB ⟨Γ [(0,vb v1)],[]⟩ ?_ ?_
 ·refine rg ⟨_,rfl,?_⟩;have ⟨c1,ξ,ν⟩:=η ν;refine Br.ite ξ (fun hb ξ=>?_) fun hb ξ=>?_
  ·refine ⟨_,rfl,?_⟩;cases ξ;have ⟨c2,ax,ν⟩:=η ν;refine Br.ite ax (fun hb ax=>?_) fun hb ax=>?_
   ·refine ⟨_,rfl,?_⟩;cases ax;have ⟨c3,aL,ν⟩:=η ν;refine Br.ite aL (fun hb aL=>?_) fun hb aL=>?_
    ·have ⟨x9,fi,aL⟩:=η aL;refine ⟨_,rfl,_,aI fi,_,aK fi,_,rfl,_,lL _ _,?_⟩;cases aL;have ⟨c4,bI,ν⟩:=η ν;refine Br.ite bI (fun hb bI=>?_) fun hb bI=>?_
     ·refine ⟨_,rfl,?_⟩;cases bI;have ⟨c5,bZ,ν⟩:=η ν;refine Br.ite bZ (fun hb bZ=>?_) fun hb bZ=>?_
      ·refine ⟨_,rfl,_,lL _ _,?_⟩;cases bZ;have ⟨c6,cI,ν⟩:=η ν;refine Br.ite cI (fun hb cI=>?_) fun hb cI=>?_
       ·cases cI;cases ν;exact wt Q1 Q0 rfl
       cases cI;cases ν;exact wt Q1 Q0 rfl
      cases bZ;have ⟨c6,cQ,ν⟩:=η ν;replace cQ:=c9 cQ;cases cQ;cases ν;exact wt Q1 Q0 rfl
     cases bI;have ⟨c5,dq,ν⟩:=η ν;replace dq:=c9 dq;cases dq;have ⟨c6,dE,ν⟩:=η ν;replace dE:=c9 dE;cases dE;cases ν;exact wt Q1 Q0 rfl
    cases aL;have ⟨c4,ep,ν⟩:=η ν;replace ep:=c9 ep;cases ep;have ⟨c5,jh,ν⟩:=η ν;replace jh:=c9 jh;cases jh;have ⟨c6,jS,ν⟩:=η ν;replace jS:=c9 jS;cases jS;cases ν;exact wt Q1 Q0 rfl
   cases ax;have ⟨c3,jv,ν⟩:=η ν;replace jv:=c9 jv;cases jv;have ⟨c4,l7,ν⟩:=η ν;replace l7:=c9 l7;cases l7;have ⟨c5,ji,ν⟩:=η ν;replace ji:=c9 ji;cases ji;have ⟨c6,ru,ν⟩:=η ν;replace ru:=c9 ru;cases ru;cases ν;exact wt Q1 Q0 rfl
  cases ξ;have ⟨c2,uZ,ν⟩:=η ν;replace uZ:=c9 uZ;cases uZ;have ⟨c3,u_,ν⟩:=η ν;replace u_:=c9 u_;cases u_;have ⟨c4,vd,ν⟩:=η ν;replace vd:=c9 vd;cases vd;have ⟨c5,oD,ν⟩:=η ν;replace oD:=c9 oD;cases oD;have ⟨c6,ve,ν⟩:=η ν;replace ve:=c9 ve;cases ve;cases ν;exact wt Q1 Q0 rfl
 refine rt ?_;cases h;exact Fz.v
def afM [mP] {r} (h:M7=some r):Pure prog 8 [] (vb r):=afL (K:=Sk) h
def aeE {c r} (h:Ey c=some r):Pure prog 21 [.a (j_ c)] (vb r):=by
 refine pq tok 19 func21 ?_;unfold Ey at h;refine sg ?_;have ⟨v1,ν,h⟩:=η h;refine Ok.aB ⟨Γ [(2,vb v1)],[]⟩ ?_ ?_
 ·refine rg ⟨_,rfl,_,au _,fun _=>?_⟩;have ⟨c1,ξ,ν⟩:=η ν;refine Br.cO ξ (fun hb ξ=>?_) fun hb ξ=>?_
  ·cases ξ;have ⟨c2,ax,ν⟩:=η ν;replace ax:=fu ax;cases ax;cases ν;exact wt Q1 Q0 rfl
  refine ⟨_,rfl,_,j1 _,?_⟩;cases ξ;have ⟨c2,aL,ν⟩:=η ν;refine Br.cO aL (fun hb aL=>?_) fun hb aL=>?_
  ·cases aL;cases ν;exact wt Q1 Q0 rfl
  refine ⟨_,rfl,_,j1 _,?_⟩;cases aL;cases ν;exact wt Q1 Q0 rfl
 refine rt ?_;cases h;exact Fz.v
def aeD {a r} (h:A9 a=some r):Pure prog 9 [.s (mK a)] (vb r):=by
 refine pq tok 18 func9 ?_;unfold A9 at h;refine sg (sq (sg ?_));refine ⟨_,au _,fun _=>?_⟩;refine ct h (fun hb h=>?_) fun hb h=>?_
 ·refine sg (rt ?_);cases h;exact Fz.v
 refine sk (Ok.cU (fun v1=>⟨Γ [],[]⟩) (fun v1=>Kn v1=some r) ?_ ?_)
 ·refine sg (bl (Ok.loop (fun (s1:Int)=>⟨Γ [(0,.s (mK a)),(3,vi s1)],[]⟩) (Ex a) (s0:=0) h (wt Q2 Q0 rfl) ?_));intro s1 y1 ζ az;unfold Ex at ζ;refine sq (sg ?_);refine ⟨_,au _,fun _=>?_⟩;refine ct ζ (fun hb ζ=>?_) fun hb ζ=>?_
  ·refine sk (sq (bl (sg ?_)));have ⟨x1,θ,ζ⟩:=η ζ;have ⟨x2,aq,ζ⟩:=η ζ;refine ⟨_,aI θ,_,aK θ,_,rfl,?_⟩;refine Θ.call (aeE aq) lz ?_;refine ct ζ (fun hb ζ=>?_) fun hb ζ=>?_
   ·refine sg (rt ?_);have ζ:=aN ζ az;cases ζ;exact Fz.v
   refine sk (rg ?_);have ⟨ah,ζ⟩:=ak ζ;refine (af ⟨ah,?_⟩);exact ⟨_,sj ζ,wt Q2 Q0 rfl⟩
  refine xt ?_;have ζ:=aN ζ az;exact ⟨_,ζ,wt Q0 Q0 rfl⟩
 intro v1 h;unfold Kn at h;refine sg (rt ?_);cases h;exact Fz.v
def aeY {r} (h:Fa=some r):Pure prog 47 [] (.a (b0 r)):=by
 refine pq tok 4 func47 ?_;unfold Fa at h;refine sg (sg (af ⟨_,rfl,?_⟩));refine rt ?_;cases h;exact ⟨_,rfl,Fz.cq rfl⟩
def afe {c r} (h:Fw c=some r):Pure prog 46 [.a (b0 c)] (.a (b1 r)):=by
 refine pq tok 9 func46 ?_;unfold Fw at h;refine sg (sq (dw 6 tok mixed ?_));have ⟨ah,h⟩:=ak h;refine ⟨_,⟨_,rfl,rfl⟩,_,rfl,_,⟨_,rfl,rfl⟩,_,⟨_,au _,fun _=>rfl⟩,_,⟨_,_,tz ah,tz ah,bm _,mk_le (by decide) ah,ah.2,_,(List.map_replicate (f:=Go.Cat.encI) (a:=(0:Int))).symm,rfl⟩,_,rfl,Q0,_,rfl,?_⟩;refine rt ?_;cases h;exact ⟨_,rfl,Fz.a (.cons Fz.s (.cons Fz.v (.cons Fz.v (.cons Fz.v (.cons Fz.s (.cons Fz.nil (.cons Fz.nil fq)))))))⟩
def afk {r} (h:B6=some r):Pure prog 22 [] (.a (b2 r)):=by
 refine pq tok 4 func22 ?_;unfold B6 at h;refine sg (sg ?_);have ⟨x1,θ,h⟩:=η h;refine Θ.call (aeY θ) lz ?_;have ⟨x2,aq,h⟩:=η h;refine Θ.call (afe aq) lz ?_;refine ⟨_,rfl,?_⟩;refine rt ?_;cases h;exact ⟨_,rfl,Fz.a (.cons Fz.s (.cons Fz.v (.cons Fz.v (.cons Fz.v (.cons Fz.s (.cons Fz.s (.cons Fz.s (.cons Fz.v (.cons Fz.nil (.cons Fz.nil .nil))))))))))⟩
def jr {c r} (h:fJ c=some r):Pure prog 48 [vi c] (.a (kb r)):=by
 refine pq tok 5 func48 ?_;unfold fJ at h;refine sg (sg ⟨_,rfl,?_⟩);refine rt ?_;cases h;exact ⟨_,rfl,Fz.a (.cons Fz.v (.cons Fz.v (.cons Fz.v (.cons Fz.v (.cons Fz.v (.cons Fz.nil (.cons Fz.nil .nil)))))))⟩
def GJ {a r} (h:tJ a=some r):Pure prog 109 [vs a] (vb r):=by
 refine pq tok 36 func109 ?_;unfold tJ at h;refine sg (sq ?_);have ⟨v1,ν,h⟩:=η h;refine Ok.aB ⟨Γ [(0,vs a),(19,vb v1)],[]⟩ ?_ ?_
 ·refine rg ⟨_,j1 _,?_⟩;have ⟨c1,ξ,ν⟩:=η ν;refine Br.cO ξ (fun hb ξ=>?_) fun hb ξ=>?_
  ·cases ξ;have ⟨c2,ax,ν⟩:=η ν;replace ax:=fu ax;cases ax;have ⟨c3,aL,ν⟩:=η ν;replace aL:=fu aL;cases aL;cases ν;exact wt Q2 Q0 rfl
  refine ⟨_,j1 _,?_⟩;cases ξ;have ⟨c2,bI,ν⟩:=η ν;refine Br.cO bI (fun hb bI=>?_) fun hb bI=>?_
  ·cases bI;have ⟨c3,bZ,ν⟩:=η ν;replace bZ:=fu bZ;cases bZ;cases ν;exact wt Q2 Q0 rfl
  refine ⟨_,lL _ _,?_⟩;cases bI;have ⟨c3,cI,ν⟩:=η ν;refine Br.cO cI (fun hb cI=>?_) fun hb cI=>?_
  ·cases cI;cases ν;exact wt Q2 Q0 rfl
  refine ⟨_,lL _ _,?_⟩;cases cI;cases ν;exact wt Q2 Q0 rfl
 refine ct h (fun hb h=>?_) fun hb h=>?_
 ·refine sg (rt ?_);cases h;exact Fz.v
 refine sk (Ok.cU (fun v2=>⟨Γ [],[]⟩) (fun v2=>Lk v2=some r) ?_ ?_)
 ·refine sg (bl (Ok.loop (fun (s1:Int)=>⟨Γ [(0,vs a),(3,vi s1)],[]⟩) (yD a) (s0:=0) h (wt Q2 Q0 rfl) ?_));intro s1 y1 ζ az;unfold yD at ζ;refine sq (sg ?_);refine ⟨_,j1 _,?_⟩;refine ct ζ (fun hb ζ=>?_) fun hb ζ=>?_
  ·refine sk (sq (bl ?_));have ⟨v3,aA,ζ⟩:=η ζ;refine Ok.aB ⟨Γ [(0,vs a),(3,vi s1),(35,vb v3)],[]⟩ ?_ ?_
   ·refine rg ?_;have ⟨x1,θ,aA⟩:=η aA;refine ⟨_,aI θ,_,ym θ,?_⟩;have ⟨c4,cQ,aA⟩:=η aA;refine Br.cO cQ (fun hb cQ=>?_) fun hb cQ=>?_
    ·cases cQ;cases aA;exact wt Q3 Q0 rfl
    have ⟨x2,aq,cQ⟩:=η cQ;refine ⟨_,aI aq,_,ym aq,?_⟩;cases cQ;cases aA;exact wt Q3 Q0 rfl
   refine ct ζ (fun hb ζ=>?_) fun hb ζ=>?_
   ·refine sg (rt ?_);have ζ:=aN ζ az;cases ζ;exact Fz.v
   refine sk (rg ?_);have ⟨ah,ζ⟩:=ak ζ;refine (af ⟨ah,?_⟩);exact ⟨_,sj ζ,wt Q2 Q0 rfl⟩
  refine xt ?_;have ζ:=aN ζ az;exact ⟨_,ζ,wt Q0 Q0 rfl⟩
 intro v2 h;unfold Lk at h;refine sg (rt ?_);cases h;exact Fz.v
def GK {a r} (h:tK a=some r):Pure prog 56 [vs a] (.t [.s (mG r.1),vi r.2]):=by
 refine pq tok 55 func56 ?_;unfold tK at h;refine sg (sg (fp ?_));refine sq (sg ?_);refine ⟨_,lL _ _,?_⟩;refine ct h (fun hb h=>?_) fun hb h=>?_
 ·refine sg (rt ?_);cases h;exact (Fz.t (.cons (Fz.o rfl) fq))
 refine sk (sq ?_);have ⟨v1,ν,h⟩:=η h;refine Ok.aB ⟨Γ [(0,vs a),(4,.o 7),(17,vb v1)],[(7,.own 9 1 (mG ([]:List (List UInt8))))]⟩ ?_ ?_
 ·refine rg ⟨_,lL _ _,?_⟩;have ⟨c1,ξ,ν⟩:=η ν;refine Br.cO ξ (fun hb ξ=>?_) fun hb ξ=>?_
  ·cases ξ;cases ν;exact wt Q3 J1 rfl
  have ⟨x1,θ,ξ⟩:=η ξ;refine ⟨_,aI θ,_,ym θ,?_⟩;cases ξ;cases ν;exact wt Q3 J1 rfl
 refine ct h (fun hb h=>?_) fun hb h=>?_
 ·refine sg (rt ?_);cases h;exact (Fz.t (.cons Fz.nil fq))
 refine sk (sg ?_);refine Ok.cU (fun v2=>⟨Γ [(4,.o 7)],[(7,.own 9 1 (mG v2))]⟩) (fun v2=>Ll v2=some r) ?_ ?_
 ·refine sg (bl (Ok.loop (fun (s1:pQ)=>⟨Γ [(0,vs a),(4,.o 7),(5,vi s1.1),(6,vi s1.2.1)],[(7,.own 9 1 (mG s1.2.2))]⟩) (E8 a) (s0:=(1,1,([]:List (List UInt8)))) h (wt Q4 ⟨hr,Q0⟩ rfl) ?_));intro s1 y1 ζ az;unfold E8 at ζ;refine sq (sg ?_);refine ⟨_,j1 _,?_⟩;refine ct ζ (fun hb ζ=>?_) fun hb ζ=>?_
  ·refine sk (Ok.cU (fun v3=>⟨Γ [(0,vs a),(4,.o 7),(5,vi v3.1),(6,vi s1.2.1)],[(7,.own 9 1 (mG v3.2))]⟩) (fun v3=>yE s1 v3=some y1) ?_ ?_)
   ·refine bl (sq ?_);have ⟨v4,aO,ζ⟩:=η ζ;refine Ok.aB ⟨Γ [(0,vs a),(4,.o 7),(5,vi s1.1),(6,vi s1.2.1),(33,vb v4)],[(7,.own 9 1 (mG s1.2.2))]⟩ ?_ ?_
    ·refine rg ⟨_,j1 _,?_⟩;have ⟨c2,ax,aO⟩:=η aO;refine Br.ite ax (fun hb ax=>?_) fun hb ax=>?_
     ·have ⟨x2,aq,ax⟩:=η ax;refine ⟨_,aI aq,_,ym aq,?_⟩;cases ax;cases aO;exact wt Q5 J1 rfl
     cases ax;cases aO;exact wt Q5 J1 rfl
    refine ct ζ (fun hb ζ=>?_) fun hb ζ=>?_
    ·refine xt ?_;exact ⟨_,ζ,wt Q4 ⟨hr,Q0⟩ rfl⟩
    refine sk (sq ?_);have ⟨v5,bg,ζ⟩:=η ζ;refine Ok.aB ⟨Γ [(0,vs a),(4,.o 7),(5,vi s1.1),(6,vi s1.2.1),(44,vb v5)],[(7,.own 9 1 (mG s1.2.2))]⟩ ?_ ?_
    ·refine rg ?_;have ⟨ah,bg⟩:=ak bg;have ⟨x3,aF,bg⟩:=η bg;refine ⟨_,fK ah.1,_,fK (wK ah),za ah,zb ah,_,zd ah,?_⟩;refine Θ.call (GJ aF) lz ?_;have ⟨c3,aL,bg⟩:=η bg;refine Br.cO aL (fun hb aL=>?_) fun hb aL=>?_
     ·cases aL;cases bg;exact wt Q5 J1 rfl
     refine ⟨_,au _,fun _=>?_⟩;cases aL;cases bg;exact wt Q5 J1 rfl
    refine ct ζ (fun hb ζ=>?_) fun hb ζ=>?_
    ·refine sg (rt ?_);have ζ:=aN ζ az;cases ζ;exact (Fz.t (.cons Fz.nil fq))
    refine sk (sg ?_);have ⟨aQ,ζ⟩:=ak ζ;have ⟨bN,ζ⟩:=ak ζ;refine ⟨_,fK aQ.1,_,fK (wK aQ),za aQ,zb aQ,_,zd aQ,af ⟨cL (f:=eA) (n:=1) (fun _=>rfl) ([sub a s1.1 s1.2.1]),cJ (f:=eA) (l:=s1.2.2) (l':=[sub a s1.1 s1.2.1]) bN,_,(bP (f:=eA) (l₁:=s1.2.2) (l₂:=[sub a s1.1 s1.2.1])).symm,?_⟩⟩;refine rg ?_;have ⟨c8,ζ⟩:=ak ζ;refine (af ⟨c8,?_⟩);exact ⟨_,ζ,wt Q4 ⟨hr,Q0⟩ rfl⟩
   intro v3 ζ;unfold yE at ζ;refine rg ?_;have ⟨eJ,ζ⟩:=ak ζ;refine (af ⟨eJ,?_⟩);exact ⟨_,sj ζ,wt Q4 J1 rfl⟩
  refine xt ?_;have ζ:=aN ζ az;exact ⟨_,ζ,wt Q1 ⟨hr,Q0⟩ rfl⟩
 intro v2 h;unfold Ll at h;refine sg (rt ?_);cases h;exact (Fz.t (.cons (Fz.o rfl) fq))
def ae5 {c d r} (h:BJ c d=some r):Pure prog 153 [.a (b0 c),vi d] (vi r):=by
 refine pq tok 22 func153 ?_;unfold BJ at h;refine sg (Ok.cU (fun v1=>⟨Γ [],[]⟩) (fun v1=>Lt v1=some r) ?_ ?_)
 ·refine sg (bl (Ok.loop (fun (s1:Int)=>⟨Γ [(1,vi d),(2,.b 2 0),(5,vi s1)],[(2,.box (b0 c))]⟩) (yK c d) (s0:=0) h (wt Q3 ⟨hr,Q0⟩ rfl) ?_));intro s1 y1 ζ az;unfold yK at ζ;refine sq (sg ?_);refine ⟨_,rfl,_,au _,fun _=>?_⟩;refine ct ζ (fun hb ζ=>?_) fun hb ζ=>?_
  ·refine sk (sq (bl (sg ?_)));have ⟨x1,θ,ζ⟩:=η ζ;refine ⟨_,rfl,_,aI θ,_,aK θ,_,rfl,?_⟩;refine ct ζ (fun hb ζ=>?_) fun hb ζ=>?_
   ·refine sg (rt ?_);have ζ:=aN ζ az;cases ζ;exact Fz.v
   refine sk (rg ?_);have ⟨ah,ζ⟩:=ak ζ;refine (af ⟨ah,?_⟩);exact ⟨_,sj ζ,wt Q3 J1 rfl⟩
  refine xt ?_;have ζ:=aN ζ az;exact ⟨_,ζ,wt Q0 Q0 rfl⟩
 intro v1 h;unfold Lt at h;refine sg (rt ?_);cases h;exact Fz.v
def g_ {c d r} (h:fU c d=some r):Pure prog 97 [.a (b0 c),vi d] (.t [.a (b4 r.1),vb r.2]):=by
 refine pq tok 18 func97 ?_;unfold fU at h;refine sg (sg ?_);have ⟨x1,θ,h⟩:=η h;refine ⟨_,rfl,?_⟩;refine Θ.call (ae5 θ) lz ?_;refine sq (sg ?_);refine ct h (fun hb h=>?_) fun hb h=>?_
 ·refine sg ⟨_,rfl,?_⟩;refine rt ?_;cases h;exact ⟨_,rfl,Fz.t (.cons (Fz.a (.cons Fz.v (.cons Fz.v (.cons Fz.v (.cons Fz.nil (.cons Fz.nil fq)))))) fq)⟩
 refine sk (sg ?_);have ⟨x2,aq,h⟩:=η h;refine ⟨_,rfl,_,aI aq,_,aK aq,_,rfl,_,rfl,?_⟩;refine rt ?_;cases h;exact ⟨_,rfl,Fz.t fq⟩
def GN {c d r} (h:tQ c d=some r):Pure prog 147 [.a (b0 c),vi d] (.t [.a (b4 r.1),vi r.2]):=by
 refine pq tok 22 func147 ?_;unfold tQ at h;refine sg (sg ?_);have ⟨x1,θ,h⟩:=η h;refine ⟨_,rfl,?_⟩;refine Θ.call (g_ θ) lz ?_;refine ⟨_,rfl,?_⟩;refine sq (sg ?_);refine ct h (fun hb h=>?_) fun hb h=>?_
 ·refine sg ⟨_,rfl,?_⟩;refine rt ?_;cases h;exact ⟨_,rfl,Fz.t (.cons (Fz.a (.cons Fz.v (.cons Fz.v (.cons Fz.v (.cons Fz.nil (.cons Fz.nil fq)))))) fq)⟩
 refine sk (sq (sg ?_));refine ⟨_,rfl,?_⟩;refine ct h (fun hb h=>?_) fun hb h=>?_
 ·refine sg ⟨_,rfl,?_⟩;refine rt ?_;cases h;exact ⟨_,rfl,Fz.t (.cons (Fz.a (.cons Fz.v (.cons Fz.v (.cons Fz.v (.cons Fz.nil (.cons Fz.nil fq)))))) fq)⟩
 refine sk (sg ?_);refine ⟨_,rfl,_,rfl,?_⟩;refine rt ?_;cases h;exact ⟨_,rfl,Fz.t fq⟩
def NI {c d r} (h:wj c d=some r):Pure prog 148 [.a (b4 c),vs d] (vi r):=by
 refine pq tok 22 func148 ?_;unfold wj at h;refine sg (Ok.cU (fun v1=>⟨Γ [],[]⟩) (fun v1=>Lq v1=some r) ?_ ?_)
 ·refine sg (bl (Ok.loop (fun (s1:Int)=>⟨Γ [(1,vs d),(2,.b 2 0),(5,vi s1)],[(2,.box (b4 c))]⟩) (yJ c d) (s0:=0) h (wt Q3 ⟨hr,Q0⟩ rfl) ?_));intro s1 y1 ζ az;unfold yJ at ζ;refine sq (sg ?_);refine ⟨_,rfl,_,au _,fun _=>?_⟩;refine ct ζ (fun hb ζ=>?_) fun hb ζ=>?_
  ·refine sk (sq (bl (sg ?_)));have ⟨x1,θ,ζ⟩:=η ζ;refine ⟨_,rfl,_,aI θ,_,aK θ,_,rfl,_,lL _ _,?_⟩;refine ct ζ (fun hb ζ=>?_) fun hb ζ=>?_
   ·refine sg (rt ?_);have ζ:=aN ζ az;cases ζ;exact Fz.v
   refine sk (rg ?_);have ⟨ah,ζ⟩:=ak ζ;refine (af ⟨ah,?_⟩);exact ⟨_,sj ζ,wt Q3 J1 rfl⟩
  refine xt ?_;have ζ:=aN ζ az;exact ⟨_,ζ,wt Q0 Q0 rfl⟩
 intro v1 h;unfold Lq at h;refine sg (rt ?_);cases h;exact Fz.v
end Go.Proofs
