/- The walks of this seat beside the plain programs, part 1. No condition. -/
import Derived.Test.YtdcgbodbejgliaaGreatDoorXTopClientsHb
import Derived.Test.YtdcgbodbejgliaaGreatDoorXTopClientsWk0
open List renaming length_map → az, map → aT, map_append → fu, map_eq_nil_iff → Df
open Nat renaming lt_of_le_of_lt → gx
open Or renaming inl → θ
namespace Go.Proofs
set_option linter.all false
open Go Go.Cat Tryz
variable [M:bM]
set_option maxRecDepth 100000
set_option maxHeartbeats 4000000
def QJ {a r} (h:z_ a=some r):iZ prog 231 [.s (mI a)] 44 6 (mI r):=by
 refine pv tok 8 func231 ?_;unfold z_ at h;refine sg (sq (sg ?_));intro b1 cO;have h:=xS h b1 (fun e=>Df.1 (cO e));refine ct h (fun hb h=>?_) fun hb h=>?_
 ·refine sg (rt ?_);cases h;exact (.inl ⟨rfl,rfl⟩)
 refine sk (sg ?_);have ⟨ax,h⟩:=aG h;refine Or.inr ⟨hZ (f:=dh) (n:=6) (fun _=>rfl) a,iy (f:=dh) (l:=([]:List τ)) (l':=a) ax,_,(fu (f:=dh) (l₁:=([]:List τ)) (l₂:=a)).symm,?_⟩;refine rt ?_;cases h;exact (.inr ⟨_,rfl,rfl⟩)
def GN {d e r} (h:vr d e=some r):af prog 167 [.b 1000 0,.a (b4 d)] ⟨aF,[(1000,.box (b5 e))]⟩ fun x s=>x=(.t [])∧s.H=[(1000,.box [.o 19,vi r.1,vi r.2.1]),(19,.own 44 6 (mI r.2.2))]:=by
 refine pg tok 45 func167 ?_;unfold vr at h;refine sg (sg ?_);have ⟨x1,Ξ,h⟩:=κ h;refine ⟨_,rfl,?_⟩;refine af.eB (id:=1000) (KV Ξ) rfl (.box lz) rfl (.cons (Lr.b) (.cons (Lr.dG rfl) .nil)) ?_;rintro _ _ ⟨rfl,rfl⟩;refine sg ?_;have ⟨x2,au,h⟩:=κ h;refine ⟨_,rfl,?_⟩;refine af.own (D:=19) (QJ au) lz rfl ?_;refine ⟨_,rfl,?_⟩;refine sq (sg ?_);refine ct h (fun hb h=>?_) fun hb h=>?_
 ·refine sq (dw 8 tok mixed ?_);have ⟨x3,aM,h⟩:=κ h;refine ⟨_,rfl,_,rfl,_,rfl,_,rfl,_,⟨_,rfl,rfl⟩,_,rfl,_,⟨_,rfl,rfl⟩,_,⟨_,bK aM,wN aM,rfl⟩,Q0,_,bL aM,rfl,_,rfl,_,FM (f:=dh) (x:=d),?_⟩;refine rt ?_;cases h;exact wt Q1 J2 rfl
 refine sk (Ok.nu (E:=bh) (chain:=[(9,[0,10,11,12]),(13,[])]) tok mixed (by kernel_rfl) ?_);have ⟨ax,h⟩:=aG h;refine ⟨_,rfl,_,rfl,_,rfl,_,rfl,_,rfl,_,⟨_,rfl,rfl⟩,_,rfl,_,⟨_,rfl,rfl⟩,_,rfl,_,rfl,_,rfl,_,rfl,?_⟩;refine θ (cg [(1000,19)] [(900,19)] (U6 x2 x1.1.1 ([d]) ax) (.cons (Ln.o rfl) nq) ⟨⟨19,_,rfl,rfl,.refl rfl⟩,Q0⟩ ?_);refine ⟨⟨⟨_,rfl,rfl⟩,⟨_,rfl,rfl⟩,⟨_,rfl,rfl⟩,⟨_,rfl,rfl⟩,Q0⟩,θ (⟨_,rfl,Q0,?_⟩)⟩;cases h;exact wt Q1 J2 rfl
def KY {a r} (h:xa a=some r):iZ prog 190 [.s (mF a)] 138 3 (mF r):=by
 refine pv tok 8 func190 ?_;unfold xa at h;refine sg (sq (sg ?_));intro b1 cO;have h:=xS h b1 (fun e=>Df.1 (cO e));refine ct h (fun hb h=>?_) fun hb h=>?_
 ·refine sg (rt ?_);cases h;exact (.inl ⟨rfl,rfl⟩)
 refine sk (sg ?_);have ⟨ax,h⟩:=aG h;refine Or.inr ⟨hZ (f:=j7) (n:=3) (fun _=>rfl) a,iy (f:=j7) (l:=([]:List aO)) (l':=a) ax,_,(fu (f:=j7) (l₁:=([]:List aO)) (l₂:=a)).symm,?_⟩;refine rt ?_;cases h;exact (.inr ⟨_,rfl,rfl⟩)
def QH {d e g i j k l r} (h:CS d e g i j k l=some r):af prog 167 [.b 1000 0,.a [vi d,vi e,vi g,.s (mU i),.o 1001,vi j]] ⟨aF,[(1000,.box (b5 k)),(1001,.own 138 3 (mF l))]⟩ fun x s=>x=(.t [])∧s.H=[(1000,.box [.o 19,vi r.1,vi r.2.1]),(19,.own 44 6 (mI r.2.2))]:=by
 refine pg tok 45 func167 ?_;unfold CS at h;refine sg (sg ?_);have ⟨x1,Ξ,h⟩:=κ h;refine ⟨_,rfl,?_⟩;refine af.eB (id:=1000) (KV Ξ) rfl (.box lz) rfl (.cons (Lr.b) (.cons (Lr.dG rfl) .nil)) ?_;rintro _ _ ⟨rfl,rfl⟩;refine sg ?_;have ⟨x2,au,h⟩:=κ h;refine ⟨_,rfl,?_⟩;refine af.own (D:=19) (QJ au) lz rfl ?_;refine ⟨_,rfl,?_⟩;refine sq (sg ?_);refine ct h (fun hb h=>?_) fun hb h=>?_
 ·refine sq (Ok.wk (Wk.freeze (id:=1001) rfl) ?_);refine dw 8 tok mixed ?_;have ⟨x3,aM,h⟩:=κ h;refine ⟨_,rfl,_,rfl,_,rfl,_,rfl,_,⟨_,rfl,rfl⟩,_,rfl,_,⟨_,rfl,rfl⟩,_,⟨_,bK aM,wN aM,rfl⟩,Q0,_,bL aM,rfl,_,rfl,_,FM (f:=dh) (x:=(⟨d,e,g,i,l,j⟩:τ)),?_⟩;refine rt ?_;cases h;exact wt Q1 J2 rfl
 refine sk (Ok.wk (Wk.freeze (id:=1001) rfl) ?_);refine Ok.nu (E:=bh) (chain:=[(9,[0,10,11,12]),(13,[])]) tok mixed (by kernel_rfl) ?_;have ⟨ax,h⟩:=aG h;refine ⟨_,rfl,_,rfl,_,rfl,_,rfl,_,rfl,_,⟨_,rfl,rfl⟩,_,rfl,_,⟨_,rfl,rfl⟩,_,rfl,_,rfl,_,rfl,_,rfl,?_⟩;refine θ (cg [(1000,19)] [(900,19)] (U6 x2 x1.1.1 ([(⟨d,e,g,i,l,j⟩:τ)]) ax) (.cons (Ln.o rfl) nq) ⟨⟨19,_,rfl,rfl,.refl rfl⟩,Q0⟩ ?_);refine ⟨⟨⟨_,rfl,rfl⟩,⟨_,rfl,rfl⟩,⟨_,rfl,rfl⟩,⟨_,rfl,rfl⟩,Q0⟩,θ (⟨_,rfl,Q0,?_⟩)⟩;cases h;exact wt Q1 J2 rfl
def YN {f d e g i j r} (h:Gs f d e g i j=some r):af prog 168 [.b 1000 0,vi f,vs d,vi e] ⟨aF,[(1000,.box [.o 1001,vi g,vi i]),(1001,.own 44 6 (mI j))]⟩ fun x s=>x=(.t [])∧s.H=[(1000,.box [.o 999,vi r.1,vi r.2.1]),(999,.own 44 6 (mI r.2.2))]:=by
 refine pg tok 51 func168 ?_;unfold Gs at h;refine sq (Ok.wk (Wk.freeze (id:=1001) rfl) ?_);refine rg ?_;have ⟨x1,Ξ,h⟩:=κ h;refine af.eB (id:=1000) (qF Ξ) rfl (.box lz) rfl (.cons (Lr.b) (.cons (Lr.dG rfl) .nil)) ?_;rintro _ _ ⟨rfl,rfl⟩;refine ⟨_,rfl,?_⟩;refine sg ?_;have ⟨x2,au,h⟩:=κ h;refine ⟨_,rfl,?_⟩;refine af.call (C4 au) lz ?_;refine sq (Ok.nu (E:=bh) (chain:=[(2,[3,4,5,6,7,8,9,10,11,12,14]),(13,[14]),(15,[])]) tok mixed (by kernel_rfl) ?_);have ⟨x3,aM,h⟩:=κ h;refine ⟨_,rfl,_,⟨_,rfl,rfl⟩,_,rfl,_,rfl,_,rfl,_,rfl,_,rfl,_,rfl,_,rfl,_,⟨_,rfl,rfl⟩,_,rfl,_,rfl,_,rfl,?_⟩;refine θ (af.own (D:=26) (KY aM) lz rfl ?_);have ⟨ax,h⟩:=aG h;refine ⟨⟨⟨_,rfl,rfl⟩,⟨_,rfl,rfl⟩,⟨_,rfl,rfl⟩,⟨_,rfl,rfl⟩,⟨_,rfl,rfl⟩,⟨_,rfl,rfl⟩,⟨_,rfl,rfl⟩,⟨_,rfl,_,rfl,rfl⟩,⟨_,rfl,rfl⟩,⟨_,rfl,rfl⟩,⟨_,rfl,rfl⟩,Q0⟩,?_⟩;refine θ (cg [(1000,26)] [(900,26)] (U7 x3 x2.1 ([(⟨d,e,x1.2.Tree.aj⟩:aO)]) ax) (.cons (Ln.o rfl) nq) ⟨⟨26,_,rfl,rfl,.refl rfl⟩,Q0⟩ ?_);refine ⟨⟨⟨_,rfl,rfl⟩,Q0⟩,θ (⟨_,rfl,Q0,?_⟩)⟩;refine sg ?_;have ⟨bt,h⟩:=aG h;refine ⟨_,rfl,θ ⟨bt,_,rfl,?_⟩⟩;refine rg ?_;have ⟨x4,bw,h⟩:=κ h;refine ⟨_,rfl,?_⟩;refine cg [(1000,1000),(1001,26)] [(19,999)] (QH bw) (.cons (Ln.b rfl) (.cons (Ln.a (n4 (.cons (Ln.o rfl) nq))) .nil)) ⟨⟨1000,_,rfl,rfl,.box nq⟩,⟨26,_,rfl,rfl,.refl rfl⟩,Q0⟩ ?_;cases h;exact wt Q1 J2 rfl
def YC {c e f d r} (h:CE c e f d=some r):Pure prog 115 [.a (b0 c),vi e,vs f,vi d] (.t [.a (b0 r.1),vi r.2.1,vi r.2.2]):=by
 refine pq tok 83 func115 ?_;unfold CE at h;refine sg (sq ?_);have ⟨v1,ν,h⟩:=κ h;refine Ok.bj ⟨ar [(1,vi e),(2,vs f),(3,vi d),(4,.b 4 0),(8,.b 8 0),(19,vb v1)],[(4,.box (b0 c)),(8,.box (k1 0 0))]⟩ ?_ ?_
 ·refine rg ?_;have ⟨c1,Δ,ν⟩:=κ ν;refine Br.ite Δ (fun hb Δ=>?_) fun hb Δ=>?_
  ·cases Δ;cases ν;exact wt Q6 J2 rfl
  cases Δ;cases ν;exact wt Q6 J2 rfl
 refine ct h (fun hb h=>?_) fun hb h=>?_
 ·refine sg ⟨_,rfl,_,rfl,?_⟩;refine rt ?_;cases h;exact ⟨_,rfl,Fz.t fq⟩
 refine sk (sg ?_);refine ⟨_,rfl,?_⟩;refine sq (sg ?_);have ⟨x1,Ξ,h⟩:=κ h;refine af.eB (id:=23) (YJ Ξ) rfl (.box lz) rfl (.cons (Lr.b) (.cons (Lr.dG rfl) (.cons (Lr.dG rfl) .nil))) ?_;rintro _ _ ⟨rfl,rfl⟩;refine sg (ct h (fun hb h=>?_) fun hb h=>?_)
 ·refine sg ⟨_,rfl,_,rfl,?_⟩;refine rt ?_;cases h;exact ⟨_,rfl,Fz.t fq⟩
 refine sk (sq ?_);have ⟨v2,aw,h⟩:=κ h;refine Ok.bj ⟨ar [(1,vi e),(2,vs f),(3,vi d),(4,.b 4 0),(8,.b 8 0),(11,.b 23 0),(46,vb v2)],[(4,.box (b0 c)),(8,.box (k1 0 0)),(23,.box (b5 x1.2))]⟩ ?_ ?_
 ·refine rg ⟨_,rfl,_,az _,fun _=>?_⟩;have ⟨c2,aI,aw⟩:=κ aw;refine Br.ei aI (fun hb aI=>?_) fun hb aI=>?_
  ·cases aI;cases aw;exact wt Q7 J3 rfl
  refine ⟨_,rfl,?_⟩;cases aI;cases aw;exact wt Q7 J3 rfl
 refine ct h (fun hb h=>?_) fun hb h=>?_
 ·refine sg ⟨_,rfl,_,rfl,?_⟩;refine rt ?_;cases h;exact ⟨_,rfl,Fz.t fq⟩
 refine sk (sg ?_);refine ⟨_,rfl,_,rfl,?_⟩;have ⟨v3,dF,h⟩:=κ h;refine Ok.bj ⟨ar [(1,vi e),(2,vs f),(8,.b 8 0),(11,.b 23 0),(13,.b 13 0)],[(8,.box (k1 0 0)),(23,.box (b5 x1.2)),(13,.box (k9 x1.2.Tree.Next d 1 v3))]⟩ ?_ ?_
 ·refine sg (ct dF (fun hb dF=>?_) fun hb dF=>?_)
  ·refine rg ⟨_,rfl,?_⟩;cases dF;exact wt Q5 J3 rfl
  refine sk ?_;cases dF;exact wt Q5 J3 rfl
 refine sg ?_;have ⟨ax,h⟩:=aG h;refine ⟨_,rfl,θ ⟨ax,_,rfl,?_⟩⟩;refine sg ?_;have ⟨x2,au,h⟩:=κ h;refine ⟨_,rfl,?_⟩;refine cg [(1000,23)] [(19,999)] (GN au) (.cons (Ln.b rfl) (.cons (Ln.a (n2 (n1 (.cons (Ln.nil) (.cons (Ln.nil) nq))))) .nil)) ⟨⟨23,_,rfl,rfl,.box nq⟩,Q0⟩ ?_;refine sg ?_;have ⟨x3,aM,h⟩:=κ h;refine ⟨_,rfl,?_⟩;refine cg [(1000,23),(1001,999)] [(999,999)] (YN aM) (.cons (Ln.b rfl) nq) ⟨⟨23,_,rfl,rfl,.box (.cons (Ln.o rfl) nq)⟩,⟨999,_,rfl,rfl,.refl rfl⟩,Q0⟩ ?_;refine sq (Ok.q_ (m:=6) (late:=[4,5]) (MD:=⟨[]⟩) (CH:=⟨[]⟩) tok mixed (by kernel_rfl) ?_);refine ⟨_,rfl,_,rfl,_,rfl,_,⟨_,rfl,rfl⟩,_,rfl,_,⟨_,rfl,rfl⟩,Q0,?_⟩;refine ⟨_,rfl,⟨⟨_,rfl,rfl⟩,⟨_,rfl,_,rfl,rfl⟩,Q0⟩,?_⟩;refine rt ?_;cases h;exact ⟨_,rfl,Fz.t (.cons (Fz.a (.cons (Fz.o rfl) fq)) fq)⟩
def Qy {c r} (h:wF c=some r):Pure prog 198 [.a (b4 c)] (vb r):=by
 refine pq tok 11 func198 ?_;unfold wF at h;refine sg ?_;have ⟨v1,ν,h⟩:=κ h;refine Ok.bj ⟨ar [(2,vb v1)],[]⟩ ?_ ?_
 ·refine rg ⟨_,rfl,?_⟩;have ⟨c1,Δ,ν⟩:=κ ν;refine Br.ite Δ (fun hb Δ=>?_) fun hb Δ=>?_
  ·refine ⟨_,rfl,?_⟩;cases Δ;cases ν;exact wt Q1 Q0 rfl
  cases Δ;cases ν;exact wt Q1 Q0 rfl
 refine rt ?_;cases h;exact Fz.v
def akd {c r} (h:BA c=some r):iZ prog 169 [.a (b0 c)] 3 1 (mB r):=by
 refine pv tok 22 func169 ?_;unfold BA at h;refine sg (sg ?_);have ⟨v1,ν,h⟩:=κ h;refine Ok.bj ⟨ar [(3,.o 19)],[(19,.own 3 1 (mB v1))]⟩ ?_ ?_
 ·refine sg ⟨_,rfl,_,az _,fun _=>?_⟩;refine bl (Ok.loop (fun (s1:Int×(List Int))=>⟨ar [(3,.o 19),(7,.s (mI c.η)),(8,vi (c.η.length:Int)),(9,vi s1.1)],[(19,.own 3 1 (mB s1.2))]⟩) (IV c) (s0:=(0,[])) ν ((Wk.BZ (t:=3) (id:=19) (E:=3) (K:=1) rfl rfl).trans (wt Q4 ⟨hr,Q0⟩ rfl)) ?_);intro s1 y1 ζ aQ;unfold IV at ζ;refine sg (sq (ct ζ (fun hb ζ=>?_) fun hb ζ=>?_))
  ·refine sk ?_;have ⟨v2,aw,ζ⟩:=κ ζ;refine Ok.bj ⟨ar [(3,.o 19),(7,.s (mI c.η)),(8,vi (c.η.length:Int)),(9,vi s1.1)],[(19,.own 3 1 (mB v2))]⟩ ?_ ?_
   ·refine bl (sg ?_);have ⟨x1,Ξ,aw⟩:=κ aw;refine ⟨_,bK Ξ,_,bL Ξ,_,rfl,_,rfl,?_⟩;refine sg ?_;have ⟨x2,au,aw⟩:=κ aw;refine ⟨_,rfl,?_⟩;refine af.call (Qy au) lz ?_;refine ct aw (fun hb aw=>?_) fun hb aw=>?_
    ·refine rg ?_;have ⟨ax,aw⟩:=aG aw;refine ⟨_,rfl,θ ⟨hZ (f:=Go.Cat.encI) (n:=1) (fun _=>rfl) ([x1.ι]),iy (f:=Go.Cat.encI) (l:=s1.2) (l':=[x1.ι]) ax,_,(fu (f:=Go.Cat.encI) (l₁:=s1.2) (l₂:=[x1.ι])).symm,?_⟩⟩;cases aw;exact wt Q4 J1 rfl
    refine sk ?_;cases aw;exact wt Q4 J1 rfl
   refine rg ?_;have ⟨bt,ζ⟩:=aG ζ;refine (θ ⟨bt,?_⟩);exact ⟨_,sj ζ,wt Q4 J1 rfl⟩
  refine xt ?_;have ζ:=bz ζ aQ;cases ζ;exact wt Q1 J1 rfl
 refine sg (rt ?_);cases h;exact (.inr ⟨_,rfl,rfl⟩)
def aiC {b r} (h:BA b=some r):Pure prog 169 [.a (b0 b)] (.s (mB r)):=(akd h).pure
def aiw {c d r} (h:D5 c d=some r):Pure prog 171 [.a (b7 c),.p [vi d]] (vb r):=by
 refine pq tok 8 func171 ?_;unfold D5 at h;refine sg (sg ⟨_,rfl,_,rfl,?_⟩);refine rt ?_;cases h;exact Fz.v
def ajk {a b r} (h:P6 a b=some r):Pure prog 201 [.s (mE a),.c (.func 171) [] [.p [vi b]]] (vi r):=by
 refine pq tok 19 func201 ?_;unfold P6 at h;refine sg (Ok.fg (fun v1=>⟨ar [],[]⟩) (fun v1=>P8 v1=some r) ?_ ?_)
 ·refine sg ⟨_,az _,fun _=>?_⟩;refine bl (Ok.loop (fun (s1:Int)=>⟨ar [(0,.s (mE a)),(1,.c (.func 171) [] [.p [vi b]]),(7,vi (a.length:Int)),(8,vi s1)],[]⟩) (P7 a b) (s0:=0) h (wt Q4 Q0 rfl) ?_);intro s1 y1 ζ aQ;unfold P7 at ζ;refine sg (sq (ct ζ (fun hb ζ=>?_) fun hb ζ=>?_))
  ·refine sk (sq (bl (sg ?_)));refine sg ?_;have ⟨x1,Ξ,ζ⟩:=κ ζ;have ⟨x2,au,ζ⟩:=κ ζ;refine ⟨_,bK Ξ,_,bL Ξ,_,rfl,?_⟩;refine af.call (aiw au) lz ?_;refine ct ζ (fun hb ζ=>?_) fun hb ζ=>?_
   ·refine sg (rt ?_);have ζ:=bz ζ aQ;cases ζ;exact Fz.v
   refine sk (rg ?_);have ⟨ax,ζ⟩:=aG ζ;refine (θ ⟨ax,?_⟩);exact ⟨_,sj ζ,wt Q4 Q0 rfl⟩
  refine xt ?_;have ζ:=bz ζ aQ;exact ⟨_,ζ,wt Q0 Q0 rfl⟩
 intro v1 h;unfold P8 at h;refine sg (rt ?_);cases h;exact Fz.v
def aje {a b r} (h:F8 a b=some r):Pure prog 170 [.s (mE a),.c (.func 171) [] [.p [vi b]]] (vb r):=by
 refine pq tok 9 func170 ?_;unfold F8 at h;refine sg (sg ?_);have ⟨x1,Ξ,h⟩:=κ h;refine af.call (ajk Ξ) lz ?_;refine rt ?_;cases h;exact Fz.v
def YM {d a r} (h:CQ d a=some r):af prog 234 [.b 1000 0,vi d] ⟨aF,[(1000,.box (b5 a))]⟩ fun x s=>x=(.t [])∧s.H=[(1000,.box (k0 r.1 r.2.1 r.2.2))]:=by
 refine pg tok 27 func234 ?_;unfold CQ at h;refine sg ?_;have ⟨x1,Ξ,h⟩:=κ h;refine af.eB (id:=1000) (KV Ξ) rfl (.box lz) rfl (.cons (Lr.b) (.cons (Lr.dG rfl) .nil)) ?_;rintro _ _ ⟨rfl,rfl⟩;refine sg (ct h (fun hb h=>?_) fun hb h=>?_)
 ·refine rg ?_;have ⟨x2,au,h⟩:=κ h;refine ⟨_,rfl,?_⟩;refine af.own (D:=19) (QJ au) lz rfl ?_;have ⟨ax,h⟩:=aG h;have ⟨bt,h⟩:=aG h;refine (θ ⟨ax,?_⟩);refine cg [(1000,19)] [(900,19)] (adk x2 x1.1.1 (x1.1.1+1) bt) (.cons (Ln.o rfl) nq) ⟨⟨19,_,rfl,rfl,.refl rfl⟩,Q0⟩ ?_;refine ⟨_,rfl,?_⟩;cases h;exact (Wk.freeze (id:=19) rfl).trans (wt Q1 ⟨hr,Q0⟩ rfl)
 refine sk ?_;cases h;exact wt Q1 J1 rfl
def YD {c d r} (h:Ac c d=some r):Pure prog 172 [.a (b0 c),vi d] (.t [.a (b0 r.1),vi r.2]):=by
 refine pq tok 39 func172 ?_;unfold Ac at h;refine sg (sg ⟨_,rfl,?_⟩);refine sg ?_;have ⟨x1,Ξ,h⟩:=κ h;refine af.eB (id:=11) (qF Ξ) rfl (.box lz) rfl (.cons (Lr.b) (.cons (Lr.dG rfl) .nil)) ?_;rintro _ _ ⟨rfl,rfl⟩;refine ⟨_,rfl,?_⟩;refine sq (bl (sg ?_));refine ct h (fun hb h=>?_) fun hb h=>?_
 ·refine sg ⟨_,rfl,_,rfl,?_⟩;refine rt ?_;cases h;exact ⟨_,rfl,Fz.t fq⟩
 refine sg ⟨_,rfl,?_⟩;refine ct h (fun hb h=>?_) fun hb h=>?_
 ·refine sg ⟨_,rfl,_,rfl,?_⟩;refine rt ?_;cases h;exact ⟨_,rfl,Fz.t fq⟩
 refine sg ⟨_,rfl,?_⟩;refine ct h (fun hb h=>?_) fun hb h=>?_
 ·refine sg ⟨_,rfl,_,rfl,?_⟩;refine rt ?_;cases h;exact ⟨_,rfl,Fz.t fq⟩
 refine sk (sg ?_);have ⟨x2,au,h⟩:=κ h;refine cg [(1000,11)] [] (YM au) (.cons (Ln.b rfl) nq) ⟨⟨11,_,rfl,rfl,.box nq⟩,Q0⟩ ?_;refine sg ⟨_,rfl,_,rfl,?_⟩;refine rt ?_;cases h;exact ⟨_,rfl,Fz.t fq⟩
def KZ {a r} (h:Aa a=some r):iZ prog 174 [.s (mD a)] 86 3 (mD r):=by
 refine pv tok 8 func174 ?_;unfold Aa at h;refine sg (sq (sg ?_));intro b1 cO;have h:=xS h b1 (fun e=>Df.1 (cO e));refine ct h (fun hb h=>?_) fun hb h=>?_
 ·refine sg (rt ?_);cases h;exact (.inl ⟨rfl,rfl⟩)
 refine sk (sg ?_);have ⟨ax,h⟩:=aG h;refine Or.inr ⟨hZ (f:=mL) (n:=3) (fun _=>rfl) a,iy (f:=mL) (l:=([]:List aA)) (l':=a) ax,_,(fu (f:=mL) (l₁:=([]:List aA)) (l₂:=a)).symm,?_⟩;refine rt ?_;cases h;exact (.inr ⟨_,rfl,rfl⟩)
def aix {c d e f r} (h:Mv c d e f=some r):Pure prog 175 [.a (b8 c),.p (k0 d e f)] (vb r):=by
 refine pq tok 15 func175 ?_;unfold Mv at h;refine sg (sg ?_);have ⟨x1,Ξ,h⟩:=κ h;refine ⟨_,rfl,_,rfl,?_⟩;refine af.call (se Ξ) lz ?_;refine ⟨_,rfl,?_⟩;refine sg (rt ?_);cases h;exact Fz.v
def ajm {b a r} (h:Qc b a=some r):Pure prog 235 [.s (mD b),.c (.func 175) [] [.p (b0 a)]] (vi r):=by
 refine pq tok 19 func235 ?_;unfold Qc at h;refine sg (Ok.fg (fun v1=>⟨ar [],[]⟩) (fun v1=>Qe v1=some r) ?_ ?_)
 ·refine sg ⟨_,az _,fun _=>?_⟩;refine bl (Ok.loop (fun (s1:Int)=>⟨ar [(0,.s (mD b)),(1,.c (.func 175) [] [.p (b0 a)]),(7,vi (b.length:Int)),(8,vi s1)],[]⟩) (Qd b a) (s0:=0) h (wt Q4 Q0 rfl) ?_);intro s1 y1 ζ aQ;unfold Qd at ζ;refine sg (sq (ct ζ (fun hb ζ=>?_) fun hb ζ=>?_))
  ·refine sk (sq (bl (sg ?_)));refine sg ?_;have ⟨x1,Ξ,ζ⟩:=κ ζ;have ⟨x2,au,ζ⟩:=κ ζ;refine ⟨_,bK Ξ,_,bL Ξ,_,rfl,?_⟩;refine af.call (aix au) lz ?_;refine ct ζ (fun hb ζ=>?_) fun hb ζ=>?_
   ·refine sg (rt ?_);have ζ:=bz ζ aQ;cases ζ;exact Fz.v
   refine sk (rg ?_);have ⟨ax,ζ⟩:=aG ζ;refine (θ ⟨ax,?_⟩);exact ⟨_,sj ζ,wt Q4 Q0 rfl⟩
  refine xt ?_;have ζ:=bz ζ aQ;exact ⟨_,ζ,wt Q0 Q0 rfl⟩
 intro v1 h;unfold Qe at h;refine sg (rt ?_);cases h;exact Fz.v
def aiy {c d r} (h:D6 c d=some r):Pure prog 175 [.a (b8 c),.p (b0 d)] (vb r):=by
 refine pq tok 15 func175 ?_;unfold D6 at h;refine sg (sg ?_);have ⟨x1,Ξ,h⟩:=κ h;refine ⟨_,rfl,_,rfl,?_⟩;refine af.call (se Ξ) lz ?_;refine ⟨_,rfl,?_⟩;refine sg (rt ?_);cases h;exact Fz.v
def aj8 {g e r} (h:Kt g e=some r):af prog 173 [.o 1000,.c (.func 175) [] [.b 1001 0]] ⟨aF,[(1000,.own 86 3 (mD g)),(1001,.box (b0 e))]⟩ fun x s=>x=(.o 999)∧s.H=[(999,.own 86 3 (mD r)),(1001,.box (b0 e))]:=by
 refine pg tok 42 func173 ?_;unfold Kt at h;refine sg (sg ?_);have ⟨x1,Ξ,h⟩:=κ h;refine af.borrow (ajm Ξ) (.cons (Fz.o rfl) (.cons (Fz.c .nil (.cons (Fz.b rfl rfl) .nil)) .nil)) rfl ?_;refine sq (sg ?_);refine ct h (fun hb h=>?_) fun hb h=>?_
 ·refine sg (rt ?_);cases h;exact (Wk.mv (i:=1000) (d:=999) rfl rfl rfl).trans (wt Q1 ⟨hr,hr,Q0⟩ rfl)
 refine sk ?_;have ⟨v1,ν,h⟩:=κ h;refine Ok.bj ⟨ar [(0,.o 1000),(5,vi v1.1)],[(1000,.own 86 3 (mD v1.2)),(1001,.box (b0 e))]⟩ ?_ ?_
 ·refine sg ?_;have ⟨ax,ν⟩:=aG ν;refine (θ ⟨ax,?_⟩);refine bl (Ok.loop (fun (s1:Int×Int×(List aA))=>⟨ar [(0,.o 1000),(1,.c (.func 175) [] [.b 1001 0]),(5,vi s1.1),(6,vi s1.2.1)],[(1000,.own 86 3 (mD s1.2.2)),(1001,.box (b0 e))]⟩) (PX e) (s0:=(x1,x1+1,g)) ν (wt Q4 ⟨hr,hr,Q0⟩ rfl) ?_);intro s1 y1 ζ aQ;unfold PX at ζ;refine sq (sg ?_);refine ⟨_,az _,fun _=>?_⟩;refine ct ζ (fun hb ζ=>?_) fun hb ζ=>?_
  ·refine sk ?_;have ⟨v2,aw,ζ⟩:=κ ζ;refine Ok.bj ⟨ar [(0,.o 1000),(1,.c (.func 175) [] [.b 1001 0]),(5,vi v2.1),(6,vi s1.2.1)],[(1000,.own 86 3 (mD v2.2)),(1001,.box (b0 e))]⟩ ?_ ?_
   ·refine bl (sg ?_);have ⟨x2,au,aw⟩:=κ aw;refine ⟨_,bK au,wN au,_,bL au,rfl,_,rfl,_,rfl,?_⟩;refine sg ?_;have ⟨x3,aM,aw⟩:=κ aw;refine ⟨_,rfl,?_⟩;refine af.borrow (aiy aM) (.cons (Fz.a fq) (.cons (Fz.b rfl rfl) .nil)) rfl ?_;refine ct aw (fun hb aw=>?_) fun hb aw=>?_
    ·refine sg ?_;have ⟨x4,bw,aw⟩:=κ aw;refine ⟨_,rfl,_,bK bw,wN bw,_,bL bw,rfl,_,rfl,_,FM (f:=mL) (x:=x2),?_⟩;refine rg ?_;have ⟨bt,aw⟩:=aG aw;refine (θ ⟨bt,?_⟩);cases aw;exact wt Q4 J2 rfl
    refine sk ?_;cases aw;exact wt Q4 J2 rfl
   refine rg ?_;have ⟨ep,ζ⟩:=aG ζ;refine (θ ⟨ep,?_⟩);exact ⟨_,sj ζ,wt Q4 J2 rfl⟩
  refine xt ?_;have ζ:=bz ζ aQ;cases ζ;exact wt Q2 J2 rfl
 refine sg ?_;have ⟨kN,h⟩:=aG h;refine ⟨_,lf kN.1,FY kN,_,Sd (f:=mL) (z:=((⟨0,0,0⟩:aA):aA)) v1.2 (v1.1.toNat),?_⟩;refine sq (Ok.wk (Wk.mv (i:=1000) (d:=999) rfl rfl rfl) ?_);refine rg ?_;have ⟨qg,h⟩:=aG h;refine ⟨_,lf qg.1,FY qg,_,(List.map_take (f:=mL)).symm,?_⟩;refine rt ?_;cases h;exact wt Q1 J2 rfl
def Yt {c d r} (h:zP c d=some r):Pure prog 258 [.a (b8 c),vi d] (vi r):=by
 refine pq tok 9 func258 ?_;unfold zP at h;refine sg (sg ?_);have ⟨x1,Ξ,h⟩:=κ h;refine ⟨_,rfl,?_⟩;refine af.call (Am Ξ) lz ?_;refine rt ?_;cases h;exact Fz.v
def ajd {a b r} (h:PU a b=some r):Pure prog 257 [.s (mD a),vi b,.c (.func 258) [] []] (.t [vi r.1,vb r.2]):=by
 refine pq tok 49 func257 ?_;unfold PU at h;refine sg (sg ⟨_,az _,fun _=>?_⟩);refine sg ?_;have ⟨v1,ν,h⟩:=κ h;refine Ok.bj ⟨ar [(0,.s (mD a)),(1,vi b),(2,.c (.func 258) [] []),(8,vi (a.length:Int)),(9,vi v1)],[]⟩ ?_ ?_
 ·refine bl (Ok.loop (fun (s1:Int×Int)=>⟨ar [(0,.s (mD a)),(1,vi b),(2,.c (.func 258) [] []),(8,vi (a.length:Int)),(9,vi s1.1),(10,vi s1.2)],[]⟩) (PV a b) (s0:=(0,(a.length:Int))) ν (wt Q6 Q0 rfl) ?_);intro s1 y1 ζ aQ;unfold PV at ζ;refine sq (sg ?_);refine ct ζ (fun hb ζ=>?_) fun hb ζ=>?_
  ·refine sk (bl (sg ?_));have ⟨ax,ζ⟩:=aG ζ;refine (θ ⟨ax,_,rfl,(by decide),_,rfl,_,rfl,?_⟩);refine sg ?_;have ⟨x1,Ξ,ζ⟩:=κ ζ;have ⟨x2,au,ζ⟩:=κ ζ;refine ⟨_,bK Ξ,_,bL Ξ,_,rfl,?_⟩;refine af.call (Yt au) lz ?_;refine ct ζ (fun hb ζ=>?_) fun hb ζ=>?_
   ·refine rg ?_;have ⟨bt,ζ⟩:=aG ζ;refine (θ ⟨bt,?_⟩);exact ⟨_,sj ζ,wt Q6 Q0 rfl⟩
   refine rg ?_;exact ⟨_,sj ζ,wt Q6 Q0 rfl⟩
  refine xt ?_;have ζ:=bz ζ aQ;cases ζ;exact wt Q5 Q0 rfl
 have ⟨v2,aw,h⟩:=κ h;refine Ok.bj ⟨ar [(6,vi v1),(7,vb v2)],[]⟩ ?_ ?_
 ·refine rg ?_;have ⟨c1,Δ,aw⟩:=κ aw;refine Br.ite Δ (fun hb Δ=>?_) fun hb Δ=>?_
  ·have ⟨x3,aM,Δ⟩:=κ Δ;have ⟨x4,bw,Δ⟩:=κ Δ;refine ⟨_,bK aM,_,bL aM,_,rfl,?_⟩;refine af.call (Yt bw) lz ?_;cases Δ;cases aw;exact wt Q2 Q0 rfl
  cases Δ;cases aw;exact wt Q2 Q0 rfl
 refine rt ?_;cases h;exact (Fz.t fq)
def Ys {a b r} (h:B_ a b=some r):Pure prog 211 [.s (mD a),vi b] (.t [vi r.1,vb r.2]):=by
 refine pq tok 11 func211 ?_;unfold B_ at h;refine sg (sg ?_);have ⟨x1,Ξ,h⟩:=κ h;refine af.call (ajd Ξ) lz ?_;refine rt ?_;cases h;exact (Fz.t fq)
def aj0 {d a e r} (h:B8 d a e=some r):af prog 277 [vi d,.b 1000 0,.b 1001 0] ⟨aF,[(1000,.box [.s (mD a)]),(1001,.box [vi e])]⟩ fun x s=>x=(vb r.1)∧s.H=[(1000,.box [.s (mD a)]),(1001,.box [vi r.2])]:=by
 refine pg tok 17 func277 ?_;unfold B8 at h;refine sg ?_;have ⟨v1,ν,h⟩:=κ h;refine Ok.bj ⟨ar [(2,.b 1001 0)],[(1001,.box [vi v1]),(1000,.box [.s (mD a)])]⟩ ?_ ?_
 ·refine sg ?_;have ⟨x1,Ξ,ν⟩:=κ ν;refine ⟨_,rfl,?_⟩;refine af.call (Ys Ξ) lz ?_;refine sg (ct ν (fun hb ν=>?_) fun hb ν=>?_)
  ·refine rg ⟨_,rfl,?_⟩;cases ν;exact wt Q1 J2 rfl
  refine sk ?_;cases ν;exact wt Q1 J2 rfl
 refine sg ⟨_,rfl,?_⟩;refine rt ?_;cases h;exact wt Q1 J2 rfl
def aj2 {d f e g r} (h:JV d f e g=some r):af prog 276 [.a (b0 d),vi f,.c (.func 277) [] [.b 1000 0,.b 1001 0]] ⟨aF,[(1000,.box [.s (mD e)]),(1001,.box [vi g])]⟩ fun x s=>x=(.t [])∧s.H=[(1000,.box [.s (mD e)]),(1001,.box [vi r])]:=by
 refine pg tok 23 func276 ?_;unfold JV at h;refine sg (bl (Ok.loop (fun (s1:Int×Int)=>⟨ar [(1,vi s1.1),(2,.c (.func 277) [] [.b 1000 0,.b 1001 0]),(3,.b 3 0)],[(1000,.box [.s (mD e)]),(1001,.box [vi s1.2]),(3,.box (b0 d))]⟩) (zQ e d) (s0:=(f,g)) h (wt Q3 ⟨hr,hr,hr,Q0⟩ rfl) ?_));intro s1 y1 ζ aQ;unfold zQ at ζ;refine sq ?_;have ⟨v1,ν,ζ⟩:=κ ζ;refine Ok.bj ⟨ar [(1,vi s1.1),(2,.c (.func 277) [] [.b 1000 0,.b 1001 0]),(3,.b 3 0),(14,vb v1.1)],[(1000,.box [.s (mD e)]),(1001,.box [vi v1.2]),(3,.box (b0 d))]⟩ ?_ ?_
 ·refine rg ?_;have ⟨x1,Ξ,ν⟩:=κ ν;refine cg [(1000,1000),(1001,1001)] [] (aj0 Ξ) (n1 (.cons (Ln.b rfl) (.cons (Ln.b rfl) .nil))) ⟨⟨1000,_,rfl,rfl,.box nq⟩,⟨1001,_,rfl,rfl,.box nq⟩,Q0⟩ ?_;have ⟨c1,Δ,ν⟩:=κ ν;refine Br.ite Δ (fun hb Δ=>?_) fun hb Δ=>?_
  ·cases Δ;cases ν;exact wt Q4 J3 rfl
  cases Δ;cases ν;exact wt Q4 J3 rfl
 refine ct ζ (fun hb ζ=>?_) fun hb ζ=>?_
 ·refine sk (bl (sg ?_));have ⟨x2,au,ζ⟩:=κ ζ;refine ⟨_,rfl,?_⟩;refine af.call (se au) lz ?_;refine ⟨_,rfl,?_⟩;refine rg ⟨_,rfl,?_⟩;exact ⟨_,sj ζ,wt Q3 J3 rfl⟩
 refine xt ?_;have ζ:=bz ζ aQ;cases ζ;exact wt Q1 J2 rfl
def aiV {d e f r} (h:B7 d e f=some r):Pure prog 236 [.a (b0 d),.s (mD e),vi f] (vi r):=by
 refine pq tok 13 func236 ?_;unfold B7 at h;refine sg (sg ⟨_,rfl,?_⟩);refine sg ?_;have ⟨x1,Ξ,h⟩:=κ h;refine ⟨_,rfl,?_⟩;refine cg [(1000,4),(1001,7)] [] (aj2 Ξ) (n2 (.cons (Ln.c .nil (.cons (Ln.b rfl) (.cons (Ln.b rfl) .nil))) .nil)) ⟨⟨4,_,rfl,rfl,.box nq⟩,⟨7,_,rfl,rfl,.box nq⟩,Q0⟩ ?_;refine sg ⟨_,rfl,?_⟩;refine rt ?_;cases h;exact Fz.v
def aiu {c d r} (h:yn c d=some r):Pure prog 177 [.a (b0 c),.s (mD d)] (vb r):=by
 refine pq tok 70 func177 ?_;unfold yn at h;refine sg (sg (Ok.fg (fun v1=>⟨ar [],[]⟩) (fun v1=>Ia v1=some r) ?_ ?_))
 ·refine sg ⟨_,rfl,_,az _,fun _=>?_⟩;refine bl (Ok.loop (fun (s1:Int×(List (Int×Int)))=>⟨ar [(1,.s (mD d)),(2,.b 2 0),(5,.m 15),(17,.s (mI c.η)),(18,vi (c.η.length:Int)),(19,vi s1.1)],[(2,.box (b0 c)),(15,.mp false (aT (fun p=>(p.1,Go.Cat.encI p.2)) s1.2))]⟩) (H9 c d) (s0:=(0,([]:List (Int×Int)))) h (wt Q6 ⟨⟨_,rfl,.refl _⟩,⟨_,rfl,.refl _⟩,Q0⟩ rfl) ?_);intro s1 y1 ζ aQ;unfold H9 at ζ;refine sg (sq (ct ζ (fun hb ζ=>?_) fun hb ζ=>?_))
  ·refine sk (Ok.fg (fun v2=>⟨ar [(1,.s (mD d)),(2,.b 2 0),(5,.m 15),(17,.s (mI c.η)),(18,vi (c.η.length:Int)),(19,vi s1.1)],[(2,.box (b0 c)),(15,.mp false (aT (fun p=>(p.1,Go.Cat.encI p.2)) v2))]⟩) (fun v2=>A4 s1 v2=some y1) ?_ ?_)
   ·refine bl (sg ?_);have ⟨x1,Ξ,ζ⟩:=κ ζ;refine ⟨_,bK Ξ,_,bL Ξ,_,rfl,_,rfl,?_⟩;refine sq (sg ?_);refine ⟨_,rfl,_,az _,fun _=>?_⟩;refine ct ζ (fun hb ζ=>?_) fun hb ζ=>?_
    ·refine xt ?_;exact ⟨_,ζ,wt Q6 ⟨⟨_,rfl,.refl _⟩,⟨_,rfl,.refl _⟩,Q0⟩ rfl⟩
    refine sk (sg ?_);have ⟨x2,au,ζ⟩:=κ ζ;refine ⟨_,rfl,_,rfl,?_⟩;refine af.call (aiV au) lz ?_;refine sg ⟨_,rfl,_,az _,fun _=>?_⟩;refine bl (Ok.loop (fun (s2:Int×(List (Int×Int)))=>⟨ar [(1,.s (mD d)),(2,.b 2 0),(5,.m 15),(8,vi x2),(17,.s (mI c.η)),(18,vi (c.η.length:Int)),(19,vi s1.1),(33,.s (mF x1.Ψ)),(34,vi (x1.Ψ.length:Int)),(35,vi s2.1)],[(2,.box (b0 c)),(15,.mp false (aT (fun p=>(p.1,Go.Cat.encI p.2)) s2.2))]⟩) (H_ x1 c x2 s1) (s0:=(0,s1.2)) ζ (wt ⟨lr,lr,Q8⟩ ⟨⟨_,rfl,.refl _⟩,⟨_,rfl,.refl _⟩,Q0⟩ rfl) ?_);intro s2 y2 aD gZ;unfold H_ at aD;refine sg (sq (ct aD (fun hb aD=>?_) fun hb aD=>?_))
    ·refine sk (sq (bl (sg ?_)));have ⟨x3,aM,aD⟩:=κ aD;refine ⟨_,bK aM,_,bL aM,_,rfl,_,rfl,?_⟩;refine sg ?_;have ⟨x4,bw,aD⟩:=κ aD;refine ⟨_,rfl,_,rfl,?_⟩;refine af.call (se bw) lz ?_;refine ⟨_,rfl,?_⟩;refine sg ?_;have ⟨x5,dv,aD⟩:=κ aD;refine ⟨_,rfl,_,pJ Go.Cat.encI (z:=(0:Int)) dv,_,tq Go.Cat.encI x3.ι s2.2,?_⟩;refine sq ?_;have ⟨v3,dF,aD⟩:=κ aD;refine Ok.bj ⟨ar [(1,.s (mD d)),(2,.b 2 0),(5,.m 15),(8,vi x2),(10,.b 10 0),(17,.s (mI c.η)),(18,vi (c.η.length:Int)),(19,vi s1.1),(33,.s (mF x1.Ψ)),(34,vi (x1.Ψ.length:Int)),(35,vi s2.1),(63,vb v3)],[(2,.box (b0 c)),(15,.mp false (aT (fun p=>(p.1,Go.Cat.encI p.2)) s2.2)),(10,.box (b6 x3))]⟩ ?_ ?_
     ·refine rg ⟨_,rfl,?_⟩;have ⟨c1,Δ,dF⟩:=κ dF;refine Br.ite Δ (fun hb Δ=>?_) fun hb Δ=>?_
      ·cases Δ;have ⟨c2,aI,dF⟩:=κ dF;refine Br.ite aI (fun hb aI=>?_) fun hb aI=>?_
       ·cases aI;cases dF;exact wt ⟨lr,lr,lr,lr,Q8⟩ J3 rfl
       cases aI;cases dF;exact wt ⟨lr,lr,lr,lr,Q8⟩ J3 rfl
      cases Δ;have ⟨c2,aS,dF⟩:=κ dF;replace aS:=eb aS;cases aS;cases dF;exact wt ⟨lr,lr,lr,lr,Q8⟩ J3 rfl
     refine ct aD (fun hb aD=>?_) fun hb aD=>?_
     ·refine sg (rt ?_);have aD:=bz aD gZ;have aD:=bz aD aQ;cases aD;exact Fz.v
     refine sk (rg ?_);have ⟨ax,aD⟩:=aG aD;refine ⟨_,rfl,ax.1,gx (Nat.le_of_eq (az _)) ax.2,_,iH Go.Cat.encI x3.ι x2 s2.2,?_⟩;refine rg ?_;have ⟨bt,aD⟩:=aG aD;refine (θ ⟨bt,?_⟩);exact ⟨_,sj aD,wt ⟨lr,lr,Q8⟩ J2 rfl⟩
    refine xt ?_;have aD:=bz aD gZ;exact ⟨_,aD,wt Q6 ⟨⟨_,rfl,.refl _⟩,⟨_,rfl,.refl _⟩,Q0⟩ rfl⟩
   intro v2 ζ;unfold A4 at ζ;refine rg ?_;have ⟨ep,ζ⟩:=aG ζ;refine (θ ⟨ep,?_⟩);exact ⟨_,sj ζ,wt Q6 J2 rfl⟩
  refine xt ?_;have ζ:=bz ζ aQ;exact ⟨_,ζ,wt Q0 Q0 rfl⟩
 intro v1 h;unfold Ia at h;refine sg (rt ?_);cases h;exact Fz.v
def aj1 {g d e f r} (h:JU g d e f=some r):af prog 237 [vi g,.b 1000 0,.b 1001 0,.b 1002 0,.b 1004 0] ⟨aF,[(1000,.box (b0 d)),(1001,.box [vi e]),(1002,.box [.m 1003]),(1003,.mp false (aT (fun p=>(p.1,cB p.2)) f)),(1004,.box [.c (.func 237) [] [.b 1000 0,.b 1001 0,.b 1002 0,.b 1004 0]])]⟩ fun x s=>x=(.t [])∧s.H=[(1000,.box (k0 r.1 r.2.1 r.2.2.1)),(1001,.box [vi r.2.2.2.1]),(1002,.box [.m 1003]),(1003,.mp false (aT (fun p=>(p.1,cB p.2)) r.2.2.2.2)),(1004,.box [.c (.func 237) [] [.b 1000 0,.b 1001 0,.b 1002 0,.b 1004 0]])]:=by
 unfold JU at h;refine SX (p:=fun (a:Int×ψ×Int×(List (Int×Bool))) (r:pP)=>af prog 237 [vi a.1,.b 1000 0,.b 1001 0,.b 1002 0,.b 1004 0] ⟨aF,[(1000,.box (b0 a.2.1)),(1001,.box [vi a.2.2.1]),(1002,.box [.m 1003]),(1003,.mp false (aT (fun p=>(p.1,cB p.2)) a.2.2.2)),(1004,.box [.c (.func 237) [] [.b 1000 0,.b 1001 0,.b 1002 0,.b 1004 0]])]⟩ fun x s=>x=(.t [])∧s.H=[(1000,.box (k0 r.1 r.2.1 r.2.2.1)),(1001,.box [vi r.2.2.2.1]),(1002,.box [.m 1003]),(1003,.mp false (aT (fun p=>(p.1,cB p.2)) r.2.2.2.2)),(1004,.box [.c (.func 237) [] [.b 1000 0,.b 1001 0,.b 1002 0,.b 1004 0]])]) (fun eU Dn a r h=>?_) h;have ⟨g,d,e,f⟩:=a;have IH:∀{g:Int} {d:ψ} {e:Int} {f:List (Int×Bool)} {r:pP},eU (g,d,e,f)=some r→af prog 237 [vi g,.b 1000 0,.b 1001 0,.b 1002 0,.b 1004 0] ⟨aF,[(1000,.box (b0 d)),(1001,.box [vi e]),(1002,.box [.m 1003]),(1003,.mp false (aT (fun p=>(p.1,cB p.2)) f)),(1004,.box [.c (.func 237) [] [.b 1000 0,.b 1001 0,.b 1002 0,.b 1004 0]])]⟩ fun x s=>x=(.t [])∧s.H=[(1000,.box (k0 r.1 r.2.1 r.2.2.1)),(1001,.box [vi r.2.2.2.1]),(1002,.box [.m 1003]),(1003,.mp false (aT (fun p=>(p.1,cB p.2)) r.2.2.2.2)),(1004,.box [.c (.func 237) [] [.b 1000 0,.b 1001 0,.b 1002 0,.b 1004 0]])]:=fun h=>Dn _ _ h;clear Dn;change tK eU g d e f=some r at h;show af prog 237 [vi g,.b 1000 0,.b 1001 0,.b 1002 0,.b 1004 0] ⟨aF,[(1000,.box (b0 d)),(1001,.box [vi e]),(1002,.box [.m 1003]),(1003,.mp false (aT (fun p=>(p.1,cB p.2)) f)),(1004,.box [.c (.func 237) [] [.b 1000 0,.b 1001 0,.b 1002 0,.b 1004 0]])]⟩ fun x s=>x=(.t [])∧s.H=[(1000,.box (k0 r.1 r.2.1 r.2.2.1)),(1001,.box [vi r.2.2.2.1]),(1002,.box [.m 1003]),(1003,.mp false (aT (fun p=>(p.1,cB p.2)) r.2.2.2.2)),(1004,.box [.c (.func 237) [] [.b 1000 0,.b 1001 0,.b 1002 0,.b 1004 0]])];refine pg tok 41 func237 ?_;unfold tK at h;refine sg ?_;have ⟨x1,Ξ,h⟩:=κ h;refine ⟨_,rfl,?_⟩;refine af.call (se Ξ) lz ?_;refine ⟨_,rfl,?_⟩;refine sg ?_;have ⟨ax,h⟩:=aG h
 refine ⟨_,rfl,_,rfl,_,az _,fun _=>(θ ⟨ax,_,rfl,?_⟩)⟩;refine sg ⟨_,rfl,_,az _,fun _=>?_⟩;refine bl (Ok.loop (fun (s1:Int×pP)=>⟨ar [(3,.b 1002 0),(4,.b 1004 0),(22,.s (mF x1.1.Ψ)),(23,vi (x1.1.Ψ.length:Int)),(24,vi s1.1)],[(1002,.box [.m 1003]),(1003,.mp false (aT (fun p=>(p.1,cB p.2)) s1.2.2.2.2.2)),(1004,.box [.c (.func 237) [] [.b 1000 0,.b 1001 0,.b 1002 0,.b 1004 0]]),(1000,.box (k0 s1.2.1 s1.2.2.1 s1.2.2.2.1)),(1001,.box [vi s1.2.2.2.2.1])]⟩) (zO x1 eU) (s0:=(0,d.η,d.Next,d.aj,e+(x1.1.aC.length:Int),f)) h (wt Q5 ⟨hr,hr,hr,hr,hr,Q0⟩ rfl) ?_);intro s1 y1 ζ aQ;unfold zO at ζ;refine sg (sq (ct ζ (fun hb ζ=>?_) fun hb ζ=>?_))
 ·refine sk ?_;have ⟨v1,ν,ζ⟩:=κ ζ;refine Ok.bj ⟨ar [(3,.b 1002 0),(4,.b 1004 0),(22,.s (mF x1.1.Ψ)),(23,vi (x1.1.Ψ.length:Int)),(24,vi s1.1)],[(1002,.box [.m 1003]),(1003,.mp false (aT (fun p=>(p.1,cB p.2)) v1.2.2.2.2)),(1004,.box [.c (.func 237) [] [.b 1000 0,.b 1001 0,.b 1002 0,.b 1004 0]]),(1000,.box (k0 v1.1 v1.2.1 v1.2.2.1)),(1001,.box [vi v1.2.2.2.1])]⟩ ?_ ?_
  ·refine bl (sg ?_);have ⟨x2,au,ν⟩:=κ ν;refine ⟨_,bK au,_,bL au,_,rfl,_,rfl,?_⟩;refine sg ?_;have ⟨x3,aM,ν⟩:=κ ν;refine ⟨_,rfl,_,rfl,_,pJ cB (z:=(false:Bool)) aM,?_⟩;refine ct ν (fun hb ν=>?_) fun hb ν=>?_
   ·refine sg ?_;have ⟨bt,ν⟩:=aG ν;refine ⟨_,rfl,_,rfl,bt.1,gx (Nat.le_of_eq (az _)) bt.2,_,iH cB x2.ι true s1.2.2.2.2.2,?_⟩;refine rg ?_;have ⟨x4,bw,ν⟩:=κ ν;refine ⟨_,rfl,_,rfl,?_⟩;refine cg [(1000,1000),(1001,1001),(1002,1002),(1003,1003),(1004,1004)] [] (IH bw) (n1 (.cons (Ln.b rfl) (.cons (Ln.b rfl) (.cons (Ln.b rfl) (.cons (Ln.b rfl) .nil))))) ⟨⟨1000,_,rfl,rfl,.box nq⟩,⟨1001,_,rfl,rfl,.box nq⟩,⟨1002,_,rfl,rfl,.box (.cons (Ln.mm rfl) .nil)⟩,⟨1003,_,rfl,rfl,.refl rfl⟩,⟨1004,_,rfl,rfl,.box (.cons (Ln.c .nil (.cons (Ln.b rfl) (.cons (Ln.b rfl) (.cons (Ln.b rfl) (.cons (Ln.b rfl) .nil))))) .nil)⟩,Q0⟩ ?_;cases ν;exact wt Q5 ⟨hr,J4⟩ rfl
   refine sk ?_;cases ν;exact wt Q5 ⟨hr,J4⟩ rfl
  refine rg ?_;have ⟨ep,ζ⟩:=aG ζ;refine (θ ⟨ep,?_⟩);exact ⟨_,sj ζ,wt Q5 ⟨hr,J4⟩ rfl⟩
 refine xt ?_;have ζ:=bz ζ aQ;cases ζ;exact wt Q1 ⟨hr,J4⟩ rfl
end Go.Proofs
