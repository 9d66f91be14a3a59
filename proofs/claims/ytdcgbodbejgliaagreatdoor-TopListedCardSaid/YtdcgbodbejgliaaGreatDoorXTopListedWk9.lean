/- The walks of this seat beside the plain programs, part 9. No condition. -/
import Derived.Test.YtdcgbodbejgliaaGreatDoorXTopListedWk8
open List renaming length_map → au, map_append → bP
open Or renaming inl → af
namespace Go.Proofs
set_option linter.all false
open Go Go.Cat Tryz
variable [M:bU] [K:LK]
set_option maxRecDepth 100000
set_option maxHeartbeats 4000000
def afn {c d r} (h:B9 c d=some r):Pure prog 51 [.a (b2 c),.a (j_ d)] (.t [.a (b2 r.1),.a (kb r.2)]):=by
 refine pq tok 206 func51 ?_;unfold B9 at h;refine sg (sg ⟨_,rfl,_,rfl,?_⟩);refine sq (sg ?_);refine ⟨_,rfl,?_⟩;refine ct h (fun hb h=>?_) fun hb h=>?_
 ·refine sg ?_;have ⟨x1,θ,h⟩:=η h;refine ⟨_,rfl,_,rfl,_,rfl,_,rfl,?_⟩;refine Θ.call (Vd θ) lz ?_;refine ⟨_,rfl,?_⟩;refine sq (sg ?_);refine ct h (fun hb h=>?_) fun hb h=>?_
  ·refine sq (dw 3 tok mixed ?_);have ⟨x2,aq,h⟩:=η h;refine ⟨_,⟨_,rfl,rfl⟩,_,rfl,_,⟨_,.dz (jr aq) lz,rfl⟩,Q0,_,rfl,_,rfl,?_⟩;refine rt ?_;cases h;exact ⟨_,rfl,_,rfl,Fz.t fq⟩
  refine sk (sg ?_);have ⟨x3,aF,h⟩:=η h;refine ⟨_,rfl,_,rfl,?_⟩;refine Θ.call (NK aF) lz ?_;refine ⟨_,rfl,?_⟩;refine sg ⟨_,rfl,?_⟩;refine sg ⟨_,rfl,_,rfl,_,rfl,?_⟩;refine rt ?_;cases h;exact ⟨_,rfl,_,rfl,Fz.t (.cons (Fz.cq rfl) (.cons (Fz.a (.cons Fz.v (.cons Fz.v (.cons Fz.v (.cons Fz.v (.cons Fz.v (.cons Fz.nil (.cons Fz.nil .nil)))))))) .nil))⟩
 refine sk (sg ?_);have ⟨x4,aV,h⟩:=η h;refine ⟨_,rfl,_,rfl,_,rfl,?_⟩;refine Θ.call (ae8 aV) lz ?_;refine sq (sg ?_);refine ct h (fun hb h=>?_) fun hb h=>?_
 ·refine sq (dw 3 tok mixed ?_);have ⟨x5,bJ,h⟩:=η h;refine ⟨_,⟨_,rfl,rfl⟩,_,rfl,_,⟨_,.dz (jr bJ) lz,rfl⟩,Q0,_,rfl,_,rfl,?_⟩;refine rt ?_;cases h;exact ⟨_,rfl,_,rfl,Fz.t fq⟩
 refine sk (sg ?_);have ⟨x6,cK,h⟩:=η h;refine ⟨_,rfl,?_⟩;refine Θ.call (g_ cK) lz ?_;refine ⟨_,rfl,?_⟩;refine sq ?_;have ⟨v1,ν,h⟩:=η h;refine Ok.aB ⟨Γ [(2,.b 2 0),(3,.b 3 0),(4,.b 4 0),(5,.b 5 0),(6,.b 6 0),(10,vi x4.1),(12,.b 12 0),(106,vb v1)],[(2,.box (b2 c)),(3,.box (j_ d)),(4,.box (k6 0 0 0 0)),(5,.box (gU 0 0 0 0 0)),(6,.box (WH c)),(12,.box (b4 x6.1))]⟩ ?_ ?_
 ·refine rg ⟨_,rfl,?_⟩;have ⟨c3,ξ,ν⟩:=η ν;refine Br.cO ξ (fun hb ξ=>?_) fun hb ξ=>?_
  ·cases ξ;have ⟨c5,ax,ν⟩:=η ν;replace ax:=fu ax;cases ax;cases ν;exact wt Q8 ⟨hr,hr,J4⟩ rfl
  refine ⟨_,rfl,?_⟩;have ⟨c2,aL,ξ⟩:=η ξ;refine Br.ite aL (fun hb aL=>?_) fun hb aL=>?_
  ·refine ⟨_,rfl,?_⟩;have ⟨c1,bI,aL⟩:=η aL;refine Br.cO bI (fun hb bI=>?_) fun hb bI=>?_
   ·cases bI;cases aL;cases ξ;have ⟨c5,bZ,ν⟩:=η ν;replace bZ:=fu bZ;cases bZ;cases ν;exact wt Q8 ⟨hr,hr,J4⟩ rfl
   refine ⟨_,rfl,?_⟩;cases bI;cases aL;cases ξ;have ⟨c5,cI,ν⟩:=η ν;refine Br.cO cI (fun hb cI=>?_) fun hb cI=>?_
   ·cases cI;cases ν;exact wt Q8 ⟨hr,hr,J4⟩ rfl
   refine ⟨_,rfl,?_⟩;have ⟨c4,cQ,cI⟩:=η cI;refine Br.ite cQ (fun hb cQ=>?_) fun hb cQ=>?_
   ·refine ⟨_,rfl,?_⟩;cases cQ;cases cI;cases ν;exact wt Q8 ⟨hr,hr,J4⟩ rfl
   cases cQ;cases cI;cases ν;exact wt Q8 ⟨hr,hr,J4⟩ rfl
  cases aL;cases ξ;have ⟨c5,dq,ν⟩:=η ν;replace dq:=c9 dq;refine ⟨_,rfl,?_⟩;have ⟨c4,dE,dq⟩:=η dq;refine Br.ite dE (fun hb dE=>?_) fun hb dE=>?_
  ·refine ⟨_,rfl,?_⟩;cases dE;cases dq;cases ν;exact wt Q8 ⟨hr,hr,J4⟩ rfl
  cases dE;cases dq;cases ν;exact wt Q8 ⟨hr,hr,J4⟩ rfl
 refine ct h (fun hb h=>?_) fun hb h=>?_
 ·refine sq (dw 2 tok mixed ?_);have ⟨x7,cP,h⟩:=η h;refine ⟨_,⟨_,rfl,rfl⟩,_,⟨_,.dz (jr cP) lz,rfl⟩,Q0,_,rfl,_,rfl,?_⟩;refine rt ?_;cases h;exact ⟨_,rfl,_,rfl,Fz.t fq⟩
 refine sk (sq (sg ?_));refine ⟨_,rfl,?_⟩;refine bl (sg ?_);refine ct h (fun hb h=>?_) fun hb h=>?_
 ·refine sg ⟨_,rfl,_,rfl,_,au _,fun _=>⟨(min d.N (x6.1.aP.length:Int)),rfl,?_⟩⟩;refine sg ?_;have ⟨ah,h⟩:=ak h;refine ⟨_,rfl,(af ⟨ah,_,rfl,_,au _,fun _=>⟨(min ((min d.N (x6.1.aP.length:Int))+d.M) (x6.1.aP.length:Int)),rfl,?_⟩⟩)⟩;refine sq (Ok.gP (m:=8) (late:=[1,2,3,4,5,6,7]) (MD:=⟨[]⟩) (CH:=⟨[]⟩) tok mixed (by kernel_rfl) ?_);have ⟨aQ,h⟩:=ak h;refine ⟨_,⟨_,rfl,rfl⟩,_,rfl,_,rfl,_,⟨_,rfl,rfl⟩,_,rfl,_,rfl,_,⟨_,fK aQ.1,_,fK (wK aQ),Mf aQ,Mg aQ,mo (f:=du) (K:=1) (fun _=>rfl) x6.1.aP,_,Uo _ _ _ _,rfl⟩,_,rfl,Q0,?_⟩;refine ⟨_,rfl,⟨⟨_,rfl,rfl⟩,⟨_,rfl,rfl⟩,⟨_,rfl,_,rfl,rfl⟩,⟨_,rfl,rfl⟩,⟨_,rfl,rfl⟩,⟨_,rfl,_,fK aQ.1,_,fK (wK aQ),Mf aQ,Mg aQ,mo (f:=du) (K:=1) (fun _=>rfl) x6.1.aP,_,Uo _ _ _ _,rfl⟩,⟨_,rfl,rfl⟩,Q0⟩,_,rfl,?_⟩;refine rt ?_;cases h;exact ⟨_,rfl,_,rfl,Fz.t (.cons (Fz.cq rfl) (.cons (Fz.a (.cons Fz.v (.cons Fz.v (.cons Fz.v (.cons Fz.v (.cons Fz.v (.cons Fz.nil (.cons Fz.s .nil)))))))) .nil))⟩
 refine sg (ct h (fun hb h=>?_) fun hb h=>?_)
 ·refine sq (sg ?_);have ⟨bN,h⟩:=ak h;refine ⟨_,rfl,_,rfl,_,au _,fun _=>(af ⟨bN,?_⟩)⟩;refine ct h (fun hb h=>?_) fun hb h=>?_
  ·refine sq (dw 2 tok mixed ?_);have ⟨x8,ew,h⟩:=η h;refine ⟨_,⟨_,rfl,rfl⟩,_,⟨_,.dz (jr ew) lz,rfl⟩,Q0,_,rfl,_,rfl,?_⟩;refine rt ?_;cases h;exact ⟨_,rfl,_,rfl,Fz.t fq⟩
  refine sk (sg ?_);have ⟨x9,fi,h⟩:=η h;refine ⟨_,rfl,_,rfl,_,rfl,?_⟩;refine Θ.call (afj fi) lz ?_;refine sg ?_;have ⟨cR,fR,h⟩:=η h;refine ⟨_,rfl,?_⟩;refine Θ.call (U' fR) lz ?_;refine ⟨_,rfl,?_⟩;refine sg ?_;have ⟨ei,jA,h⟩:=η h;refine ⟨_,rfl,_,rfl,_,rfl,_,au _,fun _=>?_⟩;refine Θ.call (wS jA) (l4 (.cons (Le.a (l4 (l1 (.cons (Le.nil) (.cons (Le.nil) .nil))))) .nil)) ?_;refine ⟨_,rfl,_,rfl,?_⟩;refine sq (Ok.gP (m:=2) (late:=[1]) (MD:=⟨[]⟩) (CH:=⟨[]⟩) tok mixed (by kernel_rfl) ?_);refine ⟨_,⟨_,rfl,rfl⟩,_,⟨_,rfl,rfl⟩,Q0,?_⟩;refine ⟨_,rfl,⟨⟨_,rfl,_,rfl,rfl⟩,Q0⟩,_,rfl,?_⟩;refine rt ?_;cases h;exact ⟨_,rfl,_,rfl,Fz.t fq⟩
 refine sk (sg ?_);have ⟨c8,h⟩:=ak h;refine ⟨_,rfl,_,rfl,_,rfl,_,au _,fun _=>⟨(min d.N (x6.1.aP.length:Int)),rfl,_,fK c8.1,Nat.zero_le _,nW c8,mo (f:=du) (K:=1) (fun _=>rfl) x6.1.aP,_,wL _ _ _,?_⟩⟩;refine sg ?_;have ⟨dG,jW,h⟩:=η h;refine ⟨_,rfl,?_⟩;refine Θ.call (U' jW) lz ?_;refine ⟨_,rfl,?_⟩;refine sg ?_;have ⟨fx,nU,h⟩:=η h;refine ⟨_,rfl,_,rfl,_,rfl,_,au _,fun _=>?_⟩;refine Θ.call (wS nU) (l4 (.cons (Le.a (l4 (l1 (.cons (Le.nil) (.cons (Le.nil) .nil))))) .nil)) ?_;refine ⟨_,rfl,_,rfl,?_⟩;refine sq (Ok.gP (m:=2) (late:=[1]) (MD:=⟨[]⟩) (CH:=⟨[]⟩) tok mixed (by kernel_rfl) ?_);refine ⟨_,⟨_,rfl,rfl⟩,_,⟨_,rfl,rfl⟩,Q0,?_⟩;refine ⟨_,rfl,⟨⟨_,rfl,_,rfl,rfl⟩,Q0⟩,_,rfl,?_⟩;refine rt ?_;cases h;exact ⟨_,rfl,_,rfl,Fz.t fq⟩
def ago {d c r} (h:wx d c=some r):jb prog 227 [.s (mI d),.a (b4 c)] 44 6 (mI r):=by
 refine pv tok 38 func227 ?_;unfold wx at h;refine sg (sg ?_);have ⟨v1,ν,h⟩:=η h;refine Ok.aB ⟨Γ [(0,.s (mI d)),(3,.b 3 0),(5,vi v1)],[(3,.box (b4 c))]⟩ ?_ ?_
 ·refine bl (Ok.loop (fun (s1:Int)=>⟨Γ [(0,.s (mI d)),(3,.b 3 0),(5,vi s1)],[(3,.box (b4 c))]⟩) (FA d c) (s0:=0) ν (wt Q3 ⟨hr,Q0⟩ rfl) ?_);intro s1 y1 ζ az;unfold FA at ζ;refine sq ?_;have ⟨v2,Δ,ζ⟩:=η ζ;refine Ok.aB ⟨Γ [(0,.s (mI d)),(3,.b 3 0),(5,vi s1),(20,vb v2)],[(3,.box (b4 c))]⟩ ?_ ?_
  ·refine dw 14 tok mixed ⟨_,rfl,_,rfl,_,⟨_,au _,fun _=>rfl⟩,_,rfl,_,rfl,?_⟩;have ⟨c1,ξ,Δ⟩:=η Δ;refine Br.ite ξ (fun hb ξ=>?_) fun hb ξ=>?_
   ·have ⟨x1,θ,ξ⟩:=η ξ;refine ⟨_,rfl,_,rfl,_,⟨_,aI θ,_,aK θ,rfl⟩,_,rfl,_,⟨_,rfl,rfl⟩,_,rfl,_,⟨_,rfl,rfl⟩,_,rfl,?_⟩;cases ξ;refine ⟨_,rfl,?_⟩;refine ⟨Q0,?_⟩;cases Δ;exact wt Q4 J1 rfl
   cases ξ;refine ⟨_,rfl,?_⟩;refine ⟨Q0,?_⟩;cases Δ;exact wt Q4 J1 rfl
  refine ct ζ (fun hb ζ=>?_) fun hb ζ=>?_
  ·refine sk (bl (rg ?_));have ⟨ah,ζ⟩:=ak ζ;refine (af ⟨ah,?_⟩);exact ⟨_,sj ζ,wt Q3 J1 rfl⟩
  refine xt ?_;have ζ:=aN ζ az;cases ζ;exact wt Q3 J1 rfl
 refine sg ?_;have ⟨aQ,h⟩:=ak h;have ⟨bN,h⟩:=ak h;refine Or.inr ⟨_,fK aQ.1,Nat.zero_le _,nW aQ,mo (f:=ed) (K:=6) (fun _=>rfl) d,_,wL _ _ _,cL (f:=ed) (n:=6) (fun _=>rfl) (d.take v1.toNat),cJ (f:=ed) (l:=([]:List ψ)) (l':=d.take v1.toNat) bN,_,(bP (f:=ed) (l₁:=([]:List ψ)) (l₂:=d.take v1.toNat)).symm,?_⟩;refine sg ?_;have ⟨c8,h⟩:=ak h;refine ⟨_,rfl,af ⟨cL (f:=ed) (n:=6) (fun _=>rfl) ([c]),cJ (f:=ed) (l:=([]:List ψ)++(d.take v1.toNat)) (l':=[c]) c8,_,(bP (f:=ed) (l₁:=([]:List ψ)++(d.take v1.toNat)) (l₂:=[c])).symm,?_⟩⟩;refine sg ?_;have ⟨eJ,h⟩:=ak h;have ⟨nJ,h⟩:=ak h;refine ⟨_,fK eJ.1,nW eJ,Nat.le_refl _,mo (f:=ed) (K:=6) (fun _=>rfl) d,_,Cg _ _ _,cL (f:=ed) (n:=6) (fun _=>rfl) (d.drop v1.toNat),cJ (f:=ed) (l:=(([]:List ψ)++(d.take v1.toNat))++[c]) (l':=d.drop v1.toNat) nJ,_,(bP (f:=ed) (l₁:=(([]:List ψ)++(d.take v1.toNat))++[c]) (l₂:=d.drop v1.toNat)).symm,?_⟩;refine sg (rt ?_);cases h;exact (.inr ⟨_,rfl,rfl⟩)
def Vi {c b r} (h:wx c b=some r):Pure prog 227 [.s (mI c),.a (b4 b)] (.s (mI r)):=(ago h).pure
def aff {c d r} (h:B0 c d=some r):Pure prog 161 [.a (b1 c),vi d] (.s (mI r)):=by
 refine pq tok 73 func161 ?_;unfold B0 at h;refine sg (sg (af ?_));have ⟨v1,ν,h⟩:=η h;refine Ok.aB ⟨Γ [(1,vi d),(2,.b 2 0),(5,.s (mI v1))],[(2,.box (b1 c))]⟩ ?_ ?_
 ·refine sg (bl (Ok.loop (fun (s1:(List ψ)×Int)=>⟨Γ [(1,vi d),(2,.b 2 0),(5,.s (mI s1.1)),(6,vi s1.2)],[(2,.box (b1 c))]⟩) (Fx c d) (s0:=(([]:List ψ),0)) ν (wt Q4 ⟨hr,Q0⟩ rfl) ?_));intro s1 y1 ζ az;unfold Fx at ζ;refine sq (sg ?_);refine ⟨_,rfl,_,au _,fun _=>?_⟩;refine ct ζ (fun hb ζ=>?_) fun hb ζ=>?_
  ·refine sk ?_;have ⟨v2,Δ,ζ⟩:=η ζ;refine Ok.aB ⟨Γ [(1,vi d),(2,.b 2 0),(5,.s (mI v2)),(6,vi s1.2)],[(2,.box (b1 c))]⟩ ?_ ?_
   ·refine bl ?_;have ⟨v3,aA,Δ⟩:=η Δ;refine Ok.aB ⟨Γ [(1,vi d),(2,.b 2 0),(5,.s (mI s1.1)),(6,vi s1.2),(30,vb v3)],[(2,.box (b1 c))]⟩ ?_ ?_
    ·refine rg ⟨_,rfl,_,au _,fun _=>?_⟩;have ⟨c1,ξ,aA⟩:=η aA;refine Br.ite ξ (fun hb ξ=>?_) fun hb ξ=>?_
     ·have ⟨x1,θ,ξ⟩:=η ξ;refine ⟨_,rfl,_,aI θ,_,aK θ,_,rfl,?_⟩;cases ξ;cases aA;exact wt Q5 J1 rfl
     cases ξ;cases aA;exact wt Q5 J1 rfl
    refine ct Δ (fun hb Δ=>?_) fun hb Δ=>?_
    ·refine rg ?_;have ⟨x2,aq,Δ⟩:=η Δ;have ⟨x3,aF,Δ⟩:=η Δ;refine ⟨_,rfl,_,aI aq,_,aK aq,_,rfl,?_⟩;refine Θ.call (Vi aF) lz ?_;cases Δ;exact wt Q4 J1 rfl
    refine sk ?_;cases Δ;exact wt Q4 J1 rfl
   refine rg ?_;have ⟨ah,ζ⟩:=ak ζ;refine (af ⟨ah,?_⟩);exact ⟨_,sj ζ,wt Q4 J1 rfl⟩
  refine xt ?_;have ζ:=aN ζ az;cases ζ;exact wt Q3 J1 rfl
 have ⟨v4,aO,h⟩:=η h;refine Ok.aB ⟨Γ [(5,.s (mI v4))],[]⟩ ?_ ?_
 ·refine sg (bl (Ok.loop (fun (s2:(List ψ)×Int)=>⟨Γ [(1,vi d),(2,.b 2 0),(5,.s (mI s2.1)),(7,vi s2.2)],[(2,.box (b1 c))]⟩) (Fy c d) (s0:=(v1,0)) aO (wt Q4 ⟨hr,Q0⟩ rfl) ?_));intro s2 y2 an dM;unfold Fy at an;refine sq (sg ?_);refine ⟨_,rfl,_,au _,fun _=>?_⟩;refine ct an (fun hb an=>?_) fun hb an=>?_
  ·refine sk ?_;have ⟨v5,bg,an⟩:=η an;refine Ok.aB ⟨Γ [(1,vi d),(2,.b 2 0),(5,.s (mI v5)),(7,vi s2.2)],[(2,.box (b1 c))]⟩ ?_ ?_
   ·refine bl ?_;have ⟨v6,bX,bg⟩:=η bg;refine Ok.aB ⟨Γ [(1,vi d),(2,.b 2 0),(5,.s (mI s2.1)),(7,vi s2.2),(63,vb v6)],[(2,.box (b1 c))]⟩ ?_ ?_
    ·refine rg ?_;have ⟨x4,aV,bX⟩:=η bX;refine ⟨_,rfl,_,aI aV,_,aK aV,_,rfl,?_⟩;have ⟨c2,ax,bX⟩:=η bX;refine Br.ite ax (fun hb ax=>?_) fun hb ax=>?_
     ·have ⟨x5,bJ,ax⟩:=η ax;refine ⟨_,rfl,_,aI bJ,_,aK bJ,_,rfl,?_⟩;cases ax;cases bX;exact wt Q5 J1 rfl
     cases ax;cases bX;exact wt Q5 J1 rfl
    refine ct bg (fun hb bg=>?_) fun hb bg=>?_
    ·refine rg ?_;have ⟨x6,cK,bg⟩:=η bg;have ⟨x7,cP,bg⟩:=η bg;refine ⟨_,rfl,_,aI cK,_,aK cK,_,rfl,?_⟩;refine Θ.call (Vi cP) lz ?_;cases bg;exact wt Q4 J1 rfl
    refine sk ?_;cases bg;exact wt Q4 J1 rfl
   refine rg ?_;have ⟨aQ,an⟩:=ak an;refine (af ⟨aQ,?_⟩);exact ⟨_,sj an,wt Q4 J1 rfl⟩
  refine xt ?_;have an:=aN an dM;cases an;exact wt Q1 Q0 rfl
 refine sg (rt ?_);cases h;exact Fz.s
def afh {c d r} (h:B2 c d=some r):Pure prog 162 [.s (mI c),vi d] (.t [.s (mH r.1),vb r.2]):=by
 refine pq tok 73 func162 ?_;unfold B2 at h;refine sg (sg ?_);have ⟨ah,h⟩:=ak h;refine ⟨_,au _,fun _=>Or.inr ⟨_,_,tz ah,tz ah,Nat.le_refl _,mk_le (by decide) ah,ah.2,_,(List.map_replicate (f:=cB) (a:=(false:Bool))).symm,?_⟩⟩;refine sg ⟨_,rfl,?_⟩;refine sg (Or.inr ?_);refine Ok.cU (fun v1=>⟨Γ [(6,.o 16)],[(16,.own 4 1 (mH v1))]⟩) (fun v1=>LC v1=some r) ?_ ?_
 ·refine sg (bl (Ok.loop (fun (s1:qP)=>⟨Γ [(0,.s (mI c)),(6,.o 16),(7,.b 7 0),(8,.o 20),(9,vi s1.1)],[(16,.own 4 1 (mH s1.2.1)),(7,.box (k0 c 0 0)),(20,.own 3 1 (mB s1.2.2))]⟩) (FB c) (s0:=(0,List.replicate (c.length:Int).toNat (false:Bool),[d])) h (wt Q5 ⟨hr,hr,hr,Q0⟩ rfl) ?_));intro s1 y1 ζ az;unfold FB at ζ;refine sq (sg ?_);refine ⟨_,au _,fun _=>?_⟩;refine ct ζ (fun hb ζ=>?_) fun hb ζ=>?_
  ·refine sk (Ok.cU (fun v2=>⟨Γ [(0,.s (mI c)),(6,.o 16),(7,.b 7 0),(8,.o 20),(9,vi s1.1)],[(16,.own 4 1 (mH v2.1)),(7,.box (k0 c 0 0)),(20,.own 3 1 (mB v2.2))]⟩) (fun v2=>yS s1 v2=some y1) ?_ ?_)
   ·refine bl (sq (Ok.gP (m:=10) (late:=[8]) (MD:=⟨[]⟩) (CH:=⟨[]⟩) tok mixed (by kernel_rfl) ?_));have ⟨x1,θ,ζ⟩:=η ζ;have ⟨x2,aq,ζ⟩:=η ζ;refine ⟨_,⟨_,rfl,rfl⟩,_,rfl,_,rfl,_,⟨_,aI θ,jY θ,rfl⟩,_,⟨_,aK θ,rfl,_,rfl,rfl⟩,_,⟨_,.dz (g_ aq) lz,rfl⟩,_,rfl,_,rfl,_,rfl,Q0,?_⟩;refine ⟨_,rfl,⟨⟨_,rfl,rfl⟩,Q0⟩,?_⟩;refine sq (sg ?_);refine ct ζ (fun hb ζ=>?_) fun hb ζ=>?_
    ·refine sg (rt ?_);have ζ:=aN ζ az;cases ζ;exact (Fz.t (.cons (Fz.o rfl) fq))
    refine sk (sg ?_);have ⟨v3,aA,ζ⟩:=η ζ;refine Ok.aB ⟨Γ [(0,.s (mI c)),(6,.o 16),(7,.b 7 0),(8,.o 20),(9,vi s1.1),(10,.b 10 0),(12,vi v3)],[(16,.own 4 1 (mH s1.2.1)),(7,.box (k0 c 0 0)),(20,.own 3 1 (mB s1.2.2)),(10,.box (b4 x2.1))]⟩ ?_ ?_
    ·refine bl (Ok.loop (fun (s2:Int)=>⟨Γ [(0,.s (mI c)),(6,.o 16),(7,.b 7 0),(8,.o 20),(9,vi s1.1),(10,.b 10 0),(12,vi s2)],[(16,.own 4 1 (mH s1.2.1)),(7,.box (k0 c 0 0)),(20,.own 3 1 (mB s1.2.2)),(10,.box (b4 x2.1))]⟩) (FC c x2) (s0:=0) aA (wt Q7 ⟨hr,hr,hr,hr,Q0⟩ rfl) ?_);intro s2 y2 an dM;unfold FC at an;refine sq (sq (dw 8 tok mixed ?_));have ⟨x3,aF,an⟩:=η an;refine ⟨_,rfl,_,rfl,_,⟨_,aI aF,_,aK aF,rfl⟩,_,rfl,_,⟨_,rfl,rfl⟩,_,rfl,_,⟨_,rfl,rfl⟩,_,rfl,Q0,?_⟩;refine ct an (fun hb an=>?_) fun hb an=>?_
     ·refine sk (bl (rg ?_));have ⟨aQ,an⟩:=ak an;refine (af ⟨aQ,?_⟩);exact ⟨_,sj an,wt Q7 J4 rfl⟩
     refine xt ?_;have an:=aN an dM;cases an;exact wt Q7 J4 rfl
    refine sq (sg ?_);have ⟨x4,aV,ζ⟩:=η ζ;refine ⟨_,aI aV,jY aV,_,aK aV,rfl,_,rfl,?_⟩;refine ct ζ (fun hb ζ=>?_) fun hb ζ=>?_
    ·refine xt ?_;exact ⟨_,ζ,wt Q5 ⟨hr,hr,hr,Q0⟩ rfl⟩
    refine sk (sg ?_);have ⟨x5,bJ,ζ⟩:=η ζ;refine ⟨_,aI bJ,jY bJ,_,aK bJ,rfl,_,rfl,_,wI (f:=cB) (x:=true),?_⟩;refine sg (bl (Ok.loop (fun (s3:Int×(List Int))=>⟨Γ [(0,.s (mI c)),(6,.o 16),(7,.b 7 0),(8,.o 20),(9,vi s1.1),(10,.b 10 0),(13,vi s3.1)],[(16,.own 4 1 (mH (s1.2.1.set v3.toNat true))),(7,.box (k0 c 0 0)),(20,.own 3 1 (mB s3.2)),(10,.box (b4 x2.1))]⟩) (B3 x2 s1 v3) (s0:=(0,s1.2.2)) ζ (wt Q7 ⟨hr,hr,hr,hr,Q0⟩ rfl) ?_));intro s3 y3 aT mi;unfold B3 at aT;refine sq (sg ?_);refine ⟨_,rfl,_,au _,fun _=>?_⟩;refine ct aT (fun hb aT=>?_) fun hb aT=>?_
    ·refine sk (sq (bl (rg ?_)));have ⟨x6,cK,aT⟩:=η aT;have ⟨bN,aT⟩:=ak aT;refine ⟨_,rfl,_,aI cK,_,aK cK,_,rfl,af ⟨cL (f:=Go.Cat.encI) (n:=1) (fun _=>rfl) ([x6.κ]),cJ (f:=Go.Cat.encI) (l:=s3.2) (l':=[x6.κ]) bN,_,(bP (f:=Go.Cat.encI) (l₁:=s3.2) (l₂:=[x6.κ])).symm,?_⟩⟩;refine rg ?_;have ⟨c8,aT⟩:=ak aT;refine (af ⟨c8,?_⟩);exact ⟨_,sj aT,wt Q7 J4 rfl⟩
    refine xt ?_;have aT:=aN aT mi;exact ⟨_,aT,wt Q5 ⟨hr,hr,hr,Q0⟩ rfl⟩
   intro v2 ζ;unfold yS at ζ;refine rg ?_;have ⟨eJ,ζ⟩:=ak ζ;refine (af ⟨eJ,?_⟩);exact ⟨_,sj ζ,wt Q5 J3 rfl⟩
  refine xt ?_;have ζ:=aN ζ az;exact ⟨_,ζ,wt Q1 ⟨hr,Q0⟩ rfl⟩
 intro v1 h;unfold LC at h;refine sg (rt ?_);cases h;exact (Fz.t (.cons (Fz.o rfl) fq))
def afc {c d r} (h:BT c d=some r):Pure prog 107 [.a (b1 c),vi d] (.t (R8 r.1 r.2.1 r.2.2)):=by
 refine pq tok 72 func107 ?_;unfold BT at h;refine sg (Ok.cU (fun v1=>⟨Γ [],[]⟩) (fun v1=>Fu v1=some r) ?_ ?_)
 ·refine sg (bl (Ok.loop (fun (s1:Int)=>⟨Γ [(1,vi d),(2,.b 2 0),(7,vi s1)],[(2,.box (b1 c))]⟩) (Fs c d) (s0:=0) h (wt Q3 ⟨hr,Q0⟩ rfl) ?_));intro s1 y1 ζ az;unfold Fs at ζ;refine sq (sg ?_);refine ⟨_,rfl,_,au _,fun _=>?_⟩;refine ct ζ (fun hb ζ=>?_) fun hb ζ=>?_
  ·refine sk (Ok.cU (fun v2=>⟨Γ [(1,vi d),(2,.b 2 0),(7,vi s1)],[(2,.box (b1 c))]⟩) (fun v2=>Fv s1 v2=some y1) ?_ ?_)
   ·refine bl (sq (sg ?_));have ⟨x1,θ,ζ⟩:=η ζ;refine ⟨_,rfl,_,aI θ,_,aK θ,_,rfl,?_⟩;refine ct ζ (fun hb ζ=>?_) fun hb ζ=>?_
    ·refine xt ?_;exact ⟨_,ζ,wt Q3 ⟨hr,Q0⟩ rfl⟩
    refine sk (sq (dw 9 tok mixed ?_));have ⟨x2,aq,ζ⟩:=η ζ;have ⟨x3,aF,ζ⟩:=η ζ;refine ⟨_,⟨_,rfl,rfl⟩,_,rfl,_,⟨_,rfl,rfl⟩,_,rfl,_,⟨_,aI aq,_,aK aq,rfl⟩,_,rfl,_,⟨_,rfl,rfl⟩,_,⟨_,.dz (aff aF) lz,rfl⟩,_,rfl,Q0,?_⟩;refine sg ?_;have ⟨x4,aV,ζ⟩:=η ζ;have ⟨x5,bJ,ζ⟩:=η ζ;refine ⟨_,rfl,_,aI aV,_,aK aV,_,rfl,?_⟩;refine Θ.call (afh bJ) lz ?_;refine sg (Or.inr ?_);have ⟨v3,aA,ζ⟩:=η ζ;refine Ok.aB ⟨Γ [(2,.b 2 0),(7,vi s1),(11,.o 47)],[(2,.box (b1 c)),(47,.own 44 6 (mI v3))]⟩ ?_ ?_
    ·refine sg (bl (Ok.loop (fun (s2:Int×(List ψ))=>⟨Γ [(2,.b 2 0),(7,vi s1),(8,.s (mI x3)),(9,.s (mH x5.1)),(11,.o 47),(12,vi s2.1)],[(2,.box (b1 c)),(47,.own 44 6 (mI s2.2))]⟩) (Ft x3 x5) (s0:=(0,([]:List ψ))) aA (wt Q6 ⟨hr,hr,Q0⟩ rfl) ?_));intro s2 y2 an dM;unfold Ft at an;refine sq (sg ?_);refine ⟨_,au _,fun _=>?_⟩;refine ct an (fun hb an=>?_) fun hb an=>?_
     ·refine sk ?_;have ⟨v4,aO,an⟩:=η an;refine Ok.aB ⟨Γ [(2,.b 2 0),(7,vi s1),(8,.s (mI x3)),(9,.s (mH x5.1)),(11,.o 47),(12,vi s2.1)],[(2,.box (b1 c)),(47,.own 44 6 (mI v4))]⟩ ?_ ?_
      ·refine bl (sg ?_);have ⟨x6,cK,aO⟩:=η aO;refine ⟨_,aI cK,_,aK cK,_,rfl,?_⟩;refine ct aO (fun hb aO=>?_) fun hb aO=>?_
       ·refine rg ?_;have ⟨x7,cP,aO⟩:=η aO;have ⟨ah,aO⟩:=ak aO;refine ⟨_,aI cP,_,aK cP,_,rfl,af ⟨cL (f:=ed) (n:=6) (fun _=>rfl) ([x7]),cJ (f:=ed) (l:=s2.2) (l':=[x7]) ah,_,(bP (f:=ed) (l₁:=s2.2) (l₂:=[x7])).symm,?_⟩⟩;cases aO;exact wt Q6 J2 rfl
       refine sk ?_;cases aO;exact wt Q6 J2 rfl
      refine rg ?_;have ⟨aQ,an⟩:=ak an;refine (af ⟨aQ,?_⟩);exact ⟨_,sj an,wt Q6 J2 rfl⟩
     refine xt ?_;have an:=aN an dM;cases an;exact wt Q3 J2 rfl
    refine sg ?_;have ⟨x8,ew,ζ⟩:=η ζ;refine ⟨_,rfl,_,aI ew,_,aK ew,_,rfl,?_⟩;refine rt ?_;have ζ:=aN ζ az;cases ζ;exact (Fz.t (.cons Fz.v (.cons (Fz.o rfl) fq)))
   intro v2 ζ;unfold Fv at ζ;refine rg ?_;have ⟨bN,ζ⟩:=ak ζ;refine (af ⟨bN,?_⟩);exact ⟨_,sj ζ,wt Q3 J1 rfl⟩
  refine xt ?_;have ζ:=aN ζ az;exact ⟨_,ζ,wt Q0 Q0 rfl⟩
 intro v1 h;unfold Fu at h;refine sg (rt ?_);cases h;exact (Fz.t (.cons Fz.v (.cons Fz.nil fq)))
def afq {d c r} (h:Cb d c=some r):Pure prog 52 [.a (b2 d),.a (j_ c)] (.a (kb r)):=by
 refine pq tok 122 func52 ?_;unfold Cb at h;refine sg (sg ?_);have ⟨x1,θ,h⟩:=η h;refine ⟨_,rfl,_,rfl,?_⟩;refine Θ.call (afc θ) lz ?_;refine sq (sg ?_);refine ct h (fun hb h=>?_) fun hb h=>?_
 ·refine sg ?_;have ⟨x2,aq,h⟩:=η h;refine Θ.call (jr aq) lz ?_;refine ⟨_,rfl,?_⟩;refine rt ?_;cases h;exact ⟨_,rfl,Fz.cq rfl⟩
 refine sk (sg ?_);have ⟨x3,aF,h⟩:=η h;refine ⟨_,rfl,?_⟩;refine Θ.call (GK aF) lz ?_;refine sq (sg ?_);refine ct h (fun hb h=>?_) fun hb h=>?_
 ·refine sg ?_;have ⟨x4,aV,h⟩:=η h;refine Θ.call (jr aV) lz ?_;refine ⟨_,rfl,?_⟩;refine rt ?_;cases h;exact ⟨_,rfl,Fz.cq rfl⟩
 refine sk (sg ?_);refine ⟨_,rfl,?_⟩;refine sg ?_;have ⟨x5,bJ,h⟩:=η h;refine ⟨_,rfl,?_⟩;refine Θ.call (g_ bJ) lz ?_;refine ⟨_,rfl,?_⟩;refine Ok.cU (fun v1=>⟨Γ [(4,.b 4 0),(10,.b 10 0)],[(4,.box (gU 0 0 0 0 0)),(10,.box (k8 v1.1 v1.2.1 v1.2.2.1 v1.2.2.2.1 v1.2.2.2.2.1 v1.2.2.2.2.2))]⟩) (fun v1=>FP v1=some r) ?_ ?_
 ·refine sg (bl (Ok.loop (fun (s1:Int×kV)=>⟨Γ [(4,.b 4 0),(8,.s (mG x3.1)),(9,.b 9 0),(10,.b 10 0),(12,vi s1.1)],[(4,.box (gU 0 0 0 0 0)),(9,.box (k0 x1.2.1 0 0)),(10,.box (k8 s1.2.1 s1.2.2.1 s1.2.2.2.1 s1.2.2.2.2.1 s1.2.2.2.2.2.1 s1.2.2.2.2.2.2))]⟩) (FM x3 x1) (s0:=(0,x5.1.κ,x5.1.Ω,x5.1.a_,x5.1.aP,x5.1.ae,x5.1.Up)) h (wt Q5 ⟨hr,hr,hr,Q0⟩ rfl) ?_));intro s1 y1 ζ az;unfold FM at ζ;refine sq (sg ?_);refine ⟨_,au _,fun _=>?_⟩;refine ct ζ (fun hb ζ=>?_) fun hb ζ=>?_
  ·refine sk (Ok.cU (fun v2=>⟨Γ [(4,.b 4 0),(8,.s (mG x3.1)),(9,.b 9 0),(10,.b 10 0),(12,vi s1.1)],[(4,.box (gU 0 0 0 0 0)),(9,.box (k0 x1.2.1 0 0)),(10,.box (k8 v2.1 v2.2.1 v2.2.2.1 v2.2.2.2.1 v2.2.2.2.2.1 v2.2.2.2.2.2))]⟩) (fun v2=>FQ s1 v2=some y1) ?_ ?_)
   ·refine bl (sq (sg ?_));refine ⟨_,rfl,?_⟩;refine ct ζ (fun hb ζ=>?_) fun hb ζ=>?_
    ·refine sg ?_;have ⟨x6,cK,ζ⟩:=η ζ;refine Θ.call (jr cK) lz ?_;refine ⟨_,rfl,?_⟩;refine rt ?_;have ζ:=aN ζ az;cases ζ;exact ⟨_,rfl,Fz.cq rfl⟩
    refine sk (sg ?_);have ⟨v3,aA,ζ⟩:=η ζ;refine Ok.aB ⟨Γ [(4,.b 4 0),(8,.s (mG x3.1)),(9,.b 9 0),(10,.b 10 0),(12,vi s1.1),(13,vi v3)],[(4,.box (gU 0 0 0 0 0)),(9,.box (k0 x1.2.1 0 0)),(10,.box (k8 s1.2.1 s1.2.2.1 s1.2.2.2.1 s1.2.2.2.2.1 s1.2.2.2.2.2.1 s1.2.2.2.2.2.2))]⟩ ?_ ?_
    ·refine sg (bl (Ok.loop (fun (s2:Int×Int)=>⟨Γ [(4,.b 4 0),(8,.s (mG x3.1)),(9,.b 9 0),(10,.b 10 0),(12,vi s1.1),(13,vi s2.1),(14,vi s2.2)],[(4,.box (gU 0 0 0 0 0)),(9,.box (k0 x1.2.1 0 0)),(10,.box (k8 s1.2.1 s1.2.2.1 s1.2.2.2.1 s1.2.2.2.2.1 s1.2.2.2.2.2.1 s1.2.2.2.2.2.2))]⟩) (FN s1 x3) (s0:=(0,0)) aA (wt Q7 ⟨hr,hr,hr,Q0⟩ rfl) ?_));intro s2 y2 an dM;unfold FN at an;refine sq (sg ?_);refine ⟨_,rfl,_,au _,fun _=>?_⟩;refine ct an (fun hb an=>?_) fun hb an=>?_
     ·refine sk ?_;have ⟨v4,aO,an⟩:=η an;refine Ok.aB ⟨Γ [(4,.b 4 0),(8,.s (mG x3.1)),(9,.b 9 0),(10,.b 10 0),(12,vi s1.1),(13,vi v4),(14,vi s2.2)],[(4,.box (gU 0 0 0 0 0)),(9,.box (k0 x1.2.1 0 0)),(10,.box (k8 s1.2.1 s1.2.2.1 s1.2.2.2.1 s1.2.2.2.2.1 s1.2.2.2.2.2.1 s1.2.2.2.2.2.2))]⟩ ?_ ?_
      ·refine bl (sq (dw 11 tok mixed ?_));have ⟨x7,cP,aO⟩:=η aO;have ⟨x8,ew,aO⟩:=η aO;refine ⟨_,rfl,_,⟨_,rfl,rfl⟩,_,rfl,_,⟨_,aI cP,_,aK cP,rfl⟩,_,rfl,_,⟨_,rfl,rfl⟩,_,rfl,_,rfl,_,⟨_,aI ew,_,aK ew,rfl⟩,_,⟨_,rfl,rfl⟩,_,⟨_,lL _ _,rfl⟩,Q0,?_⟩;refine ct aO (fun hb aO=>?_) fun hb aO=>?_
       ·refine rg ?_;have ⟨x9,fi,aO⟩:=η aO;refine ⟨_,rfl,_,aI fi,_,aK fi,_,rfl,?_⟩;cases aO;exact wt Q7 J3 rfl
       refine sk ?_;cases aO;exact wt Q7 J3 rfl
      refine rg ?_;have ⟨ah,an⟩:=ak an;refine (af ⟨ah,?_⟩);exact ⟨_,sj an,wt Q7 J3 rfl⟩
     refine xt ?_;have an:=aN an dM;cases an;exact wt Q6 J3 rfl
    refine sg ?_;have ⟨cR,fR,ζ⟩:=η ζ;refine ⟨_,rfl,?_⟩;refine Θ.call (g_ fR) lz ?_;refine ⟨_,rfl,?_⟩;refine sq (sg ?_);refine ct ζ (fun hb ζ=>?_) fun hb ζ=>?_
    ·refine sg ?_;have ⟨ei,jA,ζ⟩:=η ζ;refine Θ.call (jr jA) lz ?_;refine ⟨_,rfl,?_⟩;refine rt ?_;have ζ:=aN ζ az;cases ζ;exact ⟨_,rfl,Fz.cq rfl⟩
    refine sk (rg ?_);refine ⟨_,rfl,_,rfl,?_⟩;exact ⟨_,ζ,wt Q5 ⟨hr,hr,hr,Q0⟩ rfl⟩
   intro v2 ζ;unfold FQ at ζ;refine rg ?_;have ⟨aQ,ζ⟩:=ak ζ;refine (af ⟨aQ,?_⟩);exact ⟨_,sj ζ,wt Q5 J3 rfl⟩
  refine xt ?_;have ζ:=aN ζ az;exact ⟨_,ζ,wt Q2 ⟨hr,hr,Q0⟩ rfl⟩
 intro v1 h;unfold FP at h;refine sg ?_;have ⟨v5,bg,h⟩:=η h;refine Ok.aB ⟨Γ [(4,.b 4 0),(10,.b 10 0),(17,.o 109)],[(4,.box (gU 0 0 0 0 0)),(10,.box (k8 v1.1 v1.2.1 v1.2.2.1 v1.2.2.2.1 v1.2.2.2.2.1 v1.2.2.2.2.2)),(109,.own 9 1 (mG v5))]⟩ ?_ ?_
 ·refine sg (bl (Ok.loop (fun (s3:Int×(List (List UInt8)))=>⟨Γ [(4,.b 4 0),(10,.b 10 0),(17,.o 109),(18,vi s3.1)],[(4,.box (gU 0 0 0 0 0)),(10,.box (k8 v1.1 v1.2.1 v1.2.2.1 v1.2.2.2.1 v1.2.2.2.2.1 v1.2.2.2.2.2)),(109,.own 9 1 (mG s3.2))]⟩) (FO v1) (s0:=(0,[])) bg ((Wk.nn (t:=17) (id:=109) (E:=9) (K:=1) rfl rfl).trans (wt Q4 ⟨hr,hr,hr,Q0⟩ rfl)) ?_));intro s3 y3 aT mi;unfold FO at aT;refine sq (sg ?_);refine ⟨_,rfl,_,au _,fun _=>?_⟩;refine ct aT (fun hb aT=>?_) fun hb aT=>?_
  ·refine sk (sq (bl (rg ?_)));have ⟨dG,jW,aT⟩:=η aT;have ⟨bN,aT⟩:=ak aT;refine ⟨_,rfl,_,aI jW,_,aK jW,_,rfl,af ⟨cL (f:=eA) (n:=1) (fun _=>rfl) ([dG.aR]),cJ (f:=eA) (l:=s3.2) (l':=[dG.aR]) bN,_,(bP (f:=eA) (l₁:=s3.2) (l₂:=[dG.aR])).symm,?_⟩⟩;refine rg ?_;have ⟨c8,aT⟩:=ak aT;refine (af ⟨c8,?_⟩);exact ⟨_,sj aT,wt Q4 J3 rfl⟩
  refine xt ?_;have aT:=aN aT mi;cases aT;exact wt Q3 J3 rfl
 refine sq (dw 12 tok mixed ?_);have ⟨fx,nU,h⟩:=η h;refine ⟨_,rfl,_,⟨_,rfl,rfl⟩,_,rfl,_,⟨_,rfl,rfl⟩,_,rfl,_,⟨_,rfl,rfl⟩,_,⟨_,rfl,rfl⟩,_,⟨_,.dz (Vk nU) lz,rfl⟩,_,rfl,_,rfl,_,⟨_,rfl,rfl⟩,_,rfl,Q0,_,rfl,?_⟩;refine rt ?_;cases h;exact ⟨_,rfl,Fz.a (.cons Fz.v (.cons Fz.v (.cons Fz.v (.cons Fz.v (.cons Fz.v (.cons (Fz.o rfl) (.cons Fz.s .nil)))))))⟩
end Go.Proofs
