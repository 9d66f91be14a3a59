/- The walks of this seat beside the plain programs, part 11. No condition. -/
import Derived.Test.YtdcgbodbejgliaaGreatDoorXTopListedWk10
open List renaming length_map → au
open Or renaming inl → af
namespace Go.Proofs
set_option linter.all false
open Go Go.Cat Tryz
variable [M:bU] [K:LK]
set_option maxRecDepth 100000
set_option maxHeartbeats 4000000
def afJ [mP] {d c r} (h:Cp d c=some r):Pure prog 3 [.s (mK d),vu c] (vb r):=by
 refine pq tok 133 func3 ?_;unfold Cp at h;refine sg (sg ?_);have ⟨x1,θ,h⟩:=η h;refine Θ.call (afM θ) lz ?_;refine sq (sg ?_);have ⟨x2,aq,h⟩:=η h;refine Θ.call (aeD aq) lz ?_;refine ct h (fun hb h=>?_) fun hb h=>?_
 ·refine sg (rt ?_);cases h;exact Fz.v
 refine sk (sg ?_);have ⟨x3,aF,h⟩:=η h;refine Θ.call (aeF aF) lz ?_;refine ⟨_,rfl,?_⟩;refine sg ?_;have ⟨ah,h⟩:=ak h;have ⟨x4,aV,h⟩:=η h;refine ⟨_,rfl,_,VE (k:=.i64) (by decide) _,(by decide),_,rfl,af ⟨ah,?_⟩⟩;refine Θ.call (afO aV) lz ?_;refine sq (sg ?_);refine ct h (fun hb h=>?_) fun hb h=>?_
 ·refine sg (rt ?_);cases h;exact Fz.v
 refine sk (sg ?_);have ⟨v1,ν,h⟩:=η h;refine Ok.aB ⟨Γ [(5,vb x1),(6,.b 6 0),(7,.s (mG x4.1)),(9,vi v1)],[(6,.box (b2 x3))]⟩ ?_ ?_
 ·refine sg (bl (Ok.loop (fun (s1:Int×Int)=>⟨Γ [(5,vb x1),(6,.b 6 0),(7,.s (mG x4.1)),(9,vi s1.1),(10,vi s1.2)],[(6,.box (b2 x3))]⟩) (Cq x3) (s0:=(1,0)) ν (wt Q5 ⟨hr,Q0⟩ rfl) ?_));intro s1 y1 ζ az;unfold Cq at ζ;refine sq (sg ?_);refine ⟨_,rfl,_,au _,fun _=>?_⟩;refine ct ζ (fun hb ζ=>?_) fun hb ζ=>?_
  ·refine sk (sq (bl (rg ?_)));have ⟨x5,bJ,ζ⟩:=η ζ;have ⟨aQ,ζ⟩:=ak ζ;refine ⟨_,rfl,_,aI bJ,_,aK bJ,_,rfl,_,au _,fun _=>(af ⟨aQ,?_⟩)⟩;refine rg ?_;have ⟨bN,ζ⟩:=ak ζ;refine (af ⟨bN,?_⟩);exact ⟨_,sj ζ,wt Q5 J1 rfl⟩
  refine xt ?_;have ζ:=aN ζ az;cases ζ;exact wt Q4 J1 rfl
 refine Ok.cU (fun v2=>⟨Γ [(5,vb x1),(6,.b 6 0),(7,.s (mG x4.1)),(9,vi v1)],[(6,.box (b2 x3))]⟩) (fun v2=>Gq x4 x3 x1 v1 v2=some r) ?_ ?_
 ·refine sg (bl (Ok.loop (fun (s2:Int)=>⟨Γ [(5,vb x1),(6,.b 6 0),(7,.s (mG x4.1)),(9,vi v1),(11,vi s2)],[(6,.box (b2 x3))]⟩) (Cr x4 x3 x1 v1) (s0:=0) h (wt Q5 ⟨hr,Q0⟩ rfl) ?_));intro s2 y2 an dM;unfold Cr at an;refine sq (sg ?_);refine ⟨_,au _,fun _=>?_⟩;refine ct an (fun hb an=>?_) fun hb an=>?_
  ·refine sk (Ok.cU (fun v3=>⟨Γ [(5,vb x1),(6,.b 6 0),(7,.s (mG x4.1)),(9,vi v1),(11,vi s2)],[(6,.box (b2 x3))]⟩) (fun v3=>Gr s2 v3=some y2) ?_ ?_)
   ·refine bl (sg ?_);refine bl (Ok.loop (fun (s3:Int)=>⟨Γ [(5,vb x1),(6,.b 6 0),(7,.s (mG x4.1)),(9,vi v1),(11,vi s2),(12,vi s3)],[(6,.box (b2 x3))]⟩) (Gp s2 x4) (s0:=0) an (wt Q6 ⟨hr,Q0⟩ rfl) ?_);intro s3 y3 aT mi;unfold Gp at aT;refine sq (sg ?_);refine ct aT (fun hb aT=>?_) fun hb aT=>?_
    ·refine sk (sq (bl (sq (dw 9 tok mixed ?_))));have ⟨x6,cK,aT⟩:=η aT;have ⟨x7,cP,aT⟩:=η aT;refine ⟨_,rfl,_,rfl,_,⟨_,aI cK,_,aK cK,rfl⟩,_,⟨_,rfl,rfl⟩,_,rfl,_,rfl,_,⟨_,aI cP,_,aK cP,rfl⟩,_,⟨_,rfl,rfl⟩,_,⟨_,lL _ _,rfl⟩,Q0,?_⟩;refine ct aT (fun hb aT=>?_) fun hb aT=>?_
     ·refine sg (rt ?_);have aT:=aN aT mi;have aT:=aN aT dM;cases aT;exact Fz.v
     refine sk (rg ?_);have ⟨c8,aT⟩:=ak aT;refine (af ⟨c8,?_⟩);exact ⟨_,sj aT,wt Q6 J1 rfl⟩
    refine xt ?_;have aT:=aN aT mi;exact ⟨_,aT,wt Q5 ⟨hr,Q0⟩ rfl⟩
   intro v3 an;unfold Gr at an;refine rg ?_;have ⟨eJ,an⟩:=ak an;refine (af ⟨eJ,?_⟩);exact ⟨_,sj an,wt Q5 J1 rfl⟩
  refine xt ?_;have an:=aN an dM;exact ⟨_,an,wt Q4 ⟨hr,Q0⟩ rfl⟩
 intro v2 h;unfold Gq at h;refine sg (sg ?_);have ⟨v4,aO,h⟩:=η h;refine Ok.aB ⟨Γ [(5,vb x1),(6,.b 6 0),(7,.s (mG x4.1)),(9,vi v1),(13,vi v4),(14,vi (0))],[(6,.box (b2 x3))]⟩ ?_ ?_
 ·refine sg (bl (Ok.loop (fun (s4:Int×Int)=>⟨Γ [(5,vb x1),(6,.b 6 0),(7,.s (mG x4.1)),(9,vi v1),(13,vi s4.1),(14,vi (0)),(15,vi s4.2)],[(6,.box (b2 x3))]⟩) (Cs x4 x3) (s0:=(0,0)) aO (wt Q7 ⟨hr,Q0⟩ rfl) ?_));intro s4 y4 lx hy4;unfold Cs at lx;refine sq (sg ?_);refine ⟨_,au _,fun _=>?_⟩;refine ct lx (fun hb lx=>?_) fun hb lx=>?_
  ·refine sk (sq (bl (sq (Ok.gP (m:=12) (late:=[9]) (MD:=⟨[]⟩) (CH:=⟨[]⟩) tok mixed (by kernel_rfl) ?_))));have ⟨x8,ew,lx⟩:=η lx;have ⟨x9,fi,lx⟩:=η lx;refine ⟨_,⟨_,rfl,rfl⟩,_,rfl,_,rfl,_,⟨_,aI ew,_,aK ew,rfl⟩,_,⟨_,rfl,rfl⟩,_,rfl,_,⟨_,.dz (ua fi) (l1 (.cons (Le.a (l4 (l2 (l1 (.cons (Le.nil) .nil))))) .nil)),rfl⟩,_,rfl,_,rfl,_,rfl,Q0,?_⟩;refine ⟨_,rfl,⟨⟨_,rfl,rfl⟩,Q0⟩,_,rfl,?_⟩;refine rg ?_;have ⟨nJ,lx⟩:=ak lx;refine ⟨_,rfl,af ⟨nJ,?_⟩⟩;refine rg ?_;have ⟨xL,lx⟩:=ak lx;refine (af ⟨xL,?_⟩);exact ⟨_,sj lx,wt Q7 J1 rfl⟩
  refine xt ?_;have lx:=aN lx hy4;cases lx;exact wt Q6 J1 rfl
 have ⟨v5,bg,h⟩:=η h;refine Ok.aB ⟨Γ [(5,vb x1),(7,.s (mG x4.1)),(9,vi v1),(13,vi v4),(14,vi v5)],[]⟩ ?_ ?_
 ·refine sg (bl (Ok.loop (fun (s5:Int×Int)=>⟨Γ [(5,vb x1),(6,.b 6 0),(7,.s (mG x4.1)),(9,vi v1),(13,vi v4),(14,vi s5.1),(18,vi s5.2)],[(6,.box (b2 x3))]⟩) (Ct x3) (s0:=(0,0)) bg (wt Q7 ⟨hr,Q0⟩ rfl) ?_));intro s5 y5 ly hy5;unfold Ct at ly;refine sq (sg ?_);refine ⟨_,rfl,_,au _,fun _=>?_⟩;refine ct ly (fun hb ly=>?_) fun hb ly=>?_
  ·refine sk (sq (bl (sg ?_)));have ⟨cR,fR,ly⟩:=η ly;refine ⟨_,rfl,_,aI fR,_,aK fR,_,rfl,_,rfl,?_⟩;refine rg ?_;have ⟨DP,ly⟩:=ak ly;have ⟨DQ,ly⟩:=ak ly;refine ⟨_,rfl,_,rfl,af ⟨DP,af ⟨DQ,?_⟩⟩⟩;refine rg ?_;have ⟨DN,ly⟩:=ak ly;refine (af ⟨DN,?_⟩);exact ⟨_,sj ly,wt Q7 J1 rfl⟩
  refine xt ?_;have ly:=aN ly hy5;cases ly;exact wt Q5 Q0 rfl
 have ⟨v6,bX,h⟩:=η h;refine Ok.aB ⟨Γ [(4,vb v6)],[]⟩ ?_ ?_
 ·refine rg ?_;have ⟨c1,ξ,bX⟩:=η bX;refine Br.ite ξ (fun hb ξ=>?_) fun hb ξ=>?_
  ·refine ⟨_,au _,fun _=>?_⟩;cases ξ;have ⟨c2,ax,bX⟩:=η bX;refine Br.ite ax (fun hb ax=>?_) fun hb ax=>?_
   ·have ⟨DO,ax⟩:=ak ax;refine (af ⟨DO,?_⟩);cases ax;cases bX;exact wt Q1 Q0 rfl
   cases ax;cases bX;exact wt Q1 Q0 rfl
  cases ξ;have ⟨c2,aL,bX⟩:=η bX;replace aL:=c9 aL;cases aL;cases bX;exact wt Q1 Q0 rfl
 refine rt ?_;cases h;exact Fz.v
end Go.Proofs
