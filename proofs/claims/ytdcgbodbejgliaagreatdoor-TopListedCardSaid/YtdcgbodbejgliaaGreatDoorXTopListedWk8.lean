/- The walks of this seat beside the plain programs, part 8. No condition. -/
import Derived.Test.YtdcgbodbejgliaaGreatDoorXTopListedWk7
open List renaming length_map → au, map_append → bP
open Or renaming inl → af
namespace Go.Proofs
set_option linter.all false
open Go Go.Cat Tryz
variable [M:bU] [K:LK]
set_option maxRecDepth 100000
set_option maxHeartbeats 4000000
def ae' {i g d c e r} (h:BR i g d c e=some r):Pure prog 101 [.a (b0 i),.s (mA g),vi d,vi c,vi e] (.t [.s (mA r.1),vi r.2]):=by
 refine pq tok 118 func101 ?_;unfold BR at h;refine sg (sg ?_);have ⟨x1,θ,h⟩:=η h;refine ⟨_,rfl,?_⟩;refine Θ.call (g_ θ) lz ?_;refine ⟨_,rfl,?_⟩;refine sq (sg ?_);refine ct h (fun hb h=>?_) fun hb h=>?_
 ·refine sg (rt ?_);cases h;exact (Fz.t (.cons Fz.s fq))
 refine sk (sg ?_);have ⟨x2,aq,h⟩:=η h;refine ⟨_,rfl,?_⟩;refine Θ.call (Vg aq) lz ?_;refine sq (sg ?_);refine ct h (fun hb h=>?_) fun hb h=>?_
 ·refine sg (rt ?_);cases h;exact (Fz.t (.cons Fz.s fq))
 refine sk (sg ?_);have ⟨x3,aF,h⟩:=η h;refine ⟨_,rfl,?_⟩;refine Θ.call (Vf aF) lz ?_;refine sq ?_;have ⟨v1,ν,h⟩:=η h;refine Ok.aB ⟨Γ [(1,.s (mA g)),(2,vi d),(3,vi c),(4,vi e),(52,vb v1)],[]⟩ ?_ ?_
 ·refine rg ?_;have ⟨c2,ξ,ν⟩:=η ν;refine Br.ite ξ (fun hb ξ=>?_) fun hb ξ=>?_
  ·have ⟨c1,ax,ξ⟩:=η ξ;refine Br.cO ax (fun hb ax=>?_) fun hb ax=>?_
   ·cases ax;cases ξ;cases ν;exact wt Q5 Q0 rfl
   cases ax;cases ξ;cases ν;exact wt Q5 Q0 rfl
  cases ξ;cases ν;exact wt Q5 Q0 rfl
 refine ct h (fun hb h=>?_) fun hb h=>?_
 ·refine sg (rt ?_);cases h;exact (Fz.t (.cons Fz.s fq))
 refine sk (sq ?_);have ⟨v2,Δ,h⟩:=η h;refine Ok.aB ⟨Γ [(1,.s (mA g)),(2,vi d),(3,vi c),(4,vi e),(66,vb v2)],[]⟩ ?_ ?_
 ·refine rg ?_;have ⟨c3,aL,Δ⟩:=η Δ;refine Br.ite aL (fun hb aL=>?_) fun hb aL=>?_
  ·have ⟨x4,aV,aL⟩:=η aL;refine Θ.call (Vh aV) lz ?_;cases aL;have ⟨c4,bI,Δ⟩:=η Δ;refine Br.ite bI (fun hb bI=>?_) fun hb bI=>?_
   ·refine ⟨_,au _,fun _=>?_⟩;cases bI;cases Δ;exact wt Q5 Q0 rfl
   cases bI;cases Δ;exact wt Q5 Q0 rfl
  cases aL;have ⟨c4,bZ,Δ⟩:=η Δ;replace bZ:=c9 bZ;cases bZ;cases Δ;exact wt Q5 Q0 rfl
 refine ct h (fun hb h=>?_) fun hb h=>?_
 ·refine sg (rt ?_);cases h;exact (Fz.t (.cons Fz.s fq))
 refine sk (sg ?_);refine sg ?_;have ⟨v3,aA,h⟩:=η h;refine Ok.aB ⟨Γ [(2,vi d),(3,vi c),(4,vi e),(17,.o 93),(18,vb v3.1)],[(93,.own 86 3 (mA v3.2))]⟩ ?_ ?_
 ·refine sg (bl (Ok.loop (fun (s1:Bool×Int×(List aU))=>⟨Γ [(1,.s (mA g)),(2,vi d),(3,vi c),(4,vi e),(17,.o 93),(18,vb s1.1),(19,vi s1.2.1)],[(93,.own 86 3 (mA s1.2.2))]⟩) (Fi g d c e) (s0:=((decide (c<0)),0,[])) aA ((Wk.nn (t:=17) (id:=93) (E:=86) (K:=3) rfl rfl).trans (wt Q7 ⟨hr,Q0⟩ rfl)) ?_));intro s1 y1 ζ az;unfold Fi at ζ;refine sq (sg ?_);refine ⟨_,au _,fun _=>?_⟩;refine ct ζ (fun hb ζ=>?_) fun hb ζ=>?_
  ·refine sk ?_;have ⟨v4,aO,ζ⟩:=η ζ;refine Ok.aB ⟨Γ [(1,.s (mA g)),(2,vi d),(3,vi c),(4,vi e),(17,.o 93),(18,vb v4.1),(19,vi s1.2.1)],[(93,.own 86 3 (mA v4.2))]⟩ ?_ ?_
   ·refine bl ?_;have ⟨v5,bg,aO⟩:=η aO;refine Ok.aB ⟨Γ [(1,.s (mA g)),(2,vi d),(3,vi c),(4,vi e),(17,.o 93),(18,vb v5.1),(19,vi s1.2.1)],[(93,.own 86 3 (mA v5.2))]⟩ ?_ ?_
    ·have ⟨v6,bX,bg⟩:=η bg;refine Ok.aB ⟨Γ [(1,.s (mA g)),(2,vi d),(3,vi c),(4,vi e),(17,.o 93),(18,vb s1.1),(19,vi s1.2.1),(86,vb v6)],[(93,.own 86 3 (mA s1.2.2))]⟩ ?_ ?_
     ·refine rg ?_;have ⟨c5,cI,bX⟩:=η bX;refine Br.ite cI (fun hb cI=>?_) fun hb cI=>?_
      ·have ⟨x5,bJ,cI⟩:=η cI;refine ⟨_,aI bJ,_,aK bJ,_,rfl,?_⟩;cases cI;cases bX;exact wt Q8 J1 rfl
      cases cI;cases bX;exact wt Q8 J1 rfl
     refine ct bg (fun hb bg=>?_) fun hb bg=>?_
     ·refine sg ?_;have ⟨ah,bg⟩:=ak bg;refine af ⟨cL (f:=gr) (n:=3) (fun _=>rfl) ([(⟨d,c,e⟩:aU)]),cJ (f:=gr) (l:=s1.2.2) (l':=[(⟨d,c,e⟩:aU)]) ah,_,(bP (f:=gr) (l₁:=s1.2.2) (l₂:=[(⟨d,c,e⟩:aU)])).symm,?_⟩;refine rg ?_;cases bg;exact wt Q7 J1 rfl
     refine sk ?_;cases bg;exact wt Q7 J1 rfl
    refine sg ?_;have ⟨x6,cK,aO⟩:=η aO;refine ⟨_,aI cK,_,aK cK,_,rfl,?_⟩;refine ct aO (fun hb aO=>?_) fun hb aO=>?_
    ·refine rg ?_;have ⟨x7,cP,aO⟩:=η aO;have ⟨aQ,aO⟩:=ak aO;refine ⟨_,aI cP,_,aK cP,_,rfl,af ⟨cL (f:=gr) (n:=3) (fun _=>rfl) ([x7]),cJ (f:=gr) (l:=v5.2) (l':=[x7]) aQ,_,(bP (f:=gr) (l₁:=v5.2) (l₂:=[x7])).symm,?_⟩⟩;cases aO;exact wt Q7 J1 rfl
    refine sk ?_;cases aO;exact wt Q7 J1 rfl
   refine rg ?_;have ⟨bN,ζ⟩:=ak ζ;refine (af ⟨bN,?_⟩);exact ⟨_,sj ζ,wt Q7 J1 rfl⟩
  refine xt ?_;have ζ:=aN ζ az;cases ζ;exact wt Q5 J1 rfl
 have ⟨v7,eV,h⟩:=η h;refine Ok.aB ⟨Γ [(17,.o 93)],[(93,.own 86 3 (mA v7))]⟩ ?_ ?_
 ·refine sg (ct eV (fun hb eV=>?_) fun hb eV=>?_)
  ·refine rg ?_;have ⟨c8,eV⟩:=ak eV;refine af ⟨cL (f:=gr) (n:=3) (fun _=>rfl) ([(⟨d,c,e⟩:aU)]),cJ (f:=gr) (l:=v3.2) (l':=[(⟨d,c,e⟩:aU)]) c8,_,(bP (f:=gr) (l₁:=v3.2) (l₂:=[(⟨d,c,e⟩:aU)])).symm,?_⟩;cases eV;exact wt Q1 J1 rfl
  refine sk ?_;cases eV;exact wt Q1 J1 rfl
 refine sg (rt ?_);cases h;exact (Fz.t (.cons (Fz.o rfl) fq))
def afg {c d r} (h:B1 c d=some r):Pure prog 102 [.a (b1 c),vi d] (.t [.a (b1 r.1),vi r.2.1,vi r.2.2]):=by
 refine pq tok 58 func102 ?_;unfold B1 at h;refine sg (sg ?_);have ⟨x1,θ,h⟩:=η h;refine ⟨_,rfl,?_⟩;refine Θ.call (g_ θ) lz ?_;refine ⟨_,rfl,?_⟩;refine sq (sg ?_);refine ct h (fun hb h=>?_) fun hb h=>?_
 ·refine sg ⟨_,rfl,_,rfl,?_⟩;refine rt ?_;cases h;exact ⟨_,rfl,Fz.t fq⟩
 refine sk (sq (sg ?_));refine ⟨_,rfl,?_⟩;refine ct h (fun hb h=>?_) fun hb h=>?_
 ·refine sg ⟨_,rfl,_,rfl,?_⟩;refine rt ?_;cases h;exact ⟨_,rfl,Fz.t fq⟩
 refine sk (sq ?_);have ⟨v1,ν,h⟩:=η h;refine Ok.aB ⟨Γ [(1,vi d),(2,.b 2 0),(4,.b 4 0),(33,vb v1)],[(2,.box (b1 c)),(4,.box (k3 0 0 0 0))]⟩ ?_ ?_
 ·refine rg ⟨_,rfl,_,au _,fun _=>?_⟩;have ⟨c1,ξ,ν⟩:=η ν;refine Br.cO ξ (fun hb ξ=>?_) fun hb ξ=>?_
  ·cases ξ;cases ν;exact wt Q4 J2 rfl
  refine ⟨_,rfl,?_⟩;cases ξ;cases ν;exact wt Q4 J2 rfl
 refine ct h (fun hb h=>?_) fun hb h=>?_
 ·refine sg ⟨_,rfl,_,rfl,?_⟩;refine rt ?_;cases h;exact ⟨_,rfl,Fz.t fq⟩
 refine sk (sg ?_);have ⟨ah,h⟩:=ak h;refine Or.inr ⟨_,rfl,cL (f:=qd) (n:=3) (fun _=>rfl) c.cm,cJ (f:=qd) (l:=([]:List cw)) (l':=c.cm) ah,_,(bP (f:=qd) (l₁:=([]:List cw)) (l₂:=c.cm)).symm,?_⟩;refine sg ?_;have ⟨aQ,h⟩:=ak h;refine ⟨_,rfl,_,rfl,af ⟨cL (f:=qd) (n:=3) (fun _=>rfl) ([(⟨c.Next,d,c.bH⟩:cw)]),cJ (f:=qd) (l:=([]:List cw)++c.cm) (l':=[(⟨c.Next,d,c.bH⟩:cw)]) aQ,_,(bP (f:=qd) (l₁:=([]:List cw)++c.cm) (l₂:=[(⟨c.Next,d,c.bH⟩:cw)])).symm,?_⟩⟩;refine sg ⟨_,rfl,?_⟩;refine sg ⟨_,rfl,?_⟩;refine sg ?_;have ⟨bN,h⟩:=ak h;refine ⟨_,rfl,af ⟨bN,_,rfl,?_⟩⟩;refine sg ⟨_,rfl,_,rfl,?_⟩;refine rt ?_;cases h;exact ⟨_,rfl,Fz.t (.cons (Fz.a (.cons Fz.s (.cons Fz.v (.cons Fz.v (.cons Fz.v (.cons Fz.s (.cons Fz.s (.cons (Fz.o rfl) fq)))))))) fq)⟩
def afs {c d r} (h:Cd c d=some r):Pure prog 50 [.a (b2 c),.a (j_ d)] (.t [.a (b2 r.1),.a (kb r.2)]):=by
 refine pq tok 170 func50 ?_;unfold Cd at h;refine sg (sg ⟨_,rfl,_,rfl,?_⟩);refine sg ?_;have ⟨x1,θ,h⟩:=η h;refine ⟨_,rfl,_,rfl,?_⟩;refine Θ.call (ND θ) lz ?_;refine sq (sg ?_);refine ct h (fun hb h=>?_) fun hb h=>?_
 ·refine sq (dw 3 tok mixed ?_);have ⟨x2,aq,h⟩:=η h;refine ⟨_,⟨_,rfl,rfl⟩,_,rfl,_,⟨_,.dz (jr aq) lz,rfl⟩,Q0,_,rfl,_,rfl,?_⟩;refine rt ?_;cases h;exact ⟨_,rfl,_,rfl,Fz.t fq⟩
 refine sk (sg ?_);have ⟨x3,aF,h⟩:=η h;refine ⟨_,rfl,?_⟩;refine Θ.call (g_ aF) lz ?_;refine ⟨_,rfl,?_⟩;refine Ok.cU (fun v1=>⟨Γ [(2,.b 2 0),(4,.b 4 0),(5,.b 5 0),(7,vi x1.1)],[(2,.box (b2 c)),(4,.box (k6 0 0 0 0)),(5,.box (gU 0 0 0 0 0))]⟩) (fun v1=>FW c x1 v1=some r) ?_ ?_
 ·refine sg ⟨_,rfl,?_⟩;refine bl (sg ?_);refine ct h (fun hb h=>?_) fun hb h=>?_
  ·refine sq (Ok.gP (m:=5) (late:=[1,2,3,4]) (MD:=⟨[]⟩) (CH:=⟨[]⟩) tok mixed (by kernel_rfl) ?_);refine ⟨_,⟨_,rfl,rfl⟩,_,rfl,_,rfl,_,⟨_,rfl,rfl⟩,_,rfl,Q0,?_⟩;refine ⟨_,rfl,⟨⟨_,rfl,rfl⟩,⟨_,rfl,rfl⟩,⟨_,rfl,_,rfl,rfl⟩,⟨_,rfl,rfl⟩,Q0⟩,_,rfl,?_⟩;refine rt ?_;cases h;exact ⟨_,rfl,_,rfl,Fz.t (.cons (Fz.cq rfl) (.cons (Fz.a (.cons Fz.v (.cons Fz.v (.cons Fz.v (.cons Fz.v (.cons Fz.v (.cons Fz.nil (.cons Fz.nil .nil)))))))) .nil))⟩
  refine sg (ct h (fun hb h=>?_) fun hb h=>?_)
  ·refine sq (Ok.gP (m:=9) (late:=[1,2,3,4,5,8]) (MD:=⟨[]⟩) (CH:=⟨[]⟩) tok mixed (by kernel_rfl) ?_);have ⟨x4,aV,h⟩:=η h;refine ⟨_,⟨_,rfl,rfl⟩,_,rfl,_,rfl,_,⟨_,rfl,rfl⟩,_,rfl,_,⟨_,rfl,rfl⟩,_,⟨_,rfl,rfl⟩,_,⟨_,.dz (Vk aV) lz,rfl⟩,_,rfl,Q0,?_⟩;refine ⟨_,rfl,⟨⟨_,rfl,rfl⟩,⟨_,rfl,rfl⟩,⟨_,rfl,_,rfl,rfl⟩,⟨_,rfl,rfl⟩,⟨_,rfl,_,rfl,rfl⟩,⟨_,rfl,rfl⟩,Q0⟩,_,rfl,?_⟩;refine rt ?_;cases h;exact ⟨_,rfl,_,rfl,Fz.t (.cons (Fz.cq rfl) (.cons (Fz.a (.cons Fz.v (.cons Fz.v (.cons Fz.v (.cons Fz.v (.cons Fz.v (.cons Fz.nil (.cons Fz.nil .nil)))))))) .nil))⟩
  refine sg (ct h (fun hb h=>?_) fun hb h=>?_)
  ·refine sg ?_;have ⟨x5,bJ,h⟩:=η h;refine ⟨_,rfl,_,rfl,_,rfl,?_⟩;refine Θ.call (aeV bJ) lz ?_;refine sq (sg ?_);refine ct h (fun hb h=>?_) fun hb h=>?_
   ·refine sq (dw 3 tok mixed ?_);have ⟨x6,cK,h⟩:=η h;refine ⟨_,⟨_,rfl,rfl⟩,_,rfl,_,⟨_,.dz (jr cK) lz,rfl⟩,Q0,_,rfl,_,rfl,?_⟩;refine rt ?_;cases h;exact ⟨_,rfl,_,rfl,Fz.t fq⟩
   refine sk (sg ?_);have ⟨v2,Δ,h⟩:=η h;refine Ok.aB ⟨Γ [(2,.b 2 0),(4,.b 4 0),(5,.b 5 0),(12,vi x5.2.1),(14,.o 97)],[(2,.box (b2 c)),(4,.box (k6 0 0 0 0)),(5,.box (gU 0 0 0 0 0)),(97,.own 9 1 (mG v2))]⟩ ?_ ?_
   ·refine sg (bl (Ok.loop (fun (s1:Int×(List (List UInt8)))=>⟨Γ [(2,.b 2 0),(4,.b 4 0),(5,.b 5 0),(11,.s (mC x5.1)),(12,vi x5.2.1),(14,.o 97),(15,vi s1.1)],[(2,.box (b2 c)),(4,.box (k6 0 0 0 0)),(5,.box (gU 0 0 0 0 0)),(97,.own 9 1 (mG s1.2))]⟩) (FV x5) (s0:=(0,[])) Δ ((Wk.nn (t:=14) (id:=97) (E:=9) (K:=1) rfl rfl).trans (wt Q7 ⟨hr,hr,hr,hr,Q0⟩ rfl)) ?_));intro s1 y1 ζ az;unfold FV at ζ;refine sq (sg ?_);refine ⟨_,au _,fun _=>?_⟩;refine ct ζ (fun hb ζ=>?_) fun hb ζ=>?_
    ·refine sk (sq (bl (rg ?_)));have ⟨x7,cP,ζ⟩:=η ζ;have ⟨ah,ζ⟩:=ak ζ;refine ⟨_,aI cP,_,aK cP,_,rfl,af ⟨cL (f:=eA) (n:=1) (fun _=>rfl) ([x7.aR]),cJ (f:=eA) (l:=s1.2) (l':=[x7.aR]) ah,_,(bP (f:=eA) (l₁:=s1.2) (l₂:=[x7.aR])).symm,?_⟩⟩;refine rg ?_;have ⟨aQ,ζ⟩:=ak ζ;refine (af ⟨aQ,?_⟩);exact ⟨_,sj ζ,wt Q7 J4 rfl⟩
    refine xt ?_;have ζ:=aN ζ az;cases ζ;exact wt Q5 J4 rfl
   refine sg ⟨_,rfl,_,rfl,_,rfl,?_⟩;refine rt ?_;cases h;exact ⟨_,rfl,_,rfl,Fz.t (.cons (Fz.cq rfl) (.cons (Fz.a (.cons Fz.v (.cons Fz.v (.cons Fz.v (.cons Fz.v (.cons Fz.v (.cons (Fz.o rfl) (.cons Fz.nil .nil)))))))) .nil))⟩
  refine sg (ct h (fun hb h=>?_) fun hb h=>?_)
  ·refine sg ?_;have ⟨x8,ew,h⟩:=η h;refine ⟨_,rfl,_,rfl,_,rfl,_,rfl,?_⟩;refine Θ.call (ae9 ew) lz ?_;refine sq (sg ?_);refine ct h (fun hb h=>?_) fun hb h=>?_
   ·refine sq (dw 3 tok mixed ?_);have ⟨x9,fi,h⟩:=η h;refine ⟨_,⟨_,rfl,rfl⟩,_,rfl,_,⟨_,.dz (jr fi) lz,rfl⟩,Q0,_,rfl,_,rfl,?_⟩;refine rt ?_;cases h;exact ⟨_,rfl,_,rfl,Fz.t fq⟩
   refine sk (sg ?_);refine ⟨_,rfl,?_⟩;refine sg ⟨_,rfl,_,rfl,_,rfl,?_⟩;refine rt ?_;cases h;exact ⟨_,rfl,_,rfl,Fz.t (.cons (Fz.cq rfl) (.cons (Fz.a (.cons Fz.v (.cons Fz.v (.cons Fz.v (.cons Fz.v (.cons Fz.v (.cons Fz.nil (.cons Fz.nil .nil)))))))) .nil))⟩
  refine sg (ct h (fun hb h=>?_) fun hb h=>?_)
  ·refine sg ?_;have ⟨cR,fR,h⟩:=η h;refine ⟨_,rfl,_,rfl,_,rfl,_,rfl,?_⟩;refine Θ.call (ae' fR) lz ?_;refine sg ?_;have ⟨ei,jA,h⟩:=η h;refine ⟨_,rfl,_,rfl,?_⟩;refine Θ.call (wS jA) (l4 (.cons (Le.a (l4 (l1 (.cons (Le.nil) (.cons (Le.nil) .nil))))) .nil)) ?_;refine ⟨_,rfl,_,rfl,?_⟩;refine sq (Ok.gP (m:=2) (late:=[1]) (MD:=⟨[]⟩) (CH:=⟨[]⟩) tok mixed (by kernel_rfl) ?_);refine ⟨_,⟨_,rfl,rfl⟩,_,⟨_,rfl,rfl⟩,Q0,?_⟩;refine ⟨_,rfl,⟨⟨_,rfl,_,rfl,rfl⟩,Q0⟩,_,rfl,?_⟩;refine rt ?_;cases h;exact ⟨_,rfl,_,rfl,Fz.t fq⟩
  refine sk ?_;exact ⟨_,h,wt Q4 ⟨hr,hr,hr,Q0⟩ rfl⟩
 intro v1 h;unfold FW at h;refine sg ?_;have ⟨dG,jW,h⟩:=η h;refine ⟨_,rfl,?_⟩;refine Θ.call (afg jW) lz ?_;refine ⟨_,rfl,?_⟩;refine sq (sg ?_);refine ct h (fun hb h=>?_) fun hb h=>?_
 ·refine sq (dw 3 tok mixed ?_);have ⟨fx,nU,h⟩:=η h;refine ⟨_,⟨_,rfl,rfl⟩,_,rfl,_,⟨_,.dz (jr nU) lz,rfl⟩,Q0,_,rfl,_,rfl,?_⟩;refine rt ?_;cases h;exact ⟨_,rfl,_,rfl,Fz.t fq⟩
 refine sk (sg ?_);refine ⟨_,rfl,_,rfl,?_⟩;refine sg ⟨_,rfl,_,rfl,_,rfl,?_⟩;refine rt ?_;cases h;exact ⟨_,rfl,_,rfl,Fz.t (.cons (Fz.cq rfl) (.cons (Fz.a (.cons Fz.v (.cons Fz.v (.cons Fz.v (.cons Fz.v (.cons Fz.v (.cons Fz.nil (.cons Fz.nil .nil)))))))) .nil))⟩
def ae7 {a b r} (h:BN a b=some r):Pure prog 159 [.s (mF a),vi b] (vi r):=by
 refine pq tok 23 func159 ?_;unfold BN at h;refine sg (sg ?_);have ⟨v1,ν,h⟩:=η h;refine Ok.aB ⟨Γ [(5,vi v1)],[]⟩ ?_ ?_
 ·refine sg (bl (Ok.loop (fun (s1:Int×Int)=>⟨Γ [(0,.s (mF a)),(1,vi b),(5,vi s1.1),(6,vi s1.2)],[]⟩) (Fe a b) (s0:=(0,0)) ν (wt Q4 Q0 rfl) ?_));intro s1 y1 ζ az;unfold Fe at ζ;refine sq (sg ?_);refine ⟨_,au _,fun _=>?_⟩;refine ct ζ (fun hb ζ=>?_) fun hb ζ=>?_
  ·refine sk ?_;have ⟨v2,Δ,ζ⟩:=η ζ;refine Ok.aB ⟨Γ [(0,.s (mF a)),(1,vi b),(5,vi v2),(6,vi s1.2)],[]⟩ ?_ ?_
   ·refine bl (sg ?_);have ⟨x1,θ,Δ⟩:=η Δ;refine ⟨_,aI θ,_,aK θ,_,rfl,?_⟩;refine ct Δ (fun hb Δ=>?_) fun hb Δ=>?_
    ·refine rg ?_;have ⟨ah,Δ⟩:=ak Δ;refine (af ⟨ah,?_⟩);cases Δ;exact wt Q4 Q0 rfl
    refine sk ?_;cases Δ;exact wt Q4 Q0 rfl
   refine rg ?_;have ⟨aQ,ζ⟩:=ak ζ;refine (af ⟨aQ,?_⟩);exact ⟨_,sj ζ,wt Q4 Q0 rfl⟩
  refine xt ?_;have ζ:=aN ζ az;cases ζ;exact wt Q1 Q0 rfl
 refine sg (rt ?_);cases h;exact Fz.v
def Vd {c d e g r} (h:yM c d e g=some r):Pure prog 103 [.a (b0 c),.s (mF d),vi e,vi g] (.t [.a (b0 r.1),.s (mF r.2.1),vi r.2.2]):=by
 refine pq tok 59 func103 ?_;unfold yM at h;refine sg (sg ?_);have ⟨x1,θ,h⟩:=η h;refine Θ.call (NJ θ) lz ?_;refine sq (sg ?_);refine ct h (fun hb h=>?_) fun hb h=>?_
 ·refine sg ⟨_,rfl,_,rfl,?_⟩;refine rt ?_;cases h;exact ⟨_,rfl,Fz.t (.cons (Fz.cq rfl) (.cons Fz.s fq))⟩
 refine sk (sg ?_);have ⟨x2,aq,h⟩:=η h;refine ⟨_,aI aq,_,aK aq,_,rfl,?_⟩;refine sg ?_;have ⟨ah,h⟩:=ak h;have ⟨aQ,h⟩:=ak h;refine Or.inr ⟨_,fK ah.1,Nat.zero_le _,nW ah,mo (f:=ga) (K:=3) (fun _=>rfl) d,_,wL _ _ _,cL (f:=ga) (n:=3) (fun _=>rfl) (d.take x1.toNat),cJ (f:=ga) (l:=([]:List bq)) (l':=d.take x1.toNat) aQ,_,(bP (f:=ga) (l₁:=([]:List bq)) (l₂:=d.take x1.toNat)).symm,?_⟩;refine sg ?_;have ⟨bN,h⟩:=ak h;have ⟨c8,h⟩:=ak h;have ⟨eJ,h⟩:=ak h;refine (af ⟨bN,_,fK c8.1,nW c8,Nat.le_refl _,mo (f:=ga) (K:=3) (fun _=>rfl) d,_,Cg _ _ _,cL (f:=ga) (n:=3) (fun _=>rfl) (d.drop (x1+1).toNat),cJ (f:=ga) (l:=([]:List bq)++(d.take x1.toNat)) (l':=d.drop (x1+1).toNat) eJ,_,(bP (f:=ga) (l₁:=([]:List bq)++(d.take x1.toNat)) (l₂:=d.drop (x1+1).toNat)).symm,?_⟩);refine sq ?_;have ⟨v1,ν,h⟩:=η h;refine Ok.aB ⟨Γ [(4,.b 4 0),(8,.b 8 0),(12,vi x2.κ),(13,.o 29),(48,vb v1)],[(4,.box (b0 c)),(8,.box (k1 0 0)),(29,.own 84 3 (mF ((([]:List bq)++(d.take x1.toNat))++(d.drop (x1+1).toNat))))]⟩ ?_ ?_
 ·refine rg ?_;have ⟨x3,aF,ν⟩:=η ν;refine ⟨_,rfl,?_⟩;refine Θ.call (Ve aF) lz ?_;have ⟨c1,ξ,ν⟩:=η ν;refine Br.ite ξ (fun hb ξ=>?_) fun hb ξ=>?_
  ·have ⟨x4,aV,ξ⟩:=η ξ;refine Θ.borrow (ae7 aV) (.cons (Fz.o rfl) fq) rfl ?_;cases ξ;cases ν;exact wt Q5 J3 rfl
  cases ξ;cases ν;exact wt Q5 J3 rfl
 refine ct h (fun hb h=>?_) fun hb h=>?_
 ·refine sg ?_;have ⟨x5,bJ,h⟩:=η h;refine ⟨_,rfl,?_⟩;refine Θ.call (U_ bJ) lz ?_;refine ⟨_,rfl,?_⟩;refine sg ⟨_,rfl,_,rfl,?_⟩;refine rt ?_;cases h;exact ⟨_,rfl,Fz.t (.cons (Fz.cq rfl) (.cons (Fz.o rfl) fq))⟩
 refine sk (sg ?_);refine ⟨_,rfl,_,rfl,?_⟩;refine rt ?_;cases h;exact ⟨_,rfl,Fz.t (.cons (Fz.cq rfl) (.cons (Fz.o rfl) fq))⟩
def ae8 {a b c r} (h:BO a b c=some r):Pure prog 104 (R7 a b c) (.t [vi r.1,vi r.2]):=by
 refine pq tok 20 func104 ?_;unfold BO at h;refine sg (sg ?_);have ⟨x1,θ,h⟩:=η h;refine Θ.call (NJ θ) lz ?_;refine sq (sg ?_);refine ct h (fun hb h=>?_) fun hb h=>?_
 ·refine sg (rt ?_);cases h;exact (Fz.t fq)
 refine sk (sg ?_);have ⟨x2,aq,h⟩:=η h;refine ⟨_,aI aq,_,aK aq,_,rfl,?_⟩;refine rt ?_;cases h;exact (Fz.t fq)
def agp {c b a r} (h:yU c b a=some r):jb prog 105 (Kj c b a) 5 1 (mU r):=by
 refine pv tok 42 func105 ?_;unfold yU at h;refine sg (sg ?_);have ⟨ah,h⟩:=ak h;refine Or.inr ⟨cL (f:=du) (n:=1) (fun _=>rfl) c,cJ (f:=du) (l:=([]:List UInt8)) (l':=c) ah,_,(bP (f:=du) (l₁:=([]:List UInt8)) (l₂:=c)).symm,?_⟩;refine sq (sg ?_);refine ⟨_,au _,fun _=>?_⟩;refine ct h (fun hb h=>?_) fun hb h=>?_
 ·refine sg (rt ?_);cases h;exact (.inr ⟨_,rfl,rfl⟩)
 refine sk ?_;have ⟨v1,ν,h⟩:=η h;refine Ok.aB ⟨Γ [(1,vi b),(2,.s (mU a)),(7,.o 9)],[(9,.own 5 1 (mU v1))]⟩ ?_ ?_
 ·refine bl (Ok.loop (fun (s1:(List UInt8))=>⟨Γ [(1,vi b),(2,.s (mU a)),(7,.o 9)],[(9,.own 5 1 (mU s1))]⟩) (FD b a) (s0:=([]:List UInt8)++c) ν (wt Q3 ⟨hr,Q0⟩ rfl) ?_);intro s1 y1 ζ az;unfold FD at ζ;refine sq (sg ?_);have ⟨aQ,ζ⟩:=ak ζ;refine ⟨_,au _,fun _=>⟨_,au _,fun _=>(af ⟨aQ,?_⟩)⟩⟩;refine ct ζ (fun hb ζ=>?_) fun hb ζ=>?_
  ·refine sk (bl (rg ?_));have ⟨bN,ζ⟩:=ak ζ;refine af ⟨cL (f:=du) (n:=1) (fun _=>rfl) ([0]),cJ (f:=du) (l:=s1) (l':=[0]) bN,_,(bP (f:=du) (l₁:=s1) (l₂:=[0])).symm,?_⟩;exact ⟨_,sj ζ,wt Q3 J1 rfl⟩
  refine xt ?_;have ζ:=aN ζ az;cases ζ;exact wt Q3 J1 rfl
 have ⟨v2,Δ,h⟩:=η h;refine Ok.aB ⟨Γ [(7,.o 9)],[(9,.own 5 1 (mU v2))]⟩ ?_ ?_
 ·refine sg (bl (Ok.loop (fun (s2:Int×(List UInt8))=>⟨Γ [(1,vi b),(2,.s (mU a)),(7,.o 9),(8,vi s2.1)],[(9,.own 5 1 (mU s2.2))]⟩) (FE a b) (s0:=(0,v1)) Δ (wt Q4 ⟨hr,Q0⟩ rfl) ?_));intro s2 y2 an dM;unfold FE at an;refine sq (sg ?_);refine ⟨_,au _,fun _=>?_⟩;refine ct an (fun hb an=>?_) fun hb an=>?_
  ·refine sk (sq (bl (rg ?_)));have ⟨c8,an⟩:=ak an;have ⟨x1,θ,an⟩:=η an;have ⟨x2,aq,an⟩:=η an;refine (af ⟨c8,_,aI θ,_,aK θ,_,rfl,_,aI aq,jY aq,_,aK aq,rfl,_,rfl,_,wI (f:=du) (x:=x1),?_⟩);refine rg ?_;have ⟨eJ,an⟩:=ak an;refine (af ⟨eJ,?_⟩);exact ⟨_,sj an,wt Q4 J1 rfl⟩
  refine xt ?_;have an:=aN an dM;cases an;exact wt Q1 J1 rfl
 refine sg (rt ?_);cases h;exact (.inr ⟨_,rfl,rfl⟩)
def afj {a b c r} (h:yU a b c=some r):Pure prog 105 (Kj a b c) (.s (mU r)):=(agp h).pure
def U' {c e d r} (h:yH c e d=some r):Pure prog 106 [.a (b0 c),vi e,.s (mU d)] (.t [.a (b0 r.1),vi r.2]):=by
 refine pq tok 34 func106 ?_;unfold yH at h;refine sg (sg ?_);have ⟨x1,θ,h⟩:=η h;refine ⟨_,rfl,?_⟩;refine Θ.call (g_ θ) lz ?_;refine ⟨_,rfl,?_⟩;refine sq (sg ?_);refine ct h (fun hb h=>?_) fun hb h=>?_
 ·refine sg ⟨_,rfl,_,rfl,?_⟩;refine rt ?_;cases h;exact ⟨_,rfl,Fz.t fq⟩
 refine sk (sq (sg ?_));refine ⟨_,rfl,?_⟩;refine ct h (fun hb h=>?_) fun hb h=>?_
 ·refine sg ⟨_,rfl,_,rfl,?_⟩;refine rt ?_;cases h;exact ⟨_,rfl,Fz.t fq⟩
 refine sk (sq (sg ?_));refine ⟨_,au _,fun _=>?_⟩;refine ct h (fun hb h=>?_) fun hb h=>?_
 ·refine sg ⟨_,rfl,_,rfl,?_⟩;refine rt ?_;cases h;exact ⟨_,rfl,Fz.t fq⟩
 refine sk (sg ?_);have ⟨ah,h⟩:=ak h;refine Or.inr ⟨cL (f:=du) (n:=1) (fun _=>rfl) d,cJ (f:=du) (l:=([]:List UInt8)) (l':=d) ah,_,(bP (f:=du) (l₁:=([]:List UInt8)) (l₂:=d)).symm,_,rfl,?_⟩;refine sg ?_;have ⟨x2,aq,h⟩:=η h;refine ⟨_,rfl,_,rfl,?_⟩;refine Θ.freeze (id:=27) rfl (Θ.call (wR aq) lz ?_);refine ⟨_,rfl,?_⟩;refine rt ?_;cases h;exact ⟨_,rfl,Fz.t fq⟩
end Go.Proofs
