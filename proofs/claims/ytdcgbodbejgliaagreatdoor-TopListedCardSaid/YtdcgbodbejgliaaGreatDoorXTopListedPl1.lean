/- The plain law, piece 1. No condition. -/
import Derived.Test.YtdcgbodbejgliaaGreatDoorXTopListedPl0
import Derived.Test.YtdcgbodbejgliaaGreatDoorXTopListedIn
import Derived.KernelRfl
open Int renaming toNat_natCast → jH
open List renaming length_map → au, getElem?_eq_getElem → bO, length_cons → cr, length_append → cZ, length_take → da, length_nil → dK, mem_singleton → dV, mem_filter → dU, mem_map → cV, getElem_mem → eH, mem_of_getElem? → iN, mem_append → iY, length_drop → lP, of_mem_zip → ahD
open Nat renaming le_refl → bm, zero_le → hZ
namespace Go.Proofs
set_option linter.all false
open Go Go.Cat
section
def Sh:∀(n:Nat) (l:List Int),l.Pairwise (·≠·)→(∀x,x∈l→0≤x∧x<n)→l.length≤n
 |0,l,_,h=>by
  cases l with
  |nil=>exact bm _
  |cons x r=>have:=h x (by simp);omega
 |n+1,l,hp,h=>by
  have h1:=Sh n (l.filter fun x=>x != (n:Int)) (hp.filter _) fun x hx=>by
   obtain ⟨a,b⟩:=dU.1 hx;have:=h x a;simp at b;omega
  have h2:∀l:List Int,l.Pairwise (·≠·)→l.length≤(l.filter fun x=>x != (n:Int)).length+1:=by
   intro l;induction l with
   |nil=>intro _;exact hZ _
   |cons x r ih =>
    intro hp;obtain ⟨a,b⟩:=List.pairwise_cons.1 hp;rw [List.filter_cons];by_cases e:x=(n:Int)
    ·have:r.filter (fun x=>x != (n:Int))=r:=by
      rw [List.filter_eq_self];intro y hy;have:=a y hy;simp;omega
     rw [if_neg (by simp [e]),this];exact bm _
    ·have:=ih b;rw [if_pos (by simpa using e)];simp only [cr];omega
  have:=h2 l hp;omega
def RT.data {t:Φ} (h:RT t) {n:ψ} (hn:n∈t.ι):n.aP.length≤4096:=by
 rcases h.nd n hn with hf|⟨_,hd,_⟩
 ·exact hf.2.2.2.1
 ·rw [hd];simp
def TF.Ip {B:Nat} {t:Φ} (h:TF B t) (i:Int):TF B (qk t i).1:=by
 unfold qk;split
 ·exact h
 split
 ·exact h
 split
 ·exact h
 ·exact h.drop i
def TF.WA {B:Nat} {t:Φ} (h:TF B t) (hB:B≤90000) (i:Int) (s:List UInt8) (k:Int):TF (B+5) (sx t i s k).1:=by
 unfold sx;split
 ·exact h.up (by omega)
 split
 ·exact h.up (by omega)
 split
 ·exact h.up (by omega)
 ·exact ((h.OX k _).re i s t.Next).up (by omega)
def TF.lnT {B:Nat} {t:Φ} (h:TF B t) (hB:B≤90000) (i to:Int) (s:List UInt8):TF (B+5) (tu t i to s).1:=by
 unfold tu;split
 ·exact h.up (by omega)
 split
 ·exact h.up (by omega)
 split
 ·exact h.up (by omega)
 ·exact ((h.Sl i).re to s i).up (by omega)
def TF.aem {B:Nat} {t:Φ} (h:TF B t) (hB:B≤90000) (i:Int) (s:List UInt8):TF (B+5) (t_ t i s).1:=by
 unfold t_;split
 ·exact h.up (by omega)
 split
 ·exact h.up (by omega)
 ·exact ((h.nj i s).un _).up (by omega)
def TF.abG {B:Nat} {t:Φ} (h:TF B t) (hB:B≤90000) (fr:Int) (s:List UInt8) (to:Int) (bC:List UInt8):TF (B+5) (tC t fr s to bC).1:=by
 unfold tC
 repeat (split;exact h.up (by omega))
 exact ((h.kT (C:=B+3) (h.iv _ _ _ _ _ _) (by omega) _ _).re _ _ _).up (by omega)
def TF.S3 {B:Nat} {t:Φ} (h:TF B t) (i:Int) (x:List UInt8):TF (B+5) (tH t i x).1:=by
 unfold tH;split
 ·exact h.up (by omega)
 split
 ·exact h.up (by omega)
 split
 ·exact h.up (by omega)
 ·have h1:=h.gE i;have h2:=h.gL i;have h3:=h.c;have h4:=h.x;exact (h.put (n:=⟨(gD t.ι i).κ,(gD t.ι i).Ω,(gD t.ι i).a_,x,(gD t.ι i).ae,(gD t.ι i).Up⟩) (by dsimp only;omega) (by dsimp only;omega) (by omega) (by omega)).up (by omega)
def SI.EY {k:Nat} {s:bS} (h:SI k s) (hk:k≤200) {t:Φ} (ht:gO t.ι) (hf:TF (2+5*k+5) t):PF (2+5*k+5) s t :=
 ⟨h.f.up (by omega),hf,by omega,h.t.s,ht,h.si,by have:=h.tk;omega,by have:=h.ps;omega,by have:=h.ta;omega⟩
def SI.KY {k:Nat} {s:bS} (h:SI k s) (hk:k≤200) {t:Φ} (Rw:TS t) (hf:TF (2+5*k+5) t):SI (k+1) (yB s t):=by
 unfold yB;split
 ·exact h.up (by omega)
 have hpf:=h.EY hk Rw.s hf;have nT:=h.tk;refine ⟨hf.up (by omega),Rw,by simp,by dsimp only;omega,by have:=h.nx;dsimp only;omega,fun q hq=>?_,by have:=h.ta;dsimp only;omega,?_,fun p hp=>?_,h.id,fun x hx=>?_,fun p hp=>?_⟩
 ·obtain ⟨n,hn,rfl⟩:=cV.1 hq;dsimp only;unfold oQ;split
  ·next j hj =>
   have:=(List.findIdx?_eq_some_iff_getElem.1 hj).1
   have Ξ:j<s.dI.length:=by rw [h.si];omega
   rw [bO Ξ];have:=h.sn _ (eH Ξ);simp only [Option.getD_some];omega
  ·omega
 ·show (s.cW++Bm s _).length≤_;unfold Bm;rw [cZ,au];have h1:=List.length_filter_le (oL s t) (s.aC.ι.zip s.dI);rw [hpf.zl] at h1;have:=h.ps;have:=h.f.n;omega
 ·rcases iY.1 hp with hp|hp
  ·have:=h.pe p hp;omega
  ·obtain ⟨q,hq,rfl⟩:=cV.1 hp;have:=h.f.e _ (ahD (dU.1 hq).1).1;dsimp only;omega
 ·have:=h.ti x hx;dsimp only;omega
 ·rcases iY.1 hp with hp|hp
  ·have:=h.pt p hp;exact ⟨by dsimp only;omega,this.2⟩
  ·obtain ⟨q,hq,rfl⟩:=cV.1 hp;obtain ⟨h1,h2⟩:=dU.1 hq;have:=h.sn _ (ahD h1).2;unfold oL at h2;exact ⟨by dsimp only;omega,by simpa using (Bool.and_eq_true_iff.1 h2).2⟩
def RT.ts {t:Φ} (h:RT t):TS t:=⟨h.s,fun n hn=>by have:=h.lo n hn;omega,h.rt,fun n hn e he=>W.Be h hn he⟩
abbrev En {α:Type} (x:Option α):Prop:=ε x fun _=>True
def En.of {α:Type} {x:Option α} {Q:α→Prop} (h:ε x Q):En x:=h.mono fun _ _=>trivial
def En.bb {c:Prop} [Decidable c] {a b:Bool}:En (if c then some a else some b):=by split<;>exact ⟨_,rfl,trivial⟩
def En.bt {c:Prop} [Decidable c] {a:Bool} {x:Option Bool} (h:En x):En (if c then some a else x):=by
 split
 ·exact ⟨_,rfl,trivial⟩
 ·exact h
def En.tb {c:Prop} [Decidable c] {a:Bool} {x:Option Bool} (h:c→En x):En (if c then x else some a):=by
 split
 ·exact h ‹_›
 ·exact ⟨_,rfl,trivial⟩
def En.b {α β:Type} {x:Option α} {f:α→Option β} {Q:β→Prop} (h:En x) (hf:∀a,ε (f a) Q):ε (x.bind f) Q:=ε.bind h fun a _=>hf a
def En.r {α:Type} (a:α):En (some a):=⟨_,rfl,trivial⟩
section
variable {B:Nat} {t:Φ}
def PJ (l:List aU) (i:Int) (hl:l.length≤1000000):En (yQ l i):=by
 unfold yQ TB;refine ε.ou (l:=l) (fun _=>True) (fun n x Ξ hx _=>?_) (fun _=>?_) trivial<;>unfold Fk
 ·exact ε.cond (by simpa using Ξ) (ε.ay (bd hx) (ε.ite (fun _=>ε.out (ε.ret trivial)) fun _=>ε.τ (by unfold Ψ;omega) (ε.inl ⟨rfl,trivial⟩)))
 ·exact ε.bf (by simp) (ε.out (ε.ret trivial))
def X0 (l:List aU) (i:Int) (hl:l.length≤1000000) (ht:t.ι.length≤1000000):En (BQ t l i):=by
 unfold BQ Ty;refine ε.loop (fun s:Int×Int=>∃n:Nat,s.2=(n:Int)∧n≤t.ι.length+1) (fun s=>t.ι.length+1-s.2.toNat) ?_ _ ⟨0,rfl,hZ _⟩;rintro ⟨a,b⟩ ⟨n,e,hn⟩;dsimp only at e;subst e;unfold Fh;by_cases Ξ:n≤t.ι.length
 ·exact ε.cond (by simpa using Ξ) (En.b (PJ l a hl) fun _=>ε.ite (fun _=>ε.out (ε.ret trivial)) fun _=>ε.ite (fun _=>ε.out (ε.ret trivial)) fun _=>ε.ay (gX t a ht) (ε.τ (by unfold Ψ;dsimp only;omega) (ε.inl ⟨⟨n+1,by dsimp only;omega,by omega⟩,by dsimp only;omega⟩)))
 ·exact ε.bf (by simpa using Ξ) (ε.out (ε.ret trivial))
def PI (i:Int) (ht:t.ι.length≤1000000):En (yP t i):=by
 unfold yP;exact ε.ay (gX t i ht) (En.b (En.b En.bb En.r) En.r)
def Ye (i:Int) (ht:t.ι.length≤1000000):ε (BS t i) fun r=>r<t.ι.length:=by
 unfold BS TC;refine ε.ou (l:=t.ι) (fun _=>True) (fun n x Ξ hx _=>?_) (fun _=>?_) trivial<;>unfold Fl
 ·exact ε.cond (by simpa using Ξ) (ε.ay (bd hx) (ε.ite (fun _=>ε.out (ε.ret (by omega))) fun _=>ε.τ (by unfold Ψ;omega) (ε.inl ⟨rfl,trivial⟩)))
 ·exact ε.bf (by simp) (ε.out (ε.ret (by omega)))
def Yg (h:TF B t) (hB:B≤90000) (i:Int):ε (yR t i) fun r=>r.length=t.ι.length:=by
 have ht:=h.n;unfold yR TD;refine ε.τ ⟨by omega,by rw [jH];omega⟩ (ε.loop (fun s:Int×List Bool=>∃n:Nat,s.1=(n:Int)∧n≤t.ι.length∧s.2.length=t.ι.length) (fun s=>t.ι.length-s.1.toNat) ?_ _ ⟨0,rfl,hZ _,by simp⟩);rintro ⟨a,o⟩ ⟨n,e,hn,ho⟩;dsimp only at e ho;subst e;unfold Fm;by_cases Ξ:n<t.ι.length
 ·refine ε.cond (by simpa using Ξ) (ε.bind (R:=fun v=>v.2.length=t.ι.length) ?_ fun v hv=>?_)
  ·unfold TE;refine ε.xr (l:=t.ι) (fun s:Bool×Int×List Bool=>s.2.1) (fun _ s=>s.2.2.length=t.ι.length) (fun m x s hm hx hc hs=>?_) (fun s hc hs=>?_) _ rfl ho<;>(obtain ⟨d,c,w⟩:=s;dsimp only at hc hs;subst hc;unfold Fo)
   ·have hw:=bO (show m<w.length by omega);refine ε.cond (by simpa using hm) (ε.bind (R:=fun v=>v.2.length=t.ι.length) ?_ fun v hv=>ε.τ (by unfold Ψ;dsimp only;omega) (ε.inl ⟨rfl,hv⟩));refine En.b (ε.ay (bd hw) (En.b (En.tb fun _=>ε.ay (bd hx) (En.r _)) En.r)) fun _=>ε.ite (fun _=>ε.ret hs) fun _=>?_;unfold TG;have hE:=h.e x (iN hx);refine ε.xr (l:=x.ae) (fun s:Bool×Int×List Bool=>s.2.1) (fun _ s=>s.2.2.length=t.ι.length) (fun k e s hk he hc hs=>?_) (fun s hc hs=>?_) _ rfl hs<;>(obtain ⟨d2,c2,w2⟩:=s;dsimp only at hc hs;subst hc;unfold Fp;refine ε.ay (bd hx) ?_)
    ·refine ε.cond (by simpa using hk) (ε.bind (R:=fun v=>v.2.length=t.ι.length) ?_ fun v hv=>ε.τ (by unfold Ψ;dsimp only;omega) (ε.inl ⟨rfl,hv⟩));refine ε.ay (bd hx) (ε.ay (bd he) (ε.bind (Ye e.κ (by omega)) fun p hp=>?_));have hi:p≥0→En (idx w2 p):=fun h0=>ε.idx h0 (by omega) fun _ _=>trivial;by_cases D9:p≥0
     ·refine En.b (En.b (ε.cond (by simpa using D9) (En.b (hi D9) fun _=>En.r _)) En.r) fun v=>ε.ite (fun _=>En.b (hi D9) fun _=>ε.ret (by simpa using hs)) fun _=>ε.ret hs
     ·exact ε.ay (a:=false) (ε.eq (ε.ay (a:=false) (ε.eq (ε.bf (by simpa using D9) (ε.ret rfl))) (ε.ret rfl))) (ε.bf (by simp) (ε.ret hs))
    ·exact ε.bf (by simp) (ε.out (ε.ret hs))
   ·exact ε.bf (by simp) (ε.out (ε.ret hs))
  ·refine ε.ite (fun _=>ε.out (ε.ret hv)) fun _=>?_;unfold Fq;exact ε.τ (by unfold Ψ;dsimp only;omega) (ε.inl ⟨⟨n+1,by dsimp only;omega,Ξ,hv⟩,by dsimp only;omega⟩)
 ·exact ε.bf (by simpa using Ξ) (ε.out (ε.ret ho))
def PG (h:TF B t) (hB:B≤90000) (hd:∀n,n∈t.ι→n.aP.length≤5000) (i:Int):En (yO t i):=by
 have ht:=h.n;unfold yO;refine En.b (PI i (by omega)) fun _=>ε.ite (fun _=>En.r _) fun _=>ε.bind (Yg h hB i) fun u hu=>En.b ?_ fun _=>En.r _;unfold TA;refine ε.xr (l:=u) (fun s:Int×Int×Int=>s.2.2) (fun n s=>0≤s.1∧s.1≤n∧0≤s.2.1∧s.2.1≤5000*(n:Int)) (fun n x s Ξ hx hc hs=>?_) (fun s hc hs=>?_) _ rfl (by simp)<;>(obtain ⟨a,b,c⟩:=s;dsimp only at hc hs;subst hc;unfold Fj)
 ·have hy:=bO (show n<t.ι.length by omega);have l6:=hd _ (eH (show n<t.ι.length by omega));refine ε.cond (by simpa using Ξ) (ε.bind (R:=fun v:Int×Int=>0≤v.1∧v.1≤n+1∧0≤v.2∧v.2≤5000*(n:Int)+5000) (ε.ay (bd hx) (ε.ite (fun _=>ε.τ (by unfold Ψ;dsimp only;omega) (ε.ay (bd hy) (ε.τ (by unfold Ψ;dsimp only;omega) (ε.ret (by dsimp only;omega))))) fun _=>ε.ret (by dsimp only;omega))) fun v hv=>ε.τ (by unfold Ψ;dsimp only;omega) (ε.inl ⟨rfl,?_⟩));dsimp only;omega
 ·exact ε.bf (by simp) (ε.out (ε.ret trivial))
def X' (h:TF B t) (hB:B≤90000) (hd:∀n,n∈t.ι→n.aP.length≤5000) (l:List aU) (hl:l.length≤100000) (i a b:Int):ε (BR t l i a b) fun r=>r.1.length≤l.length+1:=by
 have ht:=h.n;unfold BR;refine ε.ay (gX t i (by omega)) (ε.ite (fun _=>ε.ret (by simp)) fun _=>En.b (PI i (by omega)) fun _=>ε.ite (fun _=>ε.ret (by simp)) fun _=>En.b (PG h hB hd i) fun _=>En.b (En.b (En.tb fun _=>En.b En.bb En.r) En.r) fun _=>ε.ite (fun _=>ε.ret (by simp)) fun _=>En.b (En.b (En.tb fun _=>En.b (PJ l i (by omega)) fun _=>En.r _) fun _=>En.b En.bb En.r) fun _=>ε.ite (fun _=>ε.ret (by simp)) fun _=>ε.bind (R:=fun v:Bool×List aU=>v.2.length+(if v.1 then 0 else 1)≤l.length+1) ?_ fun v hv=>?_)
 ·unfold Tz;refine ε.xr (l:=l) (fun s:Bool×Int×List aU=>s.2.1) (fun n s=>s.2.2.length+(if s.1 then 0 else 1)≤n+1) (fun n x s Ξ hx hc hs=>?_) (fun s hc hs=>?_) _ rfl (by simp;split<;>simp)<;>(obtain ⟨d,c,o⟩:=s;dsimp only at hc hs;subst hc;unfold Fi;dsimp only)
  ·have hol:o.length≤n+1:=by omega
   refine ε.cond (by simpa using Ξ) (ε.bind (R:=fun v:Bool×List aU=>v.2.length+(if v.1 then 0 else 1)≤n+2) (ε.bind (R:=fun v:Bool×List aU=>v.2.length+(if v.1 then 0 else 1)≤n+1) ?_ fun v hv=>?_) fun v hv=>ε.τ (by unfold Ψ;omega) (ε.inl ⟨rfl,hv⟩))
   ·cases d with
    |true=>exact ε.ay (a:=false) rfl (ε.bf (by simp) (ε.ret hs))
    |false =>
     refine En.b (En.b (ε.cond rfl (ε.ay (bd hx) (En.r _))) En.r) fun _=>ε.ite (fun _=>ε.τ (by simp only [cr,dK];omega) (ε.ret ?_)) fun _=>ε.ret hs;simp at hs ⊢;omega
   ·have:v.2.length≤n+1:=by omega
    refine ε.ay (bd hx) (ε.ite (fun _=>ε.ay (bd hx) (ε.τ (by simp only [cr,dK];omega) (ε.ret ?_))) fun _=>ε.ret (by dsimp only;omega));dsimp only;rw [cZ,cr,dK];omega
  ·exact ε.bf (by simp) (ε.out (ε.ret hs))
 ·refine ε.bind (R:=fun v:List aU=>v.length≤l.length+1) ?_ fun v hv=>ε.ret hv;obtain ⟨d,o⟩:=v;cases d with
  |true=>exact ε.bf (by simp) (ε.ret (by simpa using hv))
  |false=>exact ε.cond rfl (ε.τ (by simp at hv ⊢;omega) (ε.ret (by simp at hv ⊢;omega)))
def PL (i:Int) (ht:t.ι.length≤1000000):En (yN t i):=by
 unfold yN;exact ε.ay (gX t i ht) (En.b (En.b En.bb fun _=>En.b En.bb En.r) En.r)
def Ic (l:List bq) (c k:Int) (hl:l.length≤1000000):ε (wq l c k) fun r=>r<l.length:=by
 unfold wq Tx;refine ε.ou (l:=l) (fun _=>True) (fun n x Ξ hx _=>?_) (fun _=>?_) trivial<;>unfold Fg
 ·exact ε.cond (by simpa using Ξ) (En.b (ε.ay (bd hx) (En.b (En.tb fun _=>ε.ay (bd hx) (En.r _)) En.r)) fun _=>ε.ite (fun _=>ε.out (ε.ret (by omega))) fun _=>ε.τ (by unfold Ψ;omega) (ε.inl ⟨rfl,trivial⟩))
 ·exact ε.bf (by simp) (ε.out (ε.ret (by omega)))
def X7 (l:List bq) (c k i:Int) (hl:l.length≤100000) (ht:t.ι.length≤1000000):ε (BP t l c k i) fun r=>r.1.length≤l.length+1:=by
 unfold BP;refine ε.ay (gX t i ht) (En.b (En.b En.bb fun _=>En.b En.bb fun _=>En.b En.bb En.r) fun _=>ε.ite (fun _=>ε.ret (by simp)) fun _=>En.b (En.b (En.bt (En.b (PL i ht) En.r)) En.r) fun _=>ε.ite (fun _=>ε.ret (by simp)) fun _=>ε.ite (fun _=>ε.ret (by simp)) fun _=>ε.bind (Ic l c k (by omega)) fun _ _=>ε.ite (fun _=>ε.ret (by simp)) fun _=>ε.ite (fun _=>ε.ret (by simp)) fun _=>ε.bind (R:=fun v:Int=>∃n:Nat,v=n∧n≤l.length) ?_ fun v hv=>?_)
 ·unfold Tw;refine ε.ou (l:=l) (fun _=>True) (fun n x Ξ hx _=>?_) (fun _=>?_) trivial<;>unfold Ff
  ·exact En.b (En.b (En.tb fun _=>ε.ay (bd hx) (En.b (En.bt (ε.ay (bd hx) (En.b (En.tb fun _=>ε.ay (bd hx) (En.r _)) En.r))) En.r)) En.r) fun _=>ε.ite (fun _=>ε.τ (by unfold Ψ;omega) (ε.inl ⟨rfl,trivial⟩)) fun _=>ε.out (ε.ret ⟨n,rfl,by omega⟩)
  ·exact ε.ay (a:=false) (ε.eq (ε.ay (a:=false) (ε.eq (ε.bf (by simp) (ε.ret rfl))) (ε.ret rfl))) (ε.bf (by simp) (ε.out (ε.ret ⟨l.length,rfl,bm _⟩)))
 ·obtain ⟨n,rfl,hn⟩:=hv;rw [jH];refine ε.τ (by omega) (ε.τ ?_ (ε.τ ?_ (ε.τ (by omega) (ε.τ ?_ (ε.ret ?_)))))<;>simp only [cZ,da,lP,cr,dK]<;>omega
def X2 (l:List bq) (i:Int) (hl:l.length≤1000000):En (BN l i):=by
 unfold BN Tv;refine En.b (ε.qg (l:=l) (fun n s=>0≤s∧s≤(n:Int)) (fun n x s Ξ hx hs=>?_) (fun s hs=>?_) _ (by simp)) En.r<;>unfold Fe
 ·refine ε.cond (by simpa using Ξ) (ε.bind (R:=fun v:Int=>0≤v∧v≤(n:Int)+1) (ε.ay (bd hx) (ε.ite (fun _=>ε.τ (by unfold Ψ;dsimp only;omega) (ε.ret (by dsimp only;omega))) fun _=>ε.ret (by dsimp only;omega))) fun v hv=>ε.τ (by unfold Ψ;dsimp only;omega) (ε.inl ⟨rfl,?_⟩));dsimp only;omega
 ·exact ε.bf (by simp) (ε.out (ε.ret trivial))
def PE (h:TF B t) (hB:B≤90000) (l:List bq) (c k:Int) (hl:l.length≤100000):ε (yM t l c k) fun r=>(r.1=t∨∃j,r.1=(qk t j).1)∧r.2.1.length≤l.length:=by
 have ht:=h.n;unfold yM;refine ε.bind (Ic l c k (by omega)) fun p hp=>ε.ite (fun _=>ε.ret ⟨.inl rfl,bm _⟩) fun h0=>?_
 have h0:0≤p:=by simp at h0;omega
 have Ξ:p.toNat<l.length:=by omega
 have e:p=(p.toNat:Int):=by omega
 refine ε.ay (by rw [e];exact bd (bO Ξ)) ?_
 have hlen:(([]:List bq)++l.take p.toNat++l.drop (p+1).toNat).length≤l.length:=by
  simp only [cZ,da,lP,dK];omega
 refine ε.τ (by omega) (ε.τ ?_ (ε.τ (by unfold Ψ;omega) (ε.τ (by omega) (ε.τ ?_ (En.b (En.b (PL _ (by omega)) fun _=>En.b (En.tb fun _=>En.b (X2 _ _ (by omega)) fun _=>En.r _) En.r) fun _=>ε.ite (fun _=>ε.ay (S5 h hB _) (ε.ret ⟨.inr ⟨_,rfl⟩,hlen⟩)) fun _=>ε.ret ⟨.inl rfl,hlen⟩)))))
 ·simp only [da,dK];omega
 ·simp only [cZ,da,lP,dK];omega
def X3 (l:List bq) (c k:Int) (hl:l.length≤1000000):En (BO l c k):=by
 unfold BO;refine ε.bind (Ic l c k hl) fun p hp=>ε.ite (fun _=>En.r _) fun h0=>En.b (ε.idx (by simp at h0;omega) (by omega) fun _ _=>trivial) fun _=>En.r _
def SA {c:Int} (j:Int) (h:t.Next=c):(qk t j).1.Next=c:=by
 unfold qk;split
 ·exact h
 split
 ·exact h
 split;iterate 2 exact h
def X1 (h:RT t) (hf:TF B t) (hB:B≤90000) (l:List bq) (c:Int) (hl:l.length≤100000):ε (BM t l c) fun r=>(RT r.1∧TF B r.1∧r.1.Next=t.Next)∧r.2.length≤l.length:=by
 unfold BM Tu;refine ε.bind (R:=fun v:List bq×List ψ×Int×Int=>(RT ⟨v.2.1,v.2.2.1,v.2.2.2⟩∧TF B ⟨v.2.1,v.2.2.1,v.2.2.2⟩∧v.2.2.1=t.Next)∧v.1.length≤l.length) ?_ fun v hv=>ε.ret hv;refine ε.loop (fun s:List bq×Int×List ψ×Int×Int=>∃n:Nat,s.2.1=(n:Int)∧n≤100∧(RT ⟨s.2.2.1,s.2.2.2.1,s.2.2.2.2⟩∧TF B ⟨s.2.2.1,s.2.2.2.1,s.2.2.2.2⟩∧s.2.2.2.1=t.Next)∧s.1.length≤l.length) (fun s=>100-s.2.1.toNat) ?_ _ ⟨0,rfl,by omega,⟨h,hf,rfl⟩,bm _⟩;rintro ⟨m,b,ns,nx,ck⟩ ⟨n,e,hn,⟨h1,h2,h3⟩,h4⟩;dsimp only at e h1 h2 h3 h4;subst e;unfold Fc;by_cases Ξ:n≤99
 ·refine ε.cond (by simp;omega) (ε.bind (PE h2 hB m c (n:Int) (by omega)) fun r hr=>ε.τ (by unfold Ψ;dsimp only;omega) (ε.inl ⟨⟨n+1,by dsimp only;omega,by omega,?_,by dsimp only;omega⟩,by dsimp only;omega⟩));have e1:(⟨r.1.ι,r.1.Next,r.1.ar⟩:Φ)=r.1:=rfl;dsimp only;rw [e1]
  rcases hr.1 with e|⟨j,e⟩<;>rw [e]
  ·exact ⟨h1,h2,h3⟩
  ·exact ⟨h1.free j,h2.Ip j,SA j h3⟩
 ·exact ε.bf (by simp;omega) (ε.out (ε.ret ⟨⟨h1,h2,h3⟩,h4⟩))
end
end
section
section
def PK (l:List ψ) (n:ψ) (hl:l.length≤1000000):ε (wx l n) fun r=>r.length=l.length+1∧∀x,x∈r→x=n∨x∈l:=by
 unfold wx;refine ε.bind (R:=fun v:Int=>∃m:Nat,v=m∧m≤l.length) ?_ fun v hv=>?_
 ·unfold TQ;refine ε.ou (l:=l) (fun _=>True) (fun m x Ξ hx _=>?_) (fun _=>?_) trivial<;>unfold FA
  ·exact En.b (En.b (En.tb fun _=>ε.ay (bd hx) (En.r _)) En.r) fun _=>ε.ite (fun _=>ε.τ (by unfold Ψ;omega) (ε.inl ⟨rfl,trivial⟩)) fun _=>ε.out (ε.ret ⟨m,rfl,by omega⟩)
  ·exact ε.ay (a:=false) (ε.eq (ε.ay (a:=false) (ε.eq (ε.bf (by simp) (ε.ret rfl))) (ε.ret rfl))) (ε.bf (by simp) (ε.out (ε.ret ⟨l.length,rfl,bm _⟩)))
 ·obtain ⟨m,rfl,hm⟩:=hv;rw [jH];refine ε.τ (by omega) (ε.τ ?_ (ε.τ ?_ (ε.τ (by omega) (ε.τ ?_ (ε.ret ⟨?_,fun x hx=>?_⟩)))));iterate 4 (simp only [cZ,da,lP,cr,dK];omega)
  rw [List.nil_append] at hx
  rcases iY.1 hx with hx|hx
  ·rcases iY.1 hx with hx|hx
   ·exact .inr (List.mem_of_mem_take hx)
   ·exact .inl (dV.1 hx)
  ·exact .inr (List.mem_of_mem_drop hx)
def X_ {B:Nat} (s:bS) (a:Int) (hn:s.aC.ι.length≤1000) (hp:s.cW.length≤500000) (he:∀n,n∈s.aC.ι→n.ae.length≤B) (hq:∀p,p∈s.cW→p.p9.ae.length≤B) :
  ε (B0 s a) fun r=>r.length≤501000∧∀n,n∈r→n.ae.length≤B:=by
 unfold B0;refine ε.bind (R:=fun v:List ψ=>v.length≤s.aC.ι.length∧∀n,n∈v→n.ae.length≤B) ?_ fun v hv=>ε.bind (R:=fun v:List ψ=>v.length≤501000∧∀n,n∈v→n.ae.length≤B) ?_ fun v hv=>ε.ret hv
 ·unfold TO;refine ε.qg (l:=s.aC.ι) (fun k v=>v.length≤k∧∀n,n∈v→n.ae.length≤B) (fun k x v Ξ hx hv=>?_) (fun v hv=>?_) _ ⟨bm _,fun n h=>(by cases h)⟩<;>unfold Fx
  ·refine ε.cond (by simpa using Ξ) (ε.bind (R:=fun v:List ψ=>v.length≤k+1∧∀n,n∈v→n.ae.length≤B) (En.b (En.b (En.tb fun hs=>En.b (ε.idx (by omega) (by simpa using hs) fun _ _=>trivial) fun _=>En.r _) En.r) fun _=>ε.ite (fun _=>?_) fun _=>ε.ret ⟨by have:=hv.1;first|omega|(dsimp only at *;omega),hv.2⟩) fun v hv=>ε.τ (by unfold Ψ;dsimp only;omega) (ε.inl ⟨rfl,hv⟩));refine ε.ay (bd hx) (ε.bind (PK v x (by have:=hv.1;omega)) fun r hr=>ε.ret ⟨by have:=hv.1;omega,fun n hn=>?_⟩)
   rcases hr.2 n hn with rfl|h
   ·exact he _ (iN hx)
   ·exact hv.2 n h
  ·exact ε.bf (by simp) (ε.out (ε.ret hv))
 ·unfold TP;refine ε.qg (l:=s.cW) (fun k v=>v.length≤1000+k∧∀n,n∈v→n.ae.length≤B) (fun k x v Ξ hx hv=>?_) (fun v hv=>?_) _ ⟨by have:=hv.1;first|omega|(dsimp only at *;omega),hv.2⟩<;>unfold Fy
  ·refine ε.cond (by simpa using Ξ) (ε.bind (R:=fun v:List ψ=>v.length≤1000+(k+1)∧∀n,n∈v→n.ae.length≤B) (En.b (ε.ay (bd hx) (En.b (En.tb fun _=>ε.ay (bd hx) (En.r _)) En.r)) fun _=>ε.ite (fun _=>?_) fun _=>ε.ret ⟨by have:=hv.1;first|omega|(dsimp only at *;omega),hv.2⟩) fun v hv=>ε.τ (by unfold Ψ;dsimp only;omega) (ε.inl ⟨rfl,hv⟩));refine ε.ay (bd hx) (ε.bind (PK v x.p9 (by have:=hv.1;omega)) fun r hr=>ε.ret ⟨by have:=hv.1;omega,fun n hn=>?_⟩)
   rcases hr.2 n hn with rfl|h
   ·exact hq _ (iN hx)
   ·exact hv.2 n h
  ·exact ε.bf (by simp) (ε.out (ε.ret ⟨by have:=hv.1;first|omega|(dsimp only at *;omega),hv.2⟩))
def Yh {B:Nat} (l:List ψ) (i:Int) (hl:l.length≤501000) (hB:B≤4000) (he:∀n,n∈l→n.ae.length≤B):ε (B2 l i) fun r=>r.1.length=l.length:=by
 unfold B2 TR;refine ε.τ ⟨by omega,by rw [jH];omega⟩ (ε.loop (fun s:Int×List Bool×List Int=>∃n:Nat,s.1=(n:Int)∧n≤s.2.2.length∧s.2.1.length=l.length∧s.2.2.length+B*s.2.1.count false≤1+B*l.length) (fun s=>(s.2.1.count false)*(B+1)+(s.2.2.length-s.1.toNat)) ?_ _ ⟨0,rfl,hZ _,by simp,by simp⟩);rintro ⟨a,w,all⟩ ⟨n,e,hn,hw,hc⟩;dsimp only at e hn hw hc;subst e;have hBl:B*l.length≤4000*501000:=Nat.mul_le_mul hB hl;unfold FB;by_cases Ξ:n<all.length
 ·have hx:=bO Ξ;refine ε.cond (by simpa using Ξ) (ε.ay (bd hx) (ε.ay (gX ⟨l,0,0⟩ all[n] (by dsimp only;omega)) ?_));dsimp only;cases hg:gN l all[n] with
  |none=>exact ε.cond rfl (ε.out (ε.ret hw))
  |some m =>
   rw [oz hg];refine ε.bf (by simp) ?_;obtain ⟨j,hj⟩:=List.mem_iff_getElem?.1 (dS hg).1;have pC:=(List.getElem?_eq_some_iff.1 hj).1;refine ε.bind (R:=fun v:Int=>∃p:Nat,v=p∧p<l.length) ?_ ?_
   ·unfold TU;refine ε.loop (fun s:Int=>∃p:Nat,s=p∧p≤j) (fun s=>j-s.toNat) ?_ _ ⟨0,rfl,hZ _⟩;rintro s ⟨p,rfl,hp⟩;unfold FC;have s8:=bO (show p<l.length by omega);refine ε.ay (bd s8) (ε.ite (fun aS=>?_) fun _=>ε.out (ε.ret ⟨p,rfl,by omega⟩))
    have:p≠j:=fun e=>by
     subst e;rw [s8] at hj;injection hj with hj;rw [hj] at aS;simp at aS
    exact ε.τ (by unfold Ψ;omega) (ε.inl ⟨⟨p+1,by omega,by omega⟩,by omega⟩)
   ·rintro v ⟨p,rfl,hp⟩;have RC:=bO (show p<w.length by omega);refine ε.ay (bd RC) ?_;by_cases hb:w[p]=true
    ·refine ε.cond hb ?_;unfold yS;exact ε.τ (by unfold Ψ;dsimp only;omega) (ε.inl ⟨⟨n+1,by dsimp only;omega,Ξ,hw,hc⟩,by dsimp only;omega⟩)
    ·have Qm:w[p]=false:=by simpa using hb
     refine ε.bf hb (ε.ay (bd RC) ?_)
     have eO:(w.set p true).count false+1=w.count false:=by
      rw [List.count_set (by omega:p<w.length),Qm];have:0<w.count false:=List.count_pos_iff.2 (Qm▸eH _);simp;omega
     have hm:=he m (dS hg).1
     have hmul:B*w.count false=B*(w.set p true).count false+B:=by rw [←eO,Nat.mul_add,Nat.mul_one]
     have agT:w.count false*(B+1)=(w.set p true).count false*(B+1)+(B+1):=by rw [←eO,Nat.add_mul,Nat.one_mul]
     unfold TV;refine ε.each (l:=m.ae) (fun k s=>s.length=all.length+k) (fun k x s hk vM hs=>?_) (fun s hs=>?_) _ rfl
     ·unfold B3;exact ε.cond (by simpa using hk) (ε.ay (bd vM) (ε.τ (by simp only [cr,dK];omega) (ε.τ (by unfold Ψ;dsimp only;omega) (ε.inl ⟨rfl,by simp;omega⟩))))
     ·unfold B3 yS;rw [jH];refine ε.bf (by simp) (ε.out (ε.τ (by unfold Ψ;dsimp only;omega) ⟨_,rfl,⟨n+1,by dsimp only;omega,by dsimp only;omega,by simpa using hw,by dsimp only;omega⟩,?_⟩));dsimp only;omega
 ·exact ε.bf (by simpa using Ξ) (ε.out ⟨_,rfl,hw⟩)
def XY {k:Nat} {s:bS} (hs:SI k s) (hk:k≤100) (i:Int):ε (BT s i) fun r=>r.2.1.length≤501000∧∀n,n∈r.2.1→n.ae.length≤2+5*k:=by
 have h1:=hs.f.n;have h2:=hs.ps;have h3:=hs.ta;unfold BT TH;refine ε.ou (l:=s.cm) (fun _=>True) (fun n x Ξ hx _=>?_) (fun _=>?_) trivial<;>unfold Fs
 ·refine ε.cond (by simpa using Ξ) (ε.ay (bd hx) (ε.ite (fun _=>?_) fun _=>?_))
  ·unfold Fv;exact ε.τ (by unfold Ψ;omega) (ε.inl ⟨rfl,trivial⟩)
  refine ε.ay (bd hx) (ε.bind (X_ (B:=2+5*k) s x.At (by omega) (by omega) hs.f.e hs.pe) fun l hl=>ε.ay (bd hx) (ε.bind (Yh l x.κ hl.1 (by omega) hl.2) fun w hw=>ε.bind (R:=fun v:List ψ=>v.length≤501000∧∀n,n∈v→n.ae.length≤2+5*k) ?_ fun v hv=>ε.ay (bd hx) (ε.out (ε.ret hv))));unfold TJ;refine ε.each (l:=l) (fun k' v=>v.length≤k'∧∀n,n∈v→n.ae.length≤2+5*k) (fun m y v hm hy hv=>?_) (fun v hv=>?_) _ ⟨bm _,fun n h=>(by cases h)⟩<;>unfold Ft
  ·have vL:=bO (show m<w.1.length by omega);have vw:=hl.1;have ν:=hv.1;refine ε.cond (by simpa using hm) (ε.bind (R:=fun v:List ψ=>v.length≤m+1∧∀n,n∈v→n.ae.length≤2+5*k) (ε.ay (bd vL) (ε.ite (fun _=>ε.ay (bd hy) (ε.τ (by simp only [cr,dK];omega) (ε.ret ⟨by simp;omega,fun n hn=>?_⟩))) fun _=>ε.ret ⟨by dsimp only;omega,hv.2⟩)) fun v hv=>ε.τ (by unfold Ψ;dsimp only;omega) (ε.inl ⟨rfl,hv⟩))
   rcases iY.1 hn with hn|hn
   ·exact hv.2 n hn
   ·rw [dV.1 hn];exact hl.2 y (iN hy)
  ·exact ε.bf (by simp) (ε.out (ε.ret ⟨by have:=hv.1;have:=hl.1;dsimp only at *;omega,hv.2⟩))
 ·unfold Fu;exact ε.bf (by simp) (ε.out (ε.ret ⟨by simp,fun n h=>(by cases h)⟩))
def X5 {B:Nat} {t:Φ} (h:TF B t) (hB:B≤90000) (i a b:Int) (hc:∀e,e∈(db t.ι i).1.ae→0≤e.ar∧e.ar≤1000000000000000):ε (Bu t i a b) fun r=>r.1.length≤64:=by
 have ht:=h.n;have hE:=xn h i;unfold Bu;refine ε.bind (R:=fun v:Bool=>v=false→1≤b∧b≤64) ?_ fun v hv=>ε.ite (fun _=>ε.ret (by simp)) fun hf=>ε.ay (E5 t i (by omega)) (ε.ite (fun _=>ε.ret (by simp)) fun _=>?_)
 ·refine ε.bind (R:=fun v:Bool=>v=false→1≤b) (ε.ite (fun _=>ε.ret fun h=>(by cases h)) fun _=>ε.ret fun h=>by simpa using h) fun v hv=>ε.bind (R:=fun v:Bool=>v=false→1≤b∧b≤64) (ε.ite (fun _=>ε.ret fun h=>(by cases h)) fun hn=>ε.ret fun h=>⟨hv (by simpa using hn),by simpa using h⟩) fun v hv=>ε.ret hv
 have hb:=hv (by simpa using hf);generalize db t.ι i=dd at *;obtain ⟨d,d2⟩:=dd;dsimp only at hc hE;unfold Tf;refine ε.loop (fun s:Int×List aJ=>(s.2.length:Int)≤b∧∀e,e∈s.2→e∈d.ae) (fun s=>64-s.2.length) ?_ _ ⟨by simp;omega,fun e h=>(by cases h)⟩;rintro ⟨fr,o⟩ ⟨ho,JA⟩;dsimp only at ho JA;unfold E9;refine ε.bind (R:=fun v:Int=>-1≤v∧v<d.ae.length) ?_ fun v hv=>ε.ite (fun _=>ε.out (ε.ret (by dsimp only;omega))) fun h0=>?_
 ·unfold Th;refine ε.qg (l:=d.ae) (fun (n:Nat) (s:Int)=>-1≤s∧s<(n:Int)) (fun n x s Ξ hx hs=>?_) (fun s hs=>?_) _ (by simp)<;>unfold E_
  ·refine ε.cond (by simpa using Ξ) (ε.bind (R:=fun v:Int=>-1≤v∧v<(n:Int)+1) (En.b (ε.ay (bd hx) (En.b (En.tb fun _=>En.b ?_ En.r) En.r)) fun _=>ε.ite (fun _=>ε.ret (by dsimp only;omega)) fun _=>ε.ret (by dsimp only;omega)) fun v hv=>ε.τ (by unfold Ψ;dsimp only;omega) (ε.inl ⟨rfl,by dsimp only;omega⟩));refine ε.ite (fun _=>En.r _) fun h0=>ε.ay (bd hx) (En.b (ε.idx (by simp at h0;exact h0) (by have:=hs.2;dsimp only at *;omega) fun _ _=>trivial) fun _=>En.r _)
  ·exact ε.bf (by simp) (ε.out (ε.ret hs))
 ·have h0:0≤v:=by simpa using h0
  have lE:v.toNat<d.ae.length:=by omega
  have e:v=(v.toNat:Int):=by omega
  have hx:=bO lE;refine ε.ite (fun hm=>?_) fun hm=>?_
  ·have hm:(o.length:Int)=b:=by simpa using hm
   have cy:(b-1).toNat<o.length:=by omega
   have e2:b-1=((b-1).toNat:Int):=by omega
   have:=hc _ (JA _ (eH cy));refine ε.τ (by unfold Ψ;omega) (ε.ay (by rw [e2];exact bd (bO cy)) (ε.τ (by unfold Ψ;omega) (ε.out (ε.ret (by dsimp only;omega)))))
  ·have hm:(o.length:Int)≠b:=by simpa using hm
   have:=hc _ (eH lE);refine ε.ay (by rw [e];exact bd hx) (ε.τ (by simp only [cr,dK];omega) (ε.ay (by rw [e];exact bd hx) (ε.τ (by unfold Ψ;omega) (ε.inl ⟨⟨by simp;omega,fun x hx=>?_⟩,by simp;omega⟩))))
   rcases iY.1 hx with hx|hx
   ·exact JA x hx
   ·rw [dV.1 hx];exact eH lE
end
end
section
structure OB (o:dP):Prop where
 p:o.ia.length≤1000
 t:o.To.length≤1000
 d:o.aP.length≤5000
 n:Ψ o.N
structure LI (k:Nat) (f:cF):Prop where
 s:SI k f.S
 r:RT f.S.aC
 x:f.S.aC.Next≤k+2
 h:f.Holds.length≤k
 q:f.f_.length≤k
def LI.up {k:Nat} {f:cF} (h:LI k f):LI (k+1) f:=⟨h.s.up (by omega),h.r,by have:=h.x;omega,by have:=h.h;omega,by have:=h.q;omega⟩
def KW (s:bS) (t:Φ):(yB s t).aC=t:=by
 unfold yB;split
 ·assumption
 ·rfl
section
variable {B:Nat} {t:Φ} {k:Nat} {f:cF} {o:dP}
def Yb (l:List bq) (i:Int) (hl:l.length≤1000000):En (B_ l i):=by
 unfold B_ T4;refine ε.ou (l:=l) (fun _=>True) (fun n x Ξ hx _=>?_) (fun _=>?_) trivial<;>unfold FL
 ·exact ε.cond (by simpa using Ξ) (ε.ay (bd hx) (ε.ite (fun _=>ε.out (En.r _)) fun _=>ε.τ (by unfold Ψ;omega) (ε.inl ⟨rfl,trivial⟩)))
 ·exact ε.bf (by simp) (ε.out (En.r _))
def X6 (h:TF B t) (hB:B≤90000) (l:List aU) (hl:l.length≤1000000):En (B7 t l):=by
 have ht:=h.n;unfold B7 TZ;refine ε.ou (l:=t.ι) (fun _=>True) (fun n x Ξ hx _=>?_) (fun _=>?_) trivial<;>unfold FF
 ·have J2:ε (yV (n:Int) ()) (kM (fun s=>s=(n:Int)+1∧True) fun _=>True):=by
   unfold yV;exact ε.τ (by unfold Ψ;omega) (ε.inl ⟨rfl,trivial⟩)
  refine ε.cond (by simpa using Ξ) (ε.ay (bd hx) (ε.ite (fun _=>J2) fun _=>?_));unfold T1;refine ε.qg (l:=t.ι) (fun _ _=>True) (fun m y a hm hy _=>?_) (fun a _=>?_) _ trivial<;>unfold FH
  ·refine ε.cond (by simpa using hm) (ε.ay (bd hy) ?_);have hE:=h.e y (iN hy);unfold T2;refine ε.qg (l:=y.ae) (fun _ _=>True) (fun j e b hj he _=>?_) (fun b _=>?_) _ trivial<;>unfold FI
   ·have J4:∀v,ε (yW (b,(j:Int)) v) (kM (fun s=>s.2=(j:Int)+1∧True) (kM (fun s=>s.2=(m:Int)+1∧True) (kM (fun s=>s=(n:Int)+1∧True) fun _=>True))):=fun v=>by
     unfold yW;exact ε.τ (by unfold Ψ;dsimp only;omega) (ε.inl ⟨rfl,trivial⟩)
    exact ε.cond (by simpa using hj) (ε.ay (bd he) (ε.ay (bd hx) (ε.ite (fun _=>J4 _) fun _=>En.b (X0 l y.κ hl (by omega)) fun _=>En.b (En.b En.bb En.r) fun _=>ε.ite (fun _=>ε.out (ε.out (ε.out (En.r _)))) fun _=>J4 _)))
   ·unfold FJ;exact ε.bf (by simp) (ε.out (ε.τ (by unfold Ψ;dsimp only;omega) (ε.inl ⟨rfl,trivial⟩)))
  ·exact ε.bf (by simp) (ε.out J2)
 ·exact ε.bf (by simp) (ε.out (En.r _))
def X9 (h:TF B t) (hB:B≤90000) (hd:∀n,n∈t.ι→n.aP.length≤5000) (l:List aU) (hl:l.length≤1000000):En (B8 t l):=by
 unfold B8 T3;refine ε.ou (l:=l) (fun _=>True) (fun n x Ξ hx _=>?_) (fun _=>?_) trivial<;>unfold FK
 ·exact ε.cond (by simpa using Ξ) (ε.ay (bd hx) (En.b (PG h hB hd _) fun _=>En.b (ε.ay (bd hx) (En.b (En.bt (ε.ay (bd hx) (En.r _))) En.r)) fun _=>ε.ite (fun _=>ε.out (En.r _)) fun _=>ε.τ (by unfold Ψ;omega) (ε.inl ⟨rfl,trivial⟩)))
 ·exact ε.bf (by simp) (ε.out (En.r _))
def Sz (i:Int):(qk t i).1.Next=t.Next:=SA i rfl
def Yf (h:LI k f) (hk:k≤60) (hr:RT t) (hf:TF (2+5*k+5) t) (hx:t.Next≤k+3) {q:List aU} (hq:q.length≤k+1):ε (Cc f t q) fun r=>LI (k+1) r.1:=by
 have ht:=hf.n;have hh:=h.h;unfold Cc;refine ε.bind (R:=fun v:List Int=>v.length≤t.ι.length) ?_ fun v hv=>ε.bind (R:=fun v:List ψ×Int×Int=>RT ⟨v.1,v.2.1,v.2.2⟩∧TF (2+5*k+5) ⟨v.1,v.2.1,v.2.2⟩∧v.2.1=t.Next) ?_ fun u hu=>ε.bind (R:=fun v:List aU=>v.length≤q.length) ?_ fun w hw=>?_
 ·unfold T8;refine ε.each (l:=t.ι) (fun n v=>v.length≤n) (fun n x v Ξ hx hv=>?_) (fun v hv=>?_) _ (bm _)<;>unfold FR
  ·exact ε.cond (by simpa using Ξ) (ε.bind (R:=fun v:List Int=>v.length≤n+1) (ε.ay (bd hx) (En.b (En.b En.bb fun _=>En.b (En.tb fun _=>En.b (Yb _ _ (by omega)) fun _=>En.r _) En.r) fun _=>ε.ite (fun _=>ε.τ (by simp only [cr,dK];omega) (ε.ret (by simp;omega))) fun _=>ε.ret (by dsimp only;omega))) fun v hv=>ε.τ (by unfold Ψ;dsimp only;omega) (ε.inl ⟨rfl,hv⟩))
  ·exact ε.bf (by simp) (ε.out (ε.ret hv))
 ·unfold T9;refine ε.each (l:=v) (fun _ (s:List ψ×Int×Int)=>RT ⟨s.1,s.2.1,s.2.2⟩∧TF (2+5*k+5) ⟨s.1,s.2.1,s.2.2⟩∧s.2.1=t.Next) (fun n x s Ξ hx hs=>?_) (fun s hs=>?_) _ ⟨hr,hf,rfl⟩<;>unfold FT
  ·obtain ⟨a,b,c⟩:=s;obtain ⟨h1,h2,h3⟩:=hs;dsimp only at h1 h2 h3;refine ε.cond (by simpa using Ξ) (ε.ay (bd hx) (ε.ay (S5 h2 (by omega) x) (ε.τ (by unfold Ψ;dsimp only;omega) (ε.inl ⟨rfl,h1.free x,h2.Ip x,?_⟩))));exact (Sz (t:=⟨a,b,c⟩) x).trans h3
  ·exact ε.bf (by simp) (ε.out (ε.ret hs))
 ·unfold T_;have dr:=hu.2.1.n;refine ε.each (l:=q) (fun n v=>v.length≤n) (fun n x v Ξ hx hv=>?_) (fun v hv=>?_) _ (bm _)<;>unfold FU
  ·exact ε.cond (by simpa using Ξ) (ε.bind (R:=fun v:List aU=>v.length≤n+1) (ε.ay (bd hx) (ε.ay (gX _ _ (by dsimp only at *;omega)) (ε.ite (fun _=>ε.ay (bd hx) (ε.τ (by simp only [cr,dK];omega) (ε.ret (by simp;omega)))) fun _=>ε.ret (by dsimp only;omega)))) fun v hv=>ε.τ (by unfold Ψ;dsimp only;omega) (ε.inl ⟨rfl,hv⟩))
  ·exact ε.bf (by simp) (ε.out (ε.ret hv))
 ·obtain ⟨a,b,c⟩:=u;obtain ⟨h1,h2,h3⟩:=hu;dsimp only at h1 h2 h3;refine En.b (X6 h2 (by omega) w (by omega)) fun _=>ε.ite (fun _=>ε.ret h.up) fun _=>En.b (X9 h2 (by omega) (fun n hn=>by have:=h1.data hn;omega) w (by omega)) fun _=>ε.ite (fun _=>ε.ret h.up) fun _=>ε.ay (Lb (h.s.EY (by omega) h1.s h2)) (ε.ret ?_);refine ⟨h.s.KY (by omega) h1.ts h2,?_,?_,by dsimp only;omega,by dsimp only;omega⟩<;>dsimp only<;>rw [KW]
  ·exact h1
  ·dsimp only;omega
def uL (h:LI k f) (hk:k≤60) (hr:RT t) (hf:TF (2+5*k+5) t) (hx:t.Next≤k+3) {q:List aU} (hq:q.length≤k+1) (e:Int) (a:dh):ε (pO f t q e a) fun r=>LI (k+1) r.1:=by
 unfold pO fJ;exact ε.ite (fun _=>⟨_,rfl,h.up⟩) fun _=>ε.bind (Yf h hk hr hf hx hq) fun r hr=>ε.ite (fun _=>⟨_,rfl,h.up⟩) fun _=>ε.ret hr
def Ie (h:TF B t) (hB:B≤90000) (p:List UInt8) (hp:p.length≤1000):En (wy t p):=by
 have:=(abj (p:=p)).1;unfold wy;exact ε.ay (acC p (by omega)) (ε.ite (fun _=>En.r _) fun _=>ε.ay (Ld h hB _ (by omega)) (En.r _))
def SC (i:Int):(jG t i).Next=t.Next:=by unfold jG;split<;>rfl
def abO (i:Int) (s:List UInt8) (j:Int):(sx t i s j).1.Next≤t.Next+1:=by
 unfold sx;split
 ·dsimp only;omega
 split
 ·dsimp only;omega
 split
 ·dsimp only;omega
 ·exact Int.le_refl _
def abQ (i j:Int) (s:List UInt8):(tu t i j s).1.Next=t.Next:=by
 unfold tu;split
 ·rfl
 split
 ·rfl
 split;iterate 2 rfl
def abT (i:Int) (s:List UInt8):(t_ t i s).1.Next=t.Next:=by
 unfold t_;split
 ·rfl
 split
 ·rfl
 ·exact SC _
def abS (a b:Int) (c:List UInt8) (d:Int) (e:List UInt8) (g:Int):(iv t a b c d e g).Next=t.Next:=by
 unfold iv;split
 ·exact SC _
 ·rfl
def abR (i:Int) (s:List UInt8) (j:Int) (z:List UInt8):(tC t i s j z).1.Next=t.Next:=by
 have h2:∀u a b,(kT t u a b).Next=u.Next:=fun u a b=>by unfold kT;split<;>rfl
 unfold tC;split
 ·rfl
 split
 ·rfl
 split
 ·rfl
 split
 ·rfl
 split
 ·rfl
 split
 ·rfl
 split
 ·rfl
 ·exact (h2 _ _ _).trans (abS _ _ _ _ _ _)
def SB (i:Int) (x:List UInt8):(tH t i x).1.Next=t.Next:=by
 unfold tH;split
 ·rfl
 split
 ·rfl
 split;iterate 2 rfl
def UM (s:bS) (i:Int):(zg s i).1.aC=s.aC:=by
 unfold zg;split
 ·rfl
 split
 ·rfl
 split;iterate 2 rfl
def Yc (h:LI k f) (hk:k≤60) (ho:OB o):ε (Ca f o) fun r=>LI (k+1) r.1:=by
 have hf:=h.s.f;have hp:=ho.p;have ht:=ho.t;have hx:=h.x;have hq:=h.q;unfold Ca fJ;refine ε.ite (fun _=>?_) fun _=>?_
 ·refine ε.ay (Ld hf (by omega) _ (by omega)) (ε.ite (fun _=>⟨_,rfl,h.up⟩) fun _=>En.b (Ie hf (by omega) _ ht) fun s=>ε.ite (fun _=>⟨_,rfl,h.up⟩) fun _=>ε.ay (acD hf (by omega) _ _ _) (ε.bind (uL h hk (h.r.ln _ _ _) (hf.lnT (by omega) _ _ _) ?_ (by omega) _ _) fun _ hr=>ε.ret hr));rw [abQ];omega
 refine En.b (Ie hf (by omega) _ hp) fun s=>ε.ite (fun _=>⟨_,rfl,h.up⟩) fun _=>ε.ite (fun _=>?_) fun _=>ε.ite (fun _=>?_) fun _=>?_
 ·refine ε.ay (acA hf (by omega) _ _ _) (ε.bind (uL h hk (h.r.add _ _ _) (hf.WA (by omega) _ _ _) ?_ (by omega) _ _) fun _ hr=>ε.ret hr);have:=abO (t:=f.S.aC) s.1 s.2.1 o.N;omega
 ·refine ε.ay (acK hf (by omega) _ _) (ε.bind (uL h hk (h.r.un _ _) (hf.aem (by omega) _ _) ?_ (by omega) _ _) fun _ hr=>ε.ret hr);rw [abT];omega
 ·refine En.b (Ie hf (by omega) _ ht) fun u=>ε.ite (fun _=>⟨_,rfl,h.up⟩) fun _=>ε.ay (E3 hf (by omega) _ _) (ε.ay (acE hf (by omega) _ _ _ _) (ε.bind (uL h hk (h.r.mv _ _ _ _) (hf.abG (by omega) _ _ _ _) ?_ (by omega) _ _) fun _ hr=>ε.ret hr));rw [abR];omega
def Yi (h:LI k f) (hk:k≤60) (ho:OB o):ε (Cd f o) fun r=>LI (k+1) r.1:=by
 have hf:=h.s.f;have hp:=ho.p;have hx:=h.x;have hq:=h.q;have hh:=h.h;have hn:=hf.n;have hta:=h.s.ta;have hnx:=h.s.nx
 have hd:∀n,n∈f.S.aC.ι→n.aP.length≤5000:=fun n hn=>by have:=h.r.data hn;omega
 unfold Cd fJ yX;refine ε.ay (Ld hf (by omega) _ (by omega)) (ε.ite (fun _=>⟨_,rfl,h.up⟩) fun _=>ε.ay (gX _ _ (by omega)) (ε.ite (fun _=>⟨_,rfl,h.up⟩) fun _=>ε.ite (fun _=>?_) fun _=>ε.ite (fun _=>?_) fun _=>ε.ite (fun _=>?_) fun _=>ε.ite (fun _=>?_) fun _=>?_))
 ·exact En.b (by split<;>exact En.r _) fun _=>ε.ret h.up
 ·refine ε.bind (X5 hf (by omega) _ _ _ (h.r.Ph hf (by omega) _)) fun r hr=>ε.ite (fun _=>⟨_,rfl,h.up⟩) fun _=>En.b ?_ fun _=>ε.ret h.up;unfold T';refine ε.each (l:=r.1) (fun n v=>v.length=n) (fun n x v Ξ hx hv=>?_) (fun v hv=>?_) _ rfl<;>unfold FV
  ·exact ε.cond (by simpa using Ξ) (ε.ay (bd hx) (ε.τ (by simp only [cr,dK];omega) (ε.τ (by unfold Ψ;dsimp only;omega) (ε.inl ⟨rfl,by simp;omega⟩))))
  ·exact ε.bf (by simp) (ε.out (En.r _))
 ·exact ε.bind (X7 _ _ _ _ (by omega) (by omega)) fun r hr=>ε.ite (fun _=>⟨_,rfl,h.up⟩) fun _=>ε.ret ⟨h.up.s,h.r,h.up.x,by dsimp only;omega,h.up.q⟩
 ·exact ε.bind (X' hf (by omega) hd _ (by omega) _ _ _) fun r hr=>ε.bind (uL h hk h.r (hf.up (by omega)) (by omega) (by omega) _ _) fun _ hr=>ε.ret hr
 ·unfold FW fJ;refine ε.ay (acJ f.S _ (by omega) (by omega) (by omega)) (ε.ite (fun _=>⟨_,rfl,h.up⟩) fun _=>ε.ret ?_);exact ⟨h.s.take _,by dsimp only;rw [UM];exact h.r,by dsimp only;rw [UM];exact h.up.x,h.up.h,h.up.q⟩
def X4 (x:List UInt8) (a:Int) (d:List UInt8) (hx:x.length≤5000) (ha:0≤a) (hd:a+d.length≤5000):ε (yU x a d) fun r=>r.length≤5000:=by
 unfold yU;refine ε.τ (by simp;omega) (ε.ite (fun _=>ε.ret (by simpa using hx)) fun _=>ε.bind (R:=fun v:List UInt8=>v.length≤5000∧a+d.length≤v.length) ?_ fun v hv=>ε.bind (R:=fun v:List UInt8=>v.length≤5000) ?_ fun v hv=>ε.ret hv)
 ·unfold TX;refine ε.loop (fun s:List UInt8=>s.length≤5000) (fun s=>5000-s.length) ?_ _ (by simpa using hx);intro s hs;unfold FD;refine ε.τ (by unfold Ψ;omega) (ε.ite (fun Ξ=>?_) fun hn=>ε.out (ε.ret ⟨hs,by simpa using hn⟩))
  have Ξ:(s.length:Int)<a+d.length:=by simpa using Ξ
  exact ε.τ (by simp;omega) (ε.inl ⟨by simp;omega,by simp;omega⟩)
 ·unfold TY;refine ε.each (l:=d) (fun _ w=>w.length=v.length) (fun n y w Ξ hy hw=>?_) (fun w hw=>?_) _ rfl<;>unfold FE
  ·exact ε.cond (by simpa using Ξ) (ε.τ (by unfold Ψ;dsimp only;omega) (ε.ay (bd hy) (En.b (ε.idx (by dsimp only;omega) (by have:=hv.2;dsimp only;omega) fun _ _=>trivial) fun _=>ε.τ (by unfold Ψ;dsimp only;omega) (ε.inl ⟨rfl,by simpa using hw⟩))))
  ·exact ε.bf (by simp) (ε.out (ε.ret (by have:=hv.1;dsimp only;omega)))
def Ya (h:LI k f) (hk:k≤60) (ho:OB o):ε (B9 f o) fun r=>LI (k+1) r.1:=by
 have hf:=h.s.f;have hx:=h.x;have hq:=h.q;have hh:=h.h;have hn:=hf.n;have hN:=ho.n;have hD:=ho.d;unfold B9 fJ;refine ε.ite (fun _=>?_) fun _=>En.b (X3 _ _ _ (by omega)) fun y=>ε.ite (fun _=>⟨_,rfl,h.up⟩) fun _=>ε.ay (gX _ _ (by omega)) ?_
 ·refine ε.bind (PE hf (by omega) _ _ _ (by omega)) fun r hr=>ε.ite (fun _=>⟨_,rfl,h.up⟩) fun _=>?_
  have hu:RT r.1∧TF (2+5*k) r.1∧r.1.Next=f.S.aC.Next:=by
   rcases hr.1 with e|⟨j,e⟩<;>rw [e]
   ·exact ⟨h.r,hf,rfl⟩
   ·exact ⟨h.r.free j,hf.Ip j,Sz j⟩
  have AR:=hu.2.1.up (show 2+5*k≤2+5*k+5 by omega);refine ε.ay (Lb (h.s.EY (by omega) hu.1.s AR)) (ε.ret ⟨h.s.KY (by omega) hu.1.ts AR,?_,?_,by have:=hr.2;dsimp only;omega,h.up.q⟩)<;>dsimp only<;>rw [KW]
  ·exact hu.1
  ·have:=hu.2.2;omega
 dsimp only
 have nK:(gD f.S.aC.ι y.1).aP.length≤4096:=by
  rcases xC f.S.aC.ι y.1 with h1|h1
  ·exact h.r.data h1
  ·rw [h1];simp [oK]
 generalize (gD f.S.aC.ι y.1).aP=D at *;have h2:TF (2+5*k+5) f.S.aC:=hf.up (by omega);refine ε.bind (R:=fun v:Bool=>v=false→0≤o.N∧(o.Ω=10→0≤o.M∧o.M≤4096)∧(o.Ω=11→o.N≤4096)) ?_ fun v hv=>ε.ite (fun _=>⟨_,rfl,h.up⟩) fun py=>?_
 ·refine ε.bind (R:=fun v:Bool=>v=false→0≤o.N∧(o.Ω=10→0≤o.M∧o.M≤4096)) (ε.ite (fun _=>ε.ret fun h=>(by cases h)) fun h1=>ε.bind (R:=fun v:Bool=>v=false→(o.Ω=10→0≤o.M∧o.M≤4096)) (ε.ite (fun _=>ε.bind (R:=fun v:Bool=>v=false→0≤o.M∧o.M≤4096) (ε.ite (fun _=>ε.ret fun h=>(by cases h)) fun h2=>ε.ret fun h=>by simp at h2 h;omega) fun v hv=>ε.ret fun h _=>hv h) fun h2=>ε.ret fun _ e=>absurd (by simpa using e) h2) fun v hv=>ε.ret fun h=>⟨by simpa using h1,hv h⟩) fun v hv=>ε.bind (R:=fun v:Bool=>v=false→0≤o.N∧(o.Ω=10→0≤o.M∧o.M≤4096)∧(o.Ω=11→o.N≤4096)) (ε.ite (fun _=>ε.ret fun h=>(by cases h)) fun h1=>ε.bind (R:=fun v:Bool=>v=false→o.Ω=11→o.N≤4096) (ε.ite (fun _=>ε.ret fun h _=>by simpa using h) fun h2=>ε.ret fun _ e=>absurd (by simpa using e) h2) fun w hw=>ε.ret fun h=>⟨(hv (by simpa using h1)).1,(hv (by simpa using h1)).2,hw h⟩) fun v hv=>ε.ret hv
 obtain ⟨g1,g2,g3⟩:=hv (by simpa using py);refine ε.ite (fun e=>?_) fun _=>ε.ite (fun e=>?_) fun _=>?_
 ·obtain ⟨m1,m2⟩:=g2 (by simpa using e);exact ε.τ (by unfold Ψ;omega) (ε.τ (by omega) (ε.ret h.up))
 ·have g3:=g3 (by simpa using e);refine ε.τ (by unfold Ψ;omega) (ε.ite (fun _=>⟨_,rfl,h.up⟩) fun hb=>?_)
  have hb:o.N+o.aP.length≤4096:=by simpa using hb
  refine ε.bind (X4 D o.N o.aP (by omega) g1 (by omega)) fun x gI=>ε.ay (S7 hf (by omega) _ _ (by omega)) (ε.bind (uL h hk (h.r.S1 _ _) (hf.S3 _ _) (by rw [SB];omega) (by omega) _ _) fun _ hr=>ε.ret hr)
 ·refine ε.τ (by omega) (ε.ay (S7 hf (by omega) _ _ (by rw [da];omega)) (ε.bind (uL h hk (h.r.S1 _ _) (hf.S3 _ _) (by rw [SB];omega) (by omega) _ _) fun _ hr=>ε.ret hr))
def Yd (h:LI k f) (hk:k≤60) (ho:OB o):En (Cb f o):=by
 have hp:=ho.p;unfold Cb fJ;refine ε.bind (XY h.s (by omega) _) fun r hr=>ε.ite (fun _=>⟨_,rfl,trivial⟩) fun _=>ε.ay (E4 _ (by omega)) (ε.ite (fun _=>⟨_,rfl,trivial⟩) fun _=>ε.ay (gX _ _ (by have:=hr.1;dsimp only;omega)) ?_);dsimp only;have hl:=(Cj (p:=o.ia)).2.1;generalize gh o.ia=x at *
 have hg:∀i,(gD r.2.1 i).ae.length≤2+5*k:=fun i=>by
  rcases xC r.2.1 i with h1|h1
  ·exact hr.2 _ h1
  ·rw [h1];simp [oK]
 unfold T5;refine ε.loop (fun s:Int×Int×Int×Int×List UInt8×List aJ×Int=>∃n:Nat,s.1=(n:Int)∧n≤x.1.length∧s.2.2.2.2.2.1.length≤2+5*k) (fun s=>x.1.length-s.1.toNat) ?_ _ ⟨0,rfl,hZ _,hg _⟩;rintro ⟨a,b1,b2,b3,b4,b5,b6⟩ ⟨n,e,hn,hE⟩;dsimp only at e hE;subst e;unfold FM;dsimp only;by_cases Ξ:n<x.1.length
 ·refine ε.cond (by simpa using Ξ) (ε.ite (fun _=>⟨_,rfl,trivial⟩) fun _=>En.b ?_ fun v=>ε.ay (gX _ _ (by have:=hr.1;dsimp only;omega)) (ε.ite (fun _=>⟨_,rfl,trivial⟩) fun _=>?_))
  ·have hxn:=bO Ξ;unfold T6;refine ε.qg (l:=b5) (fun _ _=>True) (fun m y c hm hy _=>?_) (fun c _=>?_) _ trivial<;>unfold FN
   ·exact ε.cond (by simpa using hm) (En.b (ε.ay (bd hy) (ε.ay (bd hxn) (ε.ite (fun _=>ε.ay (bd hy) (En.r _)) fun _=>En.r _))) fun _=>ε.τ (by unfold Ψ;dsimp only;omega) (ε.inl ⟨rfl,trivial⟩))
   ·exact ε.bf (by simp) (ε.out (En.r _))
  ·unfold FQ;exact ε.τ (by unfold Ψ;dsimp only;omega) (ε.inl ⟨⟨n+1,by dsimp only;omega,Ξ,hg v⟩,by dsimp only;omega⟩)
 ·refine ε.bf (by simpa using Ξ) (ε.out ?_);unfold FP yX;refine En.b ?_ fun _=>En.b (by split<;>exact En.r _) fun _=>En.r _;unfold T7;refine ε.each (l:=b5) (fun n v=>v.length=n) (fun n x v Ξ hx hv=>?_) (fun v hv=>?_) _ rfl<;>unfold FO
  ·exact ε.cond (by simpa using Ξ) (ε.ay (bd hx) (ε.τ (by simp only [cr,dK];omega) (ε.τ (by unfold Ψ;dsimp only;omega) (ε.inl ⟨rfl,by simp;omega⟩))))
  ·exact ε.bf (by simp) (ε.out (En.r _))
def XZ (h:LI k f) (hk:k≤60) (ho:OB o):ε (B5 f o) fun r=>LI (k+1) r.1:=by
 have hf:=h.s.f;have hh:=h.h;have hx:=h.x;have hta:=h.s.ta;have JI:=h.s.ps;unfold B5 fJ;refine En.b (En.b En.bb En.r) fun _=>ε.ite (fun _=>⟨_,rfl,h.up⟩) fun _=>En.b (by repeat' (first|exact En.r _|split)) fun _=>ε.ite (fun _=>ε.bind (Yc h hk ho) fun _ hr=>ε.ret hr) fun _=>En.b (by repeat' (first|exact En.r _|split)) fun _=>ε.ite (fun _=>ε.bind (Yi h hk ho) fun _ hr=>ε.ret hr) fun _=>En.b (by repeat' (first|exact En.r _|split)) fun _=>ε.ite (fun _=>ε.bind (Ya h hk ho) fun _ hr=>ε.ret hr) fun _=>ε.ite (fun _=>En.b (Yd h hk ho) fun _=>ε.ret h.up) fun _=>ε.ite (fun _=>?_) fun _=>ε.ite (fun _=>?_) fun _=>⟨_,rfl,h.up⟩
 ·refine ε.ay (acB f.S _ (by omega) (by omega)) (ε.ite (fun _=>⟨_,rfl,h.up⟩) fun _=>ε.ret ?_)
  have e:∀i,(xo f.S i).1.aC=f.S.aC:=fun i=>by unfold xo;split<;>rfl
  exact ⟨(h.s.drop _).up (by omega),by dsimp only;rw [e];exact h.r,by dsimp only;rw [e];exact h.up.x,h.up.h,h.up.q⟩
 ·refine ε.bind (X1 h.r hf (by omega) _ _ (by omega)) fun r hr=>?_;obtain ⟨⟨u1,u2,u3⟩,u4⟩:=hr;have AR:=u2.up (show 2+5*k≤2+5*k+5 by omega);refine ε.ay (Lb (h.s.EY (by omega) u1.s AR)) (ε.ret ⟨h.s.KY (by omega) u1.ts AR,?_,?_,by dsimp only;omega,h.up.q⟩)<;>dsimp only<;>rw [KW]
  ·exact u1
  ·omega
end
end
section
def aca:M7=some true:=by kernel_rfl
def Ir:cF:=⟨Me,[],[]⟩
def Wv:LI 0 Ir:=⟨Wz,Wy,by decide,by decide,by decide⟩
def acF:B6=some Ir:=by
 unfold B6 Fa Fw;simp [τ,Ir,Me,M_]
def ab3 (l:List dP) (hi:∀o,o∈l→Ψ o.N):ε (A9 l) (fun r=>r=false→l.length≤50∧∀o,o∈l→OB o):=by
 unfold A9;refine ε.ite (fun _=>ε.ret fun h=>(by cases h)) fun xF=>?_
 have xF:l.length≤50:=by rw [decide_eq_true_eq] at xF;omega
 unfold Sb;refine ε.ou (l:=l) (fun n=>∀o,o∈l.take n→OB o) (fun n x Ξ hx hP=>?_) (fun hP=>?_) (by simp)<;>unfold Ex
 ·refine ε.cond (by simpa using Ξ) (ε.ay (bd hx) (ε.bind (R:=fun v:Bool=>v=false→OB x) ?_ fun v hv=>ε.ite (fun _=>ε.out (ε.ret fun h=>(by cases h))) fun hL=>ε.τ (by unfold Ψ;omega) (ε.inl ⟨rfl,fun o ho=>?_⟩)))
  ·unfold Ey;refine ε.bind (R:=fun v:Bool=>v=false→OB x) (ε.bind (R:=fun v:Bool=>v=false→x.aP.length≤5000∧x.ia.length≤1000) (ε.ite (fun _=>ε.ret fun h=>(by cases h)) fun h1=>ε.ret fun h=>by simp at h1 h;omega) fun v hv=>ε.bind (R:=fun v:Bool=>v=false→OB x) (ε.ite (fun _=>ε.ret fun h=>(by cases h)) fun h1=>ε.ret fun h=>?_) fun v hv=>ε.ret hv) fun v hv=>ε.ret hv;have:=hv (by simpa using h1);exact ⟨this.2,by simp at h;omega,this.1,hi x (iN hx)⟩
  ·rw [kC hx] at ho
   rcases iY.1 ho with ho|ho
   ·exact hP o ho
   ·rw [dV.1 ho];exact hv (by simpa using hL)
 ·rw [List.take_length] at hP;exact ε.bf (by simp) (ε.out (ε.ret fun _=>⟨xF,hP⟩))
def X8 (l:List dP) (hl:l.length≤50) (hO:∀o,o∈l→OB o):ε (A_ l) fun f=>LI l.length f:=by
 unfold A_;refine ε.ay acF (ε.bind (R:=fun v:List ψ×Int×Int×Int×List Int×List bV×List cw×Int×List bq×List aU=>LI l.length ⟨⟨⟨v.1,v.2.1,v.2.2.1⟩,v.2.2.2.1,v.2.2.2.2.1,v.2.2.2.2.2.1,v.2.2.2.2.2.2.1,v.2.2.2.2.2.2.2.1⟩,v.2.2.2.2.2.2.2.2.1,v.2.2.2.2.2.2.2.2.2⟩) ?_ fun v hv=>ε.ret hv);unfold Sc;refine ε.each (l:=l) (fun n (v:List ψ×Int×Int×Int×List Int×List bV×List cw×Int×List bq×List aU)=>LI n ⟨⟨⟨v.1,v.2.1,v.2.2.1⟩,v.2.2.2.1,v.2.2.2.2.1,v.2.2.2.2.2.1,v.2.2.2.2.2.2.1,v.2.2.2.2.2.2.2.1⟩,v.2.2.2.2.2.2.2.2.1,v.2.2.2.2.2.2.2.2.2⟩) (fun n x v Ξ hx hv=>?_) (fun v hv=>?_) _ Wv<;>unfold Ez
 ·exact ε.cond (by simpa using Ξ) (ε.ay (bd hx) (ε.bind (XZ hv (by omega) (hO _ (iN hx))) fun r hr=>ε.τ (by unfold Ψ;dsimp only;omega) (ε.inl ⟨rfl,hr⟩)))
 ·exact ε.bf (by simp) (ε.out (ε.ret hv))
def LI.YB {k:Nat} {f:cF} (h:LI k f) (hk:k≤50):(f.S.aC.ι.map iB).sum≤3900:=by
 have h1:=Sh (k+2) (f.S.aC.ι.map (·.κ)) (by rw [List.pairwise_map];exact h.r.s.imp fun h=>by omega) fun x hx=>by
  obtain ⟨n,hn,rfl⟩:=cV.1 hx;have:=h.r.lo n hn;have:=h.x;omega
 rw [au] at h1
 have:=Gm (l:=f.S.aC.ι) (g:=iB) (c:=64) fun n hn=>by have:=(h.r.en n hn).n;unfold iB;omega
 omega
def ab0 {l:List dP} (h:EP l):∀o,o∈l→Ψ o.N:=fun o ho=>(h.2 o ho).2.2.2.2.1
def abg (l:List dP) (m:UInt8) (h1:EP l) (h2:Bf m):Cp l m=some true:=by
 refine ε.eq ?_;unfold Cp;refine ε.ay aca (ε.bind (ab3 l (ab0 h1)) fun r hr=>ε.ite (fun _=>ε.ret rfl) fun h0=>?_);obtain ⟨xF,hO⟩:=hr (Bool.eq_false_iff.2 h0);refine ε.bind (X8 l xF hO) fun f hf=>?_;exact Xe hf.r hf.s.f (by omega) (hf.YB xF) m
end
end Go.Proofs
