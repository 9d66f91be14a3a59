/- The closure of fs.Do that takes a panic back. No condition. -/
import Derived.Test.YtdcgbodbejgliaaGreatDoorXTopListedHa
import Derived.Tactics2
import Derived.TacticsInMore
import Derived.Defers
import Derived.RecoverIn
set_option linter.all false
open Array renaming getElem?_push → lN, size_push → NY
open Go.Exit renaming thenS → G0
open Go.Instr renaming typeAssert → VX
open Go.World renaming alloc → kL
open List renaming mem_cons_of_mem → cu, mem_cons → bp, not_mem_nil → eI, mem_cons_self → js
open Prod.mk renaming injEq → gC
namespace Go.Cat
set_option linter.all false
open Go.RowKit
section
variable [M:bU] [G:dC] [R:dW]
def Kl (d0:List Deferred) (Q:Exit→Act→World→Prop):Exit→Act→World→Prop:=fun e a w=>Q e a w∧(e=.normal→a.defers=d0)
def aeo {F:Fence} {n:Nat} {P:Program} {o:Oper} {a:Act} {N N':Act→World→Prop} {Q:Exit→Act→World→Prop} {d0:List Deferred} {r:Result Next} (hd:a.defers=d0) (hN:∀a' w',a'.defers=d0→N a' w'→N' a' w')
  (cX:∀d w',r≠.ok (.defer d) w') (h:o.uponIn F n P a N Q r):o.uponIn F n P a N' (Kl d0 Q) r:=by
 have hp:∀v,(a.put o.dst v).defers=d0:=fun v=>by rw [←hd];exact put_defers ..
 have hl:LetsOut Q→LetsOut (Kl d0 Q):=fun ⟨a,w,h⟩=>⟨a,w,h,fun e=>by cases e⟩;unfold Oper.uponIn at h ⊢;split at h;iterate 2 exact hN _ _ (hp _) h
 ·exact absurd rfl (cX _ _)
 ·refine ⟨h.1,h.2.mono fun e pT he=>?_⟩;cases e with
  |returned v=>exact hN _ _ (hp _) he
  |panicked c=>exact ⟨he,fun e=>by cases e⟩
  |outgrown=>exact hl he
 ·exact ⟨h.1,h.2.mono fun v pT he=>hN _ _ (hp _) he⟩
 ·refine ⟨h.1,h.2.mono fun e pT he=>?_⟩;cases e with
  |returned v=>exact hN _ _ (hp _) he
  |panicked c=>exact ⟨he,fun e=>by cases e⟩
  |outgrown=>exact hl he
 ·exact ⟨h,fun e=>by cases e⟩
 ·exact h.elim
def ab1 {F:Fence} {n:Nat} {P:Program} {ops:Array Oper} {Q:Exit→Act→World→Prop} {d0:List Deferred} (cX:∀(i:Nat) (o:Oper),ops[i]?=some o→∀(a:Act) (w:World) (d:Deferred) (w':World),(o.semAt F.round a.eval).run P w≠.ok (.defer d) w') :
  ∀(l:List Nat) (a:Act) (w:World),a.defers=d0→wpOpsIn F n P ops Q l a w→wpOpsIn F n P ops (Kl d0 Q) l a w:=by
 intro l;induction l with
 |nil=>exact fun a w hd h=>⟨h,fun _=>hd⟩
 |cons i r ih =>
  intro a w hd h;simp only [wpOpsIn] at h ⊢;cases ho:ops[i]? with
  |none=>simp only [ho] at h ⊢;exact ih a w hd h
  |some o =>
   simp only [ho] at h ⊢;split at h
   ·rename_i hw;rw [if_pos hw];exact ⟨h.1,aeo hd (fun a' w' bz h'=>ih a' w' bz h') (cX i o ho a w) h.2⟩
   ·rename_i hw;rw [if_neg hw];exact ⟨h.1,ih _ _ (by rw [←hd];exact put_defers ..) h.2⟩
def abJ {α:Type} {P:Program} {s:Sem α} {f:α→Next} {w w':World} {d:Deferred} (hf:∀x,f x≠.defer d):(do let v ←s;pure (f v)).run P w≠.ok (.defer d) w':=by
 rw [Sem.run_bind];cases s.run P w with
 |ok v w2=>simp [hf v]
 |halt x w2=>simp [Result.andThen]
end
end Go.Cat
namespace Go.Proofs
open Go.Proofs.Tryz
open Go Go.Cat
variable [M:bU]
structure Wt (p:Prop):Prop where
 out:p
def three {vs:Array Value} (hs:vs.size=3):∃a b c,vs=#[a,b,c]:=by
 refine ⟨vs.getD 0 undef,vs.getD 1 undef,vs.getD 2 undef,?_⟩;apply Array.ext
 ·simpa using hs
 ·intro i h3 h4;have h4:i<3:=h4
  have:i=0∨i=1∨i=2:=by omega
  rcases this with rfl|rfl|rfl<;>simp [hs]
def abK (w:World):(VX .nilIface 20 68 true).run prog w=.ok (.tuple #[.nilIface,.bool false]) w:=by kernel_rfl
def aa' (m:Int) (w:World):(VX (.iface 45 (.int .i64 m)) 20 68 true).run prog w=.ok (.tuple #[.iface 45 (.int .i64 m),.bool true]) w :=
 run_typeAssert_hasB underlying68 (by kernel_rfl) _ _ w
def W5 (w:World) (vs:Array Value) (hs:vs.size=3):CallsDIn Fence.wide 0 prog 26 vs .returning w fun e u w'=>(∃v,e=.returned v)∧u=.returning∧Below w.heap.size w w':=by
 obtain ⟨a,b,c,rfl⟩:=three hs;have ta:=abK w;refine callsDIn_of_wpSIn func26 rfl trivial fun Pp cs hu=>?_;apply wpSIn_seq;apply wpSIn_region;simp [wpOpsSIn,go_sem,recoverD,hu,ntmps26,G0,ta];apply wpSIn_seq;apply wpSIn_region;simp [wpOpsSIn,go_sem,G0];refine wpSIn_cond (t:=false) (by simp [Act.eval]) ?_;simp only [Bool.false_eq_true,if_false];refine wpSIn_of_wpIn rfl (wpIn_skip ?_);cases Pp
 simp_all [bodyPostS,results,results26]
 exact Below.refl _ _
set_option maxHeartbeats 1000000 in
set_option maxRecDepth 100000 in
def W4 (r0 r4 r5 r6 r8 r9:List (List AV)) (n1 n2 n3 n7:Int) (m:Int) (w:World) (F:Nat→Prop) (β:Nat→Value) (x y:List AV) (hI:Inv w F β (jN [.s r0,vi n1,vi n2,vi n3,.s r4,.s r5,.s r6,vi n7,.s r8,.s r9] x y)) (hx:x.length=10) (hy:y.length=7) :
  CallsDIn Fence.wide 0 prog 26 #[β 1000,β 1001,β 1002] (.panicking (iU 45 m)) w fun e u w'=>(∃v,e=.returned v)∧u=.panicking [{ v:=.iface 45 (.int .i64 m),recovered:=true }] ∧
   ∃F' aw,Ext w F β ⟨aM,jN [.s r0,vi n1,vi n2,vi n3,.s r4,.s r5,.s r6,vi n7,.s r8,.s r9] x y⟩ w' F' aw ⟨aM,jN [.s r0,vi n1,vi n2,vi n3,.s r4,.s r5,.s r6,vi n7,.s r8,.s r9] [.s r0,vi n1,vi n2,vi n3,.s r4,.s r5,.s r6,vi n7,.s r8,.s r9] [vi m,vi 0,vi 0,vi 0,vi 0,.s [],.s []]⟩:=by
 have ta:=aa' m;obtain ⟨b0,c0,e0,dY,Z5,hs0,DG,cN⟩:=hI.holds 1000 (.box [.s r0,vi n1,vi n2,vi n3,.s r4,.s r5,.s r6,vi n7,.s r8,.s r9]) (by simp);obtain ⟨b1,c1,e1,cy,Z6,AO,DH,AL⟩:=hI.holds 1001 (.box x) (by simp);obtain ⟨b2,c2,e2,kP,Z7,Ee,pf,na⟩:=hI.holds 1002 (.box y) (by simp);have hg:w.cell? ⟨0,0,none⟩=some (.iface 173 (.agg #[.pointer (some ⟨2,68,none⟩)])):=(hI.eN 0 _ (List.mem_singleton.2 rfl)).2
 have Ξ:0<w.heap.size:=by
  rcases Nat.eq_zero_or_pos w.heap.size with h0|h
  ·simp [World.cell?,h0] at hg
  ·exact h
 rw [dY,cy,kP];refine callsDIn_of_wpSIn func26 rfl trivial fun Pp cs hu=>?_;simp only [ntmps26,List.size_toArray,List.length_cons,List.length_nil,Nat.reduceAdd,Nat.reduceSub,Array.replicate_succ,Array.replicate_zero,List.push_toArray,List.append_toArray,List.nil_append,List.cons_append];apply wpSIn_seq;apply wpSIn_region;simp [wpOpsSIn,go_sem,recoverD,hu,ntmps26,G0,ta];apply wpSIn_seq;apply wpSIn_region;simp [wpOpsSIn,go_sem,G0];refine wpSIn_cond (t:=true) (by simp [Act.eval]) ?_;simp only [if_true];refine wpSIn_of_wpIn rfl (wpIn_wide.2 ?_);go_wp2_with (go_at_call 27;refine (As11.WD m ⟨w.heap.size,0,none⟩ (.int .i64 0) _ ?_ ?_ ?_).mono ?_)
 ·rw [World.cell?_alloc_lt _ _ ⟨0,0,none⟩ Ξ];exact hg
 ·exact (World.cell?_alloc_at _ _ _ 0 rfl).trans rfl
 ·exact World.frozen?_alloc_at _ _ _ 0 rfl
 rename_i Q5 K5 Qe K6 hK6 K7 hK7;have Y':Wt _:=⟨Qe⟩;clear Qe;rintro e w' ⟨rfl,nf⟩;obtain ⟨W1,iD⟩:∃W1,W1=w.alloc (.cells #[.int .i64 0] 45):=⟨_,rfl⟩;rw [←iD] at nf
 have s1:W1.heap.size=w.heap.size+1:=by
  rw [iD];exact NY ..
 have k1:∀b,b<w.heap.size→w'.heap[b]?=w.heap[b]?:=fun b hb=>by
  rw [nf,heap_setCell_other _ _ _ _ (show b≠w.heap.size from Nat.ne_of_lt hb)];simp only [kL,lN,NY,s1];rw [if_neg (by omega),if_neg (by omega),if_neg (by omega),if_neg (by omega),iD];simp only [kL,lN];rw [if_neg (by omega)]
 have k2:w'.heap[w.heap.size]?=some (.cells #[.int .i64 m] 45 (0,0)):=by
  rw [nf];refine (one_setCell (v:=.int .i64 0) ?_);simp only [kL,lN,NY,s1];rw [if_neg (by omega),if_neg (by omega),if_neg (by omega),if_neg (by omega),iD];simp only [kL,lN,if_true]
 have k3:w'.os=w.os:=by rw [nf,iD];rfl
 have k4:w'.tape=w.tape:=by rw [nf,iD];rfl
 have k5:w'.drawn=w.drawn:=by rw [nf,iD];rfl
 have k6:w'.output=w.output:=by rw [nf,iD];rfl
 have k7:w.heap.size<w'.heap.size:=(Array.getElem?_eq_some_iff.1 k2).1;clear nf iD s1;go_wp2;refine Y'.out _ _ ?_;obtain ⟨H0,Qd⟩:∃H0:Hp,H0=jN [.s r0,vi n1,vi n2,vi n3,.s r4,.s r5,.s r6,vi n7,.s r8,.s r9] [.χ,.χ,.χ,.χ,.χ,.χ,.χ,.χ,.χ,.χ] [.χ,.χ,.χ,.χ,.χ,.χ,.χ]:=⟨_,rfl⟩
 have xG:Inv w F β H0:=by
  subst Qd;refine ⟨hI.bW,fun i c hm=>?_,by simp,fun b ⟨i,c,hm,hb⟩=>?_,fun i c i' c' b hm bE hb aH=>?_,hI.eN⟩
  ·simp only [bp,gC,eI,or_false] at hm
   rcases hm with ⟨rfl,rfl⟩|⟨rfl,rfl⟩|⟨rfl,rfl⟩
   ·exact ⟨b0,c0,e0,dY,Z5,hs0,DG,cN⟩
   ·refine ⟨b1,c1,e1,cy,Z6,by rw [AO,hx];rfl,fun i hi=>DH i (by rw [hx];exact hi),fun i hi=>?_⟩;have hi:i<10:=hi
    have:([.χ,.χ,.χ,.χ,.χ,.χ,.χ,.χ,.χ,.χ]:List AV).getD i .χ=.χ:=by
     rcases i with _|_|_|_|_|_|_|_|_|_|i<;>rfl
    rw [this];exact .χ
   ·refine ⟨b2,c2,e2,kP,Z7,by rw [Ee,hy];rfl,fun i hi=>pf i (by rw [hy];exact hi),fun i hi=>?_⟩;have hi:i<7:=hi
    have:([.χ,.χ,.χ,.χ,.χ,.χ,.χ]:List AV).getD i .χ=.χ:=by
     rcases i with _|_|_|_|_|_|_|i<;>rfl
    rw [this];exact .χ
  ·simp only [bp,gC,eI,or_false] at hm
   rcases hm with ⟨rfl,rfl⟩|⟨rfl,rfl⟩|⟨rfl,rfl⟩
   ·exact hI.apart b ⟨1000,_,js ..,hb⟩
   ·exact hI.apart b ⟨1001,_,cu _ (js ..),hb⟩
   ·exact hI.apart b ⟨1002,_,cu _ (cu _ (js ..)),hb⟩
  ·have key:∀i c,(i,c)∈jN [.s r0,vi n1,vi n2,vi n3,.s r4,.s r5,.s r6,vi n7,.s r8,.s r9] [.χ,.χ,.χ,.χ,.χ,.χ,.χ,.χ,.χ,.χ] [.χ,.χ,.χ,.χ,.χ,.χ,.χ]→∃c',(i,c')∈jN [.s r0,vi n1,vi n2,vi n3,.s r4,.s r5,.s r6,vi n7,.s r8,.s r9] x y:=fun i c hm=>by
    simp only [bp,gC,eI,or_false] at hm
    rcases hm with ⟨rfl,rfl⟩|⟨rfl,rfl⟩|⟨rfl,rfl⟩
    ·exact ⟨_,js ..⟩
    ·exact ⟨_,cu _ (js ..)⟩
    ·exact ⟨_,cu _ (cu _ (js ..))⟩
   obtain ⟨_,h1⟩:=key _ _ hm;obtain ⟨_,h2⟩:=key _ _ bE;exact hI.dR _ _ _ _ b h1 h2 hb aH
 have bJ:Ext w F β ⟨aM,H0⟩ w' F (fun i=>if i=5 then .pointer (some ⟨w.heap.size,0,none⟩) else β i) ⟨fun t=>er 2 5 (aM t),(5,.box [vi m])::gu 5 H0⟩ :=
  ow (st:=⟨aM,H0⟩) (by omega) xG k3 ⟨k4,fun _=>by rw [k5];exact Nat.le_refl _⟩ k6 (Nat.le_of_lt k7) (fun b hb _=>k1 b hb) (fun i c' b _ hm hb=>k1 b (xG.fj ⟨i,c',hm,hb⟩)) (fun b hb=>.inl (by simp [bF] at hb;omega))
   ⟨w.heap.size,#[.int .i64 m],45,if_pos rfl,k2,rfl,fun i hi=>by
    have:i=0:=by simpa using hi
    subst this;rfl,fun i hi=>by
    have:i=0:=by simpa using hi
    subst this;exact .i (.v (.inl rfl))⟩
 subst Qd;let C5:Ctx:=⟨w,F,β,jN [.s r0,vi n1,vi n2,vi n3,.s r4,.s r5,.s r6,vi n7,.s r8,.s r9] [.χ,.χ,.χ,.χ,.χ,.χ,.χ,.χ,.χ,.χ] [.χ,.χ,.χ,.χ,.χ,.χ,.χ],20,none,.inl rfl,[]⟩;refine wpIn_wide.1 (wpIn_mono (wpIn_region (ab1 (d0:=[]) ?cX _ _ _ rfl (VC (C:=C5) (n:=20) (Q:=fun e a' w'=>∃av,Rel C5 av a' w'∧e=.normal∧Wk av ⟨Γ [],jN [.s r0,vi n1,vi n2,vi n3,.s r4,.s r5,.s r6,vi n7,.s r8,.s r9] [.s r0,vi n1,vi n2,vi n3,.s r4,.s r5,.s r6,vi n7,.s r8,.s r9] [vi m,vi 0,vi 0,vi 0,vi 0,.s [],.s []]⟩) (K:=fun av=>Wk av ⟨Γ [],jN [.s r0,vi n1,vi n2,vi n3,.s r4,.s r5,.s r6,vi n7,.s r8,.s r9] [.s r0,vi n1,vi n2,vi n3,.s r4,.s r5,.s r6,vi n7,.s r8,.s r9] [vi m,vi 0,vi 0,vi 0,vi 0,.s [],.s []]⟩) tok rfl (fun st a w hr hk=>⟨st,hr,rfl,hk⟩) _ ⟨Γ [(0,(.b 1000 0)),(1,(.b 1001 0)),(2,(.b 1002 0)),(5,(.b 5 0))],[(5,.box [vi m]),(1000,.box [.s r0,vi n1,vi n2,vi n3,.s r4,.s r5,.s r6,vi n7,.s r8,.s r9]),(1001,.box [.χ,.χ,.χ,.χ,.χ,.χ,.χ,.χ,.χ,.χ]),(1002,.box [.χ,.χ,.χ,.χ,.χ,.χ,.χ])]⟩ _ _ ⟨F,_,rfl,trivial,fun t=>?aaD,⟨bJ,fun d hd=>(eI hd).elim,List.nodup_nil,⟨[],rfl⟩⟩⟩ ?JG))) ?qt)
 case cX =>
  intro i o ho a2 w2 d w3
  rcases i with _|_|_|_|_|i<;>simp at ho
  all_goals subst ho
  all_goals first|exact abJ (fun x=>by simp)|skip
 case aaD =>
  have g0:∀(i b:Nat),i≠5→β i=.pointer (some ⟨b,0,none⟩)→(fun i=>if i=5 then Value.pointer (some ⟨w.heap.size,0,none⟩) else β i) i=.pointer (some ⟨b,0,none⟩):=fun i b hi hb=>(if_neg hi).trans hb
  rcases t with _|_|_|_|_|_|t
  ·exact .b (g0 1000 b0 (by decide) dY)
  ·exact .b (g0 1001 b1 (by decide) cy)
  ·exact .b (g0 1002 b2 (by decide) kP)
  iterate 2 exact .χ
  ·exact .b (if_pos rfl)
  ·exact .χ
 case JG =>
  refine ⟨_,rfl,⟨_,rfl,⟨_,rfl,⟨_,rfl,?_⟩⟩⟩⟩;exact Wk.tab (L:=[]) True.intro ⟨⟨_,rfl,.refl _⟩,⟨_,rfl,.refl _⟩,⟨_,rfl,.box (.cons (Le.refl _) (.cons (Le.refl _) (.cons (Le.refl _) (.cons (Le.refl _) (.cons (Le.refl _) (.cons Le.nil (.cons Le.nil .nil)))))))⟩,True.intro⟩ rfl
 case qt =>
  rintro e a3 w3 ⟨⟨av,il,rfl,hW⟩,l6⟩;obtain ⟨F3,oS,_,_,_,aF⟩:=hW C5 a3 w3 il;have hx:=aF.x;have s_:(results f26 a3.tmps).run prog w3=.ok (.tuple #[]) w3:=results_none rfl _ _ _;refine ⟨l6 rfl,_,rfl,_,s_,⟨_,rfl⟩,rfl,F3,oS,?_⟩
  have cY:∀b,br β (jN [.s r0,vi n1,vi n2,vi n3,.s r4,.s r5,.s r6,vi n7,.s r8,.s r9] [.χ,.χ,.χ,.χ,.χ,.χ,.χ,.χ,.χ,.χ] [.χ,.χ,.χ,.χ,.χ,.χ,.χ]) b↔br β (jN [.s r0,vi n1,vi n2,vi n3,.s r4,.s r5,.s r6,vi n7,.s r8,.s r9] x y) b:=by
   intro b;constructor
   ·rintro ⟨i,c,hm,hb⟩;simp only [bp,gC,eI,or_false] at hm
    rcases hm with ⟨rfl,rfl⟩|⟨rfl,rfl⟩|⟨rfl,rfl⟩
    ·exact ⟨1000,_,js ..,hb⟩
    ·exact ⟨1001,_,cu _ (js ..),hb⟩
    ·exact ⟨1002,_,cu _ (cu _ (js ..)),hb⟩
   ·rintro ⟨i,c,hm,hb⟩;simp only [bp,gC,eI,or_false] at hm
    rcases hm with ⟨rfl,rfl⟩|⟨rfl,rfl⟩|⟨rfl,rfl⟩
    ·exact ⟨1000,_,js ..,hb⟩
    ·exact ⟨1001,_,cu _ (js ..),hb⟩
    ·exact ⟨1002,_,cu _ (cu _ (js ..)),hb⟩
  exact ⟨hx.os,hx.tape,hx.output,hx.size,fun b hb hn=>hx.block b hb fun h=>hn ((cY b).1 h),hx.mono,fun b hb=>(hx.new b hb).imp id (Or.imp id (cY b).1),fun b hb=>(hx.owned b hb).imp id (cY b).1,fun _ _ _=>.χ,hx.inv,hx.fH⟩
def W3 (r0 r4 r5 r6 r8 r9:List (List AV)) (n1 n2 n3 n7:Int):OP prog eB 26 [.s r0,vi n1,vi n2,vi n3,.s r4,.s r5,.s r6,vi n7,.s r8,.s r9] 10 7 (fun m=>[vi m,vi 0,vi 0,vi 0,vi 0,.s [],.s []]) where
 re:=⟨_,_,func26,by kernel_rfl,rfl⟩
 ret:=fun w vs hs=>W5 w vs hs
 Bl:=fun m w F β x y hI hx hy=>W4 r0 r4 r5 r6 r8 r9 n1 n2 n3 n7 m w F β x y hI hx hy
end Go.Proofs
