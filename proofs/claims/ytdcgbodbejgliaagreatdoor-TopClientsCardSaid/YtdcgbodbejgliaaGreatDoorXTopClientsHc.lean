/- The closure of fs.Do that takes a panic back. No condition. -/
import Derived.Test.YtdcgbodbejgliaaGreatDoorXTopClientsHa
import Derived.Test.YtdcgbodbejgliaaGreatDoorXTopClientsCatP7
import Derived.Tactics2
import Derived.TacticsInMore
import Derived.Defers
import Derived.RecoverIn
set_option linter.all false
open Array renaming getElem?_push → na, size_push → QP
open Go.Exit renaming thenS → K4
open Go.Instr renaming typeAssert → Zk
open Go.World renaming alloc → lR
open List renaming mem_cons_of_mem → cu, mem_cons → bf, not_mem_nil → eJ, mem_cons_self → j1
open Prod.mk renaming injEq → il
namespace Go.Cat
set_option linter.all false
open Go.RowKit
section
variable [M:bM] [G:cK] [R:dK]
def Ou (d0:List Deferred) (Q:Exit→Act→World→Prop):Exit→Act→World→Prop:=fun e a w=>Q e a w∧(e=.normal→a.defers=d0)
def aik {F:Fence} {n:Nat} {P:Program} {o:Oper} {a:Act} {N N':Act→World→Prop} {Q:Exit→Act→World→Prop} {d0:List Deferred} {r:Result Next} (hd:a.defers=d0) (hN:∀a' w',a'.defers=d0→N a' w'→N' a' w')
  (dJ:∀d w',r≠.ok (.defer d) w') (h:o.uponIn F n P a N Q r):o.uponIn F n P a N' (Ou d0 Q) r:=by
 have hp:∀v,(a.put o.dst v).defers=d0:=fun v=>by rw [←hd];exact put_defers ..
 have hl:LetsOut Q→LetsOut (Ou d0 Q):=fun ⟨a,w,h⟩=>⟨a,w,h,fun e=>by cases e⟩;unfold Oper.uponIn at h ⊢;split at h;iterate 2 exact hN _ _ (hp _) h
 ·exact absurd rfl (dJ _ _)
 ·refine ⟨h.1,h.2.mono fun e sd he=>?_⟩;cases e with
  |returned v=>exact hN _ _ (hp _) he
  |panicked c=>exact ⟨he,fun e=>by cases e⟩
  |outgrown=>exact hl he
 ·exact ⟨h.1,h.2.mono fun v sd he=>hN _ _ (hp _) he⟩
 ·refine ⟨h.1,h.2.mono fun e sd he=>?_⟩;cases e with
  |returned v=>exact hN _ _ (hp _) he
  |panicked c=>exact ⟨he,fun e=>by cases e⟩
  |outgrown=>exact hl he
 ·exact ⟨h,fun e=>by cases e⟩
 ·exact h.elim
def aeI {F:Fence} {n:Nat} {P:Program} {ops:Array Oper} {Q:Exit→Act→World→Prop} {d0:List Deferred} (dJ:∀(i:Nat) (o:Oper),ops[i]?=some o→∀(a:Act) (w:World) (d:Deferred) (w':World),(o.semAt F.round a.eval).run P w≠.ok (.defer d) w') :
  ∀(l:List Nat) (a:Act) (w:World),a.defers=d0→wpOpsIn F n P ops Q l a w→wpOpsIn F n P ops (Ou d0 Q) l a w:=by
 intro l;induction l with
 |nil=>exact fun a w hd h=>⟨h,fun _=>hd⟩
 |cons i r ih =>
  intro a w hd h;simp only [wpOpsIn] at h ⊢;cases ho:ops[i]? with
  |none=>simp only [ho] at h ⊢;exact ih a w hd h
  |some o =>
   simp only [ho] at h ⊢;split at h
   ·rename_i hw;rw [if_pos hw];exact ⟨h.1,aik hd (fun a' w' bH h'=>ih a' w' bH h') (dJ i o ho a w) h.2⟩
   ·rename_i hw;rw [if_neg hw];exact ⟨h.1,ih _ _ (by rw [←hd];exact put_defers ..) h.2⟩
def aeq {α:Type} {P:Program} {s:Sem α} {f:α→Next} {w w':World} {d:Deferred} (hf:∀x,f x≠.defer d):(do let v ←s;pure (f v)).run P w≠.ok (.defer d) w':=by
 rw [Sem.run_bind];cases s.run P w with
 |ok v w2=>simp [hf v]
 |halt x w2=>simp [Result.andThen]
end
end Go.Cat
namespace Go.Proofs
open Go.Proofs.Tryz
open Go Go.Cat
variable [M:bM]
structure ZV (p:Prop):Prop where
 out:p
def three {vs:Array Value} (hs:vs.size=3):∃a b c,vs=#[a,b,c]:=by
 refine ⟨vs.getD 0 undef,vs.getD 1 undef,vs.getD 2 undef,?_⟩;apply Array.ext
 ·simpa using hs
 ·intro i h3 h4;have h4:i<3:=h4
  have:i=0∨i=1∨i=2:=by omega
  rcases this with rfl|rfl|rfl<;>simp [hs]
def aer (w:World):(Zk .nilIface 20 68 true).run prog w=.ok (.tuple #[.nilIface,.bool false]) w:=by kernel_rfl
def adH (m:Int) (w:World):(Zk (.iface 45 (.int .i64 m)) 20 68 true).run prog w=.ok (.tuple #[.iface 45 (.int .i64 m),.bool true]) w :=
 run_typeAssert_hasB underlying68 (by kernel_rfl) _ _ w
def aap (w:World) (vs:Array Value) (hs:vs.size=3):CallsDIn Fence.wide 0 prog 26 vs .returning w fun e u w'=>(∃v,e=.returned v)∧u=.returning∧Below w.heap.size w w':=by
 obtain ⟨a,b,c,rfl⟩:=three hs;have ta:=aer w;refine callsDIn_of_wpSIn func26 rfl trivial fun Sk cs hu=>?_;apply wpSIn_seq;apply wpSIn_region;simp [wpOpsSIn,go_sem,recoverD,hu,ntmps26,K4,ta];apply wpSIn_seq;apply wpSIn_region;simp [wpOpsSIn,go_sem,K4];refine wpSIn_cond (t:=false) (by simp [Act.eval]) ?_;simp only [Bool.false_eq_true,if_false];refine wpSIn_of_wpIn rfl (wpIn_skip ?_);cases Sk
 simp_all [bodyPostS,results,results26]
 exact Below.refl _ _
set_option maxHeartbeats 1000000 in
set_option maxRecDepth 100000 in
def aao (r0 r4 r5 r6 r8 r9:List (List AV)) (n1 n2 n3 n7:Int) (m:Int) (w:World) (F:Nat→Prop) (β:Nat→Value) (x y:List AV) (hI:Inv w F β (kG [.s r0,vi n1,vi n2,vi n3,.s r4,.s r5,.s r6,vi n7,.s r8,.s r9] x y)) (hx:x.length=10) (hy:y.length=7) :
  CallsDIn Fence.wide 0 prog 26 #[β 1000,β 1001,β 1002] (.panicking (jI 45 m)) w fun e u w'=>(∃v,e=.returned v)∧u=.panicking [{ v:=.iface 45 (.int .i64 m),recovered:=true }] ∧
   ∃F' av,Ext w F β ⟨aF,kG [.s r0,vi n1,vi n2,vi n3,.s r4,.s r5,.s r6,vi n7,.s r8,.s r9] x y⟩ w' F' av ⟨aF,kG [.s r0,vi n1,vi n2,vi n3,.s r4,.s r5,.s r6,vi n7,.s r8,.s r9] [.s r0,vi n1,vi n2,vi n3,.s r4,.s r5,.s r6,vi n7,.s r8,.s r9] [vi m,vi 0,vi 0,vi 0,vi 0,.s [],.s []]⟩:=by
 have ta:=adH m;obtain ⟨b0,c0,e0,eo,hh0,hs0,Ir,c8⟩:=hI.holds 1000 (.box [.s r0,vi n1,vi n2,vi n3,.s r4,.s r5,.s r6,vi n7,.s r8,.s r9]) (by simp);obtain ⟨b1,c1,e1,cO,hh1,NP,Is,EK⟩:=hI.holds 1001 (.box x) (by simp);obtain ⟨b2,c2,e2,iA,hh2,NQ,It,oJ⟩:=hI.holds 1002 (.box y) (by simp);have hg:w.cell? ⟨0,0,none⟩=some (.iface 173 (.agg #[.pointer (some ⟨2,68,none⟩)])):=(hI.fk 0 _ (List.mem_singleton.2 rfl)).2
 have Φ:0<w.heap.size:=by
  rcases Nat.eq_zero_or_pos w.heap.size with h0|h
  ·simp [World.cell?,h0] at hg
  ·exact h
 rw [eo,cO,iA];refine callsDIn_of_wpSIn func26 rfl trivial fun Sk cs hu=>?_;simp only [ntmps26,List.size_toArray,List.length_cons,List.length_nil,Nat.reduceAdd,Nat.reduceSub,Array.replicate_succ,Array.replicate_zero,List.push_toArray,List.append_toArray,List.nil_append,List.cons_append];apply wpSIn_seq;apply wpSIn_region;simp [wpOpsSIn,go_sem,recoverD,hu,ntmps26,K4,ta];apply wpSIn_seq;apply wpSIn_region;simp [wpOpsSIn,go_sem,K4];refine wpSIn_cond (t:=true) (by simp [Act.eval]) ?_;simp only [if_true];refine wpSIn_of_wpIn rfl (wpIn_wide.2 ?_);go_wp2_with (go_at_call 27;refine (As11.Z' m ⟨w.heap.size,0,none⟩ (.int .i64 0) _ ?_ ?_ ?_).mono ?_)
 ·rw [World.cell?_alloc_lt _ _ ⟨0,0,none⟩ Φ];exact hg
 ·exact (World.cell?_alloc_at _ _ _ 0 rfl).trans rfl
 ·exact World.frozen?_alloc_at _ _ _ 0 rfl
 rename_i Q5 K5 Tq K6 hK6 K7 hK7;have abD:ZV _:=⟨Tq⟩;clear Tq;rintro e w' ⟨rfl,oM⟩;obtain ⟨W1,jg⟩:∃W1,W1=w.alloc (.cells #[.int .i64 0] 45):=⟨_,rfl⟩;rw [←jg] at oM
 have s1:W1.heap.size=w.heap.size+1:=by
  rw [jg];exact QP ..
 have k1:∀b,b<w.heap.size→w'.heap[b]?=w.heap[b]?:=fun b hb=>by
  rw [oM,heap_setCell_other _ _ _ _ (show b≠w.heap.size from Nat.ne_of_lt hb)];simp only [lR,na,QP,s1];rw [if_neg (by omega),if_neg (by omega),if_neg (by omega),if_neg (by omega),jg];simp only [lR,na];rw [if_neg (by omega)]
 have k2:w'.heap[w.heap.size]?=some (.cells #[.int .i64 m] 45 (0,0)):=by
  rw [oM];refine (one_setCell (v:=.int .i64 0) ?_);simp only [lR,na,QP,s1];rw [if_neg (by omega),if_neg (by omega),if_neg (by omega),if_neg (by omega),jg];simp only [lR,na,if_true]
 have k3:w'.os=w.os:=by rw [oM,jg];rfl
 have k4:w'.tape=w.tape:=by rw [oM,jg];rfl
 have k5:w'.drawn=w.drawn:=by rw [oM,jg];rfl
 have k6:w'.output=w.output:=by rw [oM,jg];rfl
 have k7:w.heap.size<w'.heap.size:=(Array.getElem?_eq_some_iff.1 k2).1;clear oM jg s1;go_wp2;refine abD.out _ _ ?_;obtain ⟨H0,Tp⟩:∃H0:Hp,H0=kG [.s r0,vi n1,vi n2,vi n3,.s r4,.s r5,.s r6,vi n7,.s r8,.s r9] [.χ,.χ,.χ,.χ,.χ,.χ,.χ,.χ,.χ,.χ] [.χ,.χ,.χ,.χ,.χ,.χ,.χ]:=⟨_,rfl⟩
 have A8:Inv w F β H0:=by
  subst Tp;refine ⟨hI.cC,fun i c hm=>?_,by simp,fun b ⟨i,c,hm,hb⟩=>?_,fun i c i' c' b hm bW hb aK=>?_,hI.fk⟩
  ·simp only [bf,il,eJ,or_false] at hm
   rcases hm with ⟨rfl,rfl⟩|⟨rfl,rfl⟩|⟨rfl,rfl⟩
   ·exact ⟨b0,c0,e0,eo,hh0,hs0,Ir,c8⟩
   ·refine ⟨b1,c1,e1,cO,hh1,by rw [NP,hx];rfl,fun i hi=>Is i (by rw [hx];exact hi),fun i hi=>?_⟩;have hi:i<10:=hi
    have:([.χ,.χ,.χ,.χ,.χ,.χ,.χ,.χ,.χ,.χ]:List AV).getD i .χ=.χ:=by
     rcases i with _|_|_|_|_|_|_|_|_|_|i<;>rfl
    rw [this];exact .χ
   ·refine ⟨b2,c2,e2,iA,hh2,by rw [NQ,hy];rfl,fun i hi=>It i (by rw [hy];exact hi),fun i hi=>?_⟩;have hi:i<7:=hi
    have:([.χ,.χ,.χ,.χ,.χ,.χ,.χ]:List AV).getD i .χ=.χ:=by
     rcases i with _|_|_|_|_|_|_|i<;>rfl
    rw [this];exact .χ
  ·simp only [bf,il,eJ,or_false] at hm
   rcases hm with ⟨rfl,rfl⟩|⟨rfl,rfl⟩|⟨rfl,rfl⟩
   ·exact hI.apart b ⟨1000,_,j1 ..,hb⟩
   ·exact hI.apart b ⟨1001,_,cu _ (j1 ..),hb⟩
   ·exact hI.apart b ⟨1002,_,cu _ (cu _ (j1 ..)),hb⟩
  ·have key:∀i c,(i,c)∈kG [.s r0,vi n1,vi n2,vi n3,.s r4,.s r5,.s r6,vi n7,.s r8,.s r9] [.χ,.χ,.χ,.χ,.χ,.χ,.χ,.χ,.χ,.χ] [.χ,.χ,.χ,.χ,.χ,.χ,.χ]→∃c',(i,c')∈kG [.s r0,vi n1,vi n2,vi n3,.s r4,.s r5,.s r6,vi n7,.s r8,.s r9] x y:=fun i c hm=>by
    simp only [bf,il,eJ,or_false] at hm
    rcases hm with ⟨rfl,rfl⟩|⟨rfl,rfl⟩|⟨rfl,rfl⟩
    ·exact ⟨_,j1 ..⟩
    ·exact ⟨_,cu _ (j1 ..)⟩
    ·exact ⟨_,cu _ (cu _ (j1 ..))⟩
   obtain ⟨_,h1⟩:=key _ _ hm;obtain ⟨_,h2⟩:=key _ _ bW;exact hI.eC _ _ _ _ b h1 h2 hb aK
 have dv:Ext w F β ⟨aF,H0⟩ w' F (fun i=>if i=5 then .pointer (some ⟨w.heap.size,0,none⟩) else β i) ⟨fun t=>er 2 5 (aF t),(5,.box [vi m])::gT 5 H0⟩ :=
  qc (st:=⟨aF,H0⟩) (by omega) A8 k3 ⟨k4,fun _=>by rw [k5];exact Nat.le_refl _⟩ k6 (Nat.le_of_lt k7) (fun b hb _=>k1 b hb) (fun i c' b _ hm hb=>k1 b (A8.fM ⟨i,c',hm,hb⟩)) (fun b hb=>.inl (by simp [bR] at hb;omega))
   ⟨w.heap.size,#[.int .i64 m],45,if_pos rfl,k2,rfl,fun i hi=>by
    have:i=0:=by simpa using hi
    subst this;rfl,fun i hi=>by
    have:i=0:=by simpa using hi
    subst this;exact .i (.v (.inl rfl))⟩
 subst Tp;let C5:Ctx:=⟨w,F,β,kG [.s r0,vi n1,vi n2,vi n3,.s r4,.s r5,.s r6,vi n7,.s r8,.s r9] [.χ,.χ,.χ,.χ,.χ,.χ,.χ,.χ,.χ,.χ] [.χ,.χ,.χ,.χ,.χ,.χ,.χ],20,none,.inl rfl,[]⟩;refine wpIn_wide.1 (wpIn_mono (wpIn_region (aeI (d0:=[]) ?dJ _ _ _ rfl (YT (C:=C5) (n:=20) (Q:=fun e a' w'=>∃aq,Rel C5 aq a' w'∧e=.normal∧Wk aq ⟨ar [],kG [.s r0,vi n1,vi n2,vi n3,.s r4,.s r5,.s r6,vi n7,.s r8,.s r9] [.s r0,vi n1,vi n2,vi n3,.s r4,.s r5,.s r6,vi n7,.s r8,.s r9] [vi m,vi 0,vi 0,vi 0,vi 0,.s [],.s []]⟩) (K:=fun aq=>Wk aq ⟨ar [],kG [.s r0,vi n1,vi n2,vi n3,.s r4,.s r5,.s r6,vi n7,.s r8,.s r9] [.s r0,vi n1,vi n2,vi n3,.s r4,.s r5,.s r6,vi n7,.s r8,.s r9] [vi m,vi 0,vi 0,vi 0,vi 0,.s [],.s []]⟩) tok rfl (fun st a w hr hk=>⟨st,hr,rfl,hk⟩) _ ⟨ar [(0,(.b 1000 0)),(1,(.b 1001 0)),(2,(.b 1002 0)),(5,(.b 5 0))],[(5,.box [vi m]),(1000,.box [.s r0,vi n1,vi n2,vi n3,.s r4,.s r5,.s r6,vi n7,.s r8,.s r9]),(1001,.box [.χ,.χ,.χ,.χ,.χ,.χ,.χ,.χ,.χ,.χ]),(1002,.box [.χ,.χ,.χ,.χ,.χ,.χ,.χ])]⟩ _ _ ⟨F,_,rfl,trivial,fun t=>?ac1,⟨dv,fun d hd=>(eJ hd).elim,List.nodup_nil,⟨[],rfl⟩⟩⟩ ?NG))) ?sZ)
 case dJ =>
  intro i o ho a2 w2 d w3
  rcases i with _|_|_|_|_|i<;>simp at ho
  all_goals subst ho
  all_goals first|exact aeq (fun x=>by simp)|skip
 case ac1 =>
  have g0:∀(i b:Nat),i≠5→β i=.pointer (some ⟨b,0,none⟩)→(fun i=>if i=5 then Value.pointer (some ⟨w.heap.size,0,none⟩) else β i) i=.pointer (some ⟨b,0,none⟩):=fun i b hi hb=>(if_neg hi).trans hb
  rcases t with _|_|_|_|_|_|t
  ·exact .b (g0 1000 b0 (by decide) eo)
  ·exact .b (g0 1001 b1 (by decide) cO)
  ·exact .b (g0 1002 b2 (by decide) iA)
  iterate 2 exact .χ
  ·exact .b (if_pos rfl)
  ·exact .χ
 case NG =>
  refine ⟨_,rfl,⟨_,rfl,⟨_,rfl,⟨_,rfl,?_⟩⟩⟩⟩;exact Wk.tab (L:=[]) True.intro ⟨⟨_,rfl,.refl _⟩,⟨_,rfl,.refl _⟩,⟨_,rfl,.box (.cons (Le.refl _) (.cons (Le.refl _) (.cons (Le.refl _) (.cons (Le.refl _) (.cons (Le.refl _) (.cons Le.nil (.cons Le.nil .nil)))))))⟩,True.intro⟩ rfl
 case sZ =>
  rintro e a3 w3 ⟨⟨aq,iQ,rfl,hW⟩,oE⟩;obtain ⟨F3,qK,_,_,_,aM⟩:=hW C5 a3 w3 iQ;have hx:=aM.x;have wI:(results f26 a3.tmps).run prog w3=.ok (.tuple #[]) w3:=results_none rfl _ _ _;refine ⟨oE rfl,_,rfl,_,wI,⟨_,rfl⟩,rfl,F3,qK,?_⟩
  have dr:∀b,bC β (kG [.s r0,vi n1,vi n2,vi n3,.s r4,.s r5,.s r6,vi n7,.s r8,.s r9] [.χ,.χ,.χ,.χ,.χ,.χ,.χ,.χ,.χ,.χ] [.χ,.χ,.χ,.χ,.χ,.χ,.χ]) b↔bC β (kG [.s r0,vi n1,vi n2,vi n3,.s r4,.s r5,.s r6,vi n7,.s r8,.s r9] x y) b:=by
   intro b;constructor
   ·rintro ⟨i,c,hm,hb⟩;simp only [bf,il,eJ,or_false] at hm
    rcases hm with ⟨rfl,rfl⟩|⟨rfl,rfl⟩|⟨rfl,rfl⟩
    ·exact ⟨1000,_,j1 ..,hb⟩
    ·exact ⟨1001,_,cu _ (j1 ..),hb⟩
    ·exact ⟨1002,_,cu _ (cu _ (j1 ..)),hb⟩
   ·rintro ⟨i,c,hm,hb⟩;simp only [bf,il,eJ,or_false] at hm
    rcases hm with ⟨rfl,rfl⟩|⟨rfl,rfl⟩|⟨rfl,rfl⟩
    ·exact ⟨1000,_,j1 ..,hb⟩
    ·exact ⟨1001,_,cu _ (j1 ..),hb⟩
    ·exact ⟨1002,_,cu _ (cu _ (j1 ..)),hb⟩
  exact ⟨hx.os,hx.tape,hx.output,hx.size,fun b hb hn=>hx.block b hb fun h=>hn ((dr b).1 h),hx.mono,fun b hb=>(hx.new b hb).imp id (Or.imp id (dr b).1),fun b hb=>(hx.owned b hb).imp id (dr b).1,fun _ _ _=>.χ,hx.inv,hx.gu⟩
def aan (r0 r4 r5 r6 r8 r9:List (List AV)) (n1 n2 n3 n7:Int):RA prog bh 26 [.s r0,vi n1,vi n2,vi n3,.s r4,.s r5,.s r6,vi n7,.s r8,.s r9] 10 7 (fun m=>[vi m,vi 0,vi 0,vi 0,vi 0,.s [],.s []]) where
 uA:=⟨_,_,func26,by kernel_rfl,rfl⟩
 ret:=fun w vs hs=>aap w vs hs
 Fu:=fun m w F β x y hI hx hy=>aao r0 r4 r5 r6 r8 r9 n1 n2 n3 n7 m w F β x y hI hx hy
end Go.Proofs
