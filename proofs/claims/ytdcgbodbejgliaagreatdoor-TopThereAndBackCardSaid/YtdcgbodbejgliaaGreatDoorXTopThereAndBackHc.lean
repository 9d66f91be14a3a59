/- The closure of fs.Do that takes a panic back. No condition. -/
import Derived.Test.YtdcgbodbejgliaaGreatDoorXTopThereAndBackHa
import Derived.Tactics2
import Derived.TacticsInMore
import Derived.Defers
import Derived.RecoverIn
set_option linter.all false
open Option renaming some->V
open Array renaming getElem?_push->nv,size_push->Rk
open Go.Exit renaming thenS->KH
open Go.Instr renaming typeAssert->ZW
open Go.World renaming alloc->l_
open List renaming mem_cons->bp,mem_cons_of_mem->cw,not_mem_nil->fu,mem_cons_self->kr
open Prod.mk renaming injEq->iF
namespace Go.Cat
set_option linter.all false
open Go.RowKit
section
variable[M:cD][G:ed][R:eF]
def N_(d0:List Deferred)(Q:Exit->Act->World->Prop):Exit->Act->World->Prop:=λe a w=>Q e a w/\(e=.normal->a.defers=d0)
def ahN{F:Fence}{n:Nat}{P:Program}{o:Oper}{a:Act}{N N':Act->World->Prop}{Q:Exit->Act->World->Prop}{d0:List Deferred}{r:Result Next}(hd:a.defers=d0)(hN:∀a' w',a'.defers=d0->N a' w'->N' a' w')
  (cz:∀d w',r≠.ok (.defer d) w') (h:o.uponIn F n P a N Q r):o.uponIn F n P a N' (N_ d0 Q) r:=by
 have hp:∀v,(a.put o.dst v).defers=d0:=λv=>by rw[<-hd];exact put_defers ..
 have hl:LetsOut Q->LetsOut (N_ d0 Q):=λ⟨a,w,h⟩=>⟨a,w,h,λe=>by cases e⟩;unfold Oper.uponIn at h ⊢;split at h;iterate 2 exact hN _ _ (hp _) h
 .exact absurd rfl (cz _ _)
 .refine⟨h.1,h.2.mono λe rH he=>?_⟩;cases e with
  |returned v=>exact hN _ _ (hp _) he
  |panicked c=>exact⟨he,λe=>by cases e⟩
  |outgrown=>exact hl he
 .exact⟨h.1,h.2.mono λv rH he=>hN _ _ (hp _) he⟩
 .refine⟨h.1,h.2.mono λe rH he=>?_⟩;cases e with
  |returned v=>exact hN _ _ (hp _) he
  |panicked c=>exact⟨he,λe=>by cases e⟩
  |outgrown=>exact hl he
 .exact⟨h,λe=>by cases e⟩
 .exact h.elim
def ae8{F:Fence}{n:Nat}{P:Program}{ops:Array Oper}{Q:Exit->Act->World->Prop}{d0:List Deferred}(cz:∀(i:Nat)(o:Oper),ops[i]?=V o->∀(a:Act)(w:World)(d:Deferred)(w':World),(o.semAt F.round a.eval).run P w≠.ok (.defer d) w'):
  ∀(l:List Nat)(a:Act)(w:World),a.defers=d0->wpOpsIn F n P ops Q l a w->wpOpsIn F n P ops (N_ d0 Q) l a w:=by
 intro l;induction l with
 |nil=>exactλa w hd h=>⟨h,λ_=>hd⟩
 |cons i r ih =>
  intro a w hd h;simp only[wpOpsIn]at h ⊢;cases ho:ops[i]? with
  |none=>simp only[ho]at h ⊢;exact ih a w hd h
  |some o =>
   simp only[ho]at h ⊢;split at h
   .rename_i hw;rw[if_pos hw];exact⟨h.1,ahN hd (λa' w' bF h'=>ih a' w' bF h') (cz i o ho a w) h.2⟩
   .rename_i hw;rw[if_neg hw];exact⟨h.1,ih _ _ (by rw[<-hd];exact put_defers ..) h.2⟩
def aeS{α:Type}{P:Program}{s:Sem α}{f:α->Next}{w w':World}{d:Deferred}(hf:∀x,f x≠.defer d):(do let v <-s;pure (f v)).run P w≠.ok (.defer d) w':=by
 rw[Sem.run_bind];cases s.run P w with
 |ok v w2=>simp[hf v]
 |halt x w2=>simp[Result.andThen]
end
end Go.Cat
namespace Go.Proofs
open Go.Proofs.Tryz
open Go Go.Cat
variable[M:cD]
structure aas(p:Prop):Prop where
 out:p
def three{vs:Array Value}(hs:vs.size=3):∃a b c,vs=#[a,b,c]:=by
 refine⟨vs.getD 0 undef,vs.getD 1 undef,vs.getD 2 undef,?_⟩;apply Array.ext
 .simpa using hs
 .intro i h3 h4;have h4:i<3:=h4
  have:i=0\/i=1\/i=2:=by omega
  rcases this with rfl|rfl|rfl<;>simp[hs]
def aeT(w:World):(ZW .nilIface 20 68 true).run prog w=.ok (.tuple #[.nilIface,.bool false]) w:=by kernel_rfl
def aea(m:Int)(w:World):(ZW (.iface 45 (.int .i64 m)) 20 68 true).run prog w=.ok (.tuple #[.iface 45 (.int .i64 m),.bool true]) w:=
 run_typeAssert_hasB underlying68 (by kernel_rfl) _ _ w
def aaQ(w:World)(vs:Array Value)(hs:vs.size=3):CallsDIn Fence.wide 0 prog 26 vs .returning w λe u w'=>(∃v,e=.returned v)/\u=.returning/\Below w.heap.size w w':=by
 obtain⟨a,b,c,rfl⟩:=three hs;have ta:=aeT w;refine callsDIn_of_wpSIn func26 rfl trivial λSO cs hu=>?_;apply wpSIn_seq;apply wpSIn_region;simp[wpOpsSIn,go_sem,recoverD,hu,ntmps26,KH,ta];apply wpSIn_seq;apply wpSIn_region;simp[wpOpsSIn,go_sem,KH];refine wpSIn_cond (t:=false) (by simp[Act.eval]) ?_;simp only[Bool.false_eq_true,if_false];refine wpSIn_of_wpIn rfl (wpIn_skip ?_);cases SO
 simp_all[bodyPostS,results,results26]
 exact Below.refl _ _
set_option maxHeartbeats 1000000 in
set_option maxRecDepth 100000 in
def aaP(r0 r4 r5 r6 r8 r9:List (List AV))(n1 n2 n3 n7:Int)(m:Int)(w:World)(F:Nat->Prop)(β:Nat->Value)(x y:List AV)(hI:Inv w F β (kT [.s r0,vi n1,vi n2,vi n3,.s r4,.s r5,.s r6,vi n7,.s r8,.s r9] x y))(hx:x.length=10)(hy:y.length=7):
  CallsDIn Fence.wide 0 prog 26 #[β 1000,β 1001,β 1002] (.panicking (jX 45 m)) w λe u w'=>(∃v,e=.returned v)/\u=.panicking [{ v:=.iface 45 (.int .i64 m),recovered:=true }] /\
   ∃F' ay,Ext w F β ⟨aR,kT [.s r0,vi n1,vi n2,vi n3,.s r4,.s r5,.s r6,vi n7,.s r8,.s r9] x y⟩ w' F' ay ⟨aR,kT [.s r0,vi n1,vi n2,vi n3,.s r4,.s r5,.s r6,vi n7,.s r8,.s r9] [.s r0,vi n1,vi n2,vi n3,.s r4,.s r5,.s r6,vi n7,.s r8,.s r9] [vi m,vi 0,vi 0,vi 0,vi 0,.s [],.s []]⟩:=by
 have ta:=aea m;obtain⟨b0,c0,e0,eu,hh0,hs0,HC,db⟩:=hI.holds 1000 (.box [.s r0,vi n1,vi n2,vi n3,.s r4,.s r5,.s r6,vi n7,.s r8,.s r9]) (by simp);obtain⟨b1,c1,e1,cR,hh1,DX,Ay,DU⟩:=hI.holds 1001 (.box x) (by simp);obtain⟨b2,c2,e2,me,hh2,Nw,oJ,oQ⟩:=hI.holds 1002 (.box y) (by simp);have hg:w.cell? ⟨0,0,none⟩=V (.iface 173 (.agg #[.pointer (V ⟨2,68,none⟩)])):=(hI.fC 0 _ (List.mem_singleton.2 rfl)).2
 have Ξ:0<w.heap.size:=by
  rcases Nat.eq_zero_or_pos w.heap.size with h0|h
  .simp[World.cell?,h0]at hg
  .exact h
 rw[eu,cR,me];refine callsDIn_of_wpSIn func26 rfl trivial λSO cs hu=>?_;simp only[ntmps26,List.size_toArray,List.length_cons,List.length_nil,Nat.reduceAdd,Nat.reduceSub,Array.replicate_succ,Array.replicate_zero,List.push_toArray,List.append_toArray,List.nil_append,List.cons_append];apply wpSIn_seq;apply wpSIn_region;simp[wpOpsSIn,go_sem,recoverD,hu,ntmps26,KH,ta];apply wpSIn_seq;apply wpSIn_region;simp[wpOpsSIn,go_sem,KH];refine wpSIn_cond (t:=true) (by simp[Act.eval]) ?_;simp only[if_true];refine wpSIn_of_wpIn rfl (wpIn_wide.2 ?_);go_wp2_with (go_at_call 27;refine(As11.aaA m ⟨w.heap.size,0,none⟩ (.int .i64 0) _ ?_ ?_ ?_).mono ?_)
 .rw[World.cell?_alloc_lt _ _ ⟨0,0,none⟩ Ξ];exact hg
 .exact(World.cell?_alloc_at _ _ _ 0 rfl).trans rfl
 .exact World.frozen?_alloc_at _ _ _ 0 rfl
 rename_i Q5 K5 TV K6 hK6 K7 hK7;have acr:aas _:=⟨TV⟩;clear TV;rintro e w' ⟨rfl,oR⟩;obtain⟨W1,jB⟩:∃W1,W1=w.alloc (.cells #[.int .i64 0] 45):=⟨_,rfl⟩;rw[<-jB]at oR
 have s1:W1.heap.size=w.heap.size+1:=by
  rw[jB];exact Rk ..
 have k1:∀b,b<w.heap.size->w'.heap[b]?=w.heap[b]?:=λb hb=>by
  rw[oR,heap_setCell_other _ _ _ _ (show b≠w.heap.size from Nat.ne_of_lt hb)];simp only[l_,nv,Rk,s1];rw[if_neg (by omega),if_neg (by omega),if_neg (by omega),if_neg (by omega),jB];simp only[l_,nv];rw[if_neg (by omega)]
 have k2:w'.heap[w.heap.size]?=V (.cells #[.int .i64 m] 45 (0,0)):=by
  rw[oR];refine(one_setCell (v:=.int .i64 0) ?_);simp only[l_,nv,Rk,s1];rw[if_neg (by omega),if_neg (by omega),if_neg (by omega),if_neg (by omega),jB];simp only[l_,nv,if_true]
 have k3:w'.os=w.os:=by rw[oR,jB];rfl
 have k4:w'.tape=w.tape:=by rw[oR,jB];rfl
 have k5:w'.drawn=w.drawn:=by rw[oR,jB];rfl
 have k6:w'.output=w.output:=by rw[oR,jB];rfl
 have k7:w.heap.size<w'.heap.size:=(Array.getElem?_eq_some_iff.1 k2).1;clear oR jB s1;go_wp2;refine acr.out _ _ ?_;obtain⟨H0,TR⟩:∃H0:Hp,H0=kT [.s r0,vi n1,vi n2,vi n3,.s r4,.s r5,.s r6,vi n7,.s r8,.s r9] [.Δ,.Δ,.Δ,.Δ,.Δ,.Δ,.Δ,.Δ,.Δ,.Δ] [.Δ,.Δ,.Δ,.Δ,.Δ,.Δ,.Δ]:=⟨_,rfl⟩
 have AA:Inv w F β H0:=by
  subst TR;refine⟨hI.cH,λi c hm=>?_,by simp,λb ⟨i,c,hm,hb⟩=>?_,λi c i' c' b hm bN hb aN=>?_,hI.fC⟩
  .simp only[bp,iF,fu,or_false]at hm
   rcases hm with⟨rfl,rfl⟩|⟨rfl,rfl⟩|⟨rfl,rfl⟩
   .exact⟨b0,c0,e0,eu,hh0,hs0,HC,db⟩
   .refine⟨b1,c1,e1,cR,hh1,by rw[DX,hx];rfl,λi hi=>Ay i (by rw[hx];exact hi),λi hi=>?_⟩;have hi:i<10:=hi
    have:([.Δ,.Δ,.Δ,.Δ,.Δ,.Δ,.Δ,.Δ,.Δ,.Δ]:List AV).getD i .Δ=.Δ:=by
     rcases i with _|_|_|_|_|_|_|_|_|_|i<;>rfl
    rw[this];exact .Δ
   .refine⟨b2,c2,e2,me,hh2,by rw[Nw,hy];rfl,λi hi=>oJ i (by rw[hy];exact hi),λi hi=>?_⟩;have hi:i<7:=hi
    have:([.Δ,.Δ,.Δ,.Δ,.Δ,.Δ,.Δ]:List AV).getD i .Δ=.Δ:=by
     rcases i with _|_|_|_|_|_|_|i<;>rfl
    rw[this];exact .Δ
  .simp only[bp,iF,fu,or_false]at hm
   rcases hm with⟨rfl,rfl⟩|⟨rfl,rfl⟩|⟨rfl,rfl⟩
   .exact hI.apart b ⟨1000,_,kr ..,hb⟩
   .exact hI.apart b ⟨1001,_,cw _ (kr ..),hb⟩
   .exact hI.apart b ⟨1002,_,cw _ (cw _ (kr ..)),hb⟩
  .have key:∀i c,(i,c)∈kT [.s r0,vi n1,vi n2,vi n3,.s r4,.s r5,.s r6,vi n7,.s r8,.s r9] [.Δ,.Δ,.Δ,.Δ,.Δ,.Δ,.Δ,.Δ,.Δ,.Δ] [.Δ,.Δ,.Δ,.Δ,.Δ,.Δ,.Δ]->∃c',(i,c')∈kT [.s r0,vi n1,vi n2,vi n3,.s r4,.s r5,.s r6,vi n7,.s r8,.s r9] x y:=λi c hm=>by
    simp only[bp,iF,fu,or_false]at hm
    rcases hm with⟨rfl,rfl⟩|⟨rfl,rfl⟩|⟨rfl,rfl⟩
    .exact⟨_,kr ..⟩
    .exact⟨_,cw _ (kr ..)⟩
    .exact⟨_,cw _ (cw _ (kr ..))⟩
   obtain⟨_,h1⟩:=key _ _ hm;obtain⟨_,h2⟩:=key _ _ bN;exact hI.eD _ _ _ _ b h1 h2 hb aN
 have bT:Ext w F β ⟨aR,H0⟩ w' F (λi=>if i=5 then .pointer (V ⟨w.heap.size,0,none⟩)else β i) ⟨λt=>er 2 5 (aR t),(5,.box [vi m])::iq 5 H0⟩:=
  qg (st:=⟨aR,H0⟩) (by omega) AA k3 ⟨k4,λ_=>by rw[k5];exact Nat.le_refl _⟩ k6 (Nat.le_of_lt k7) (λb hb _=>k1 b hb) (λi c' b _ hm hb=>k1 b (AA.gg ⟨i,c',hm,hb⟩)) (λb hb=>.inl (by simp[bP]at hb;omega))
   ⟨w.heap.size,#[.int .i64 m],45,if_pos rfl,k2,rfl,λi hi=>by
    have:i=0:=by simpa using hi
    subst this;rfl,λi hi=>by
    have:i=0:=by simpa using hi
    subst this;exact .i (.v (.inl rfl))⟩
 subst TR;let C5:Ctx:=⟨w,F,β,kT [.s r0,vi n1,vi n2,vi n3,.s r4,.s r5,.s r6,vi n7,.s r8,.s r9] [.Δ,.Δ,.Δ,.Δ,.Δ,.Δ,.Δ,.Δ,.Δ,.Δ] [.Δ,.Δ,.Δ,.Δ,.Δ,.Δ,.Δ],20,none,.inl rfl,[]⟩;refine wpIn_wide.1 (wpIn_mono (wpIn_region (ae8 (d0:=[]) ?cz _ _ _ rfl (ZA (C:=C5) (n:=20) (Q:=λe a' w'=>∃ax,Rel C5 ax a' w'/\e=.normal/\Wk ax ⟨Ψ [],kT [.s r0,vi n1,vi n2,vi n3,.s r4,.s r5,.s r6,vi n7,.s r8,.s r9] [.s r0,vi n1,vi n2,vi n3,.s r4,.s r5,.s r6,vi n7,.s r8,.s r9] [vi m,vi 0,vi 0,vi 0,vi 0,.s [],.s []]⟩) (K:=λax=>Wk ax ⟨Ψ [],kT [.s r0,vi n1,vi n2,vi n3,.s r4,.s r5,.s r6,vi n7,.s r8,.s r9] [.s r0,vi n1,vi n2,vi n3,.s r4,.s r5,.s r6,vi n7,.s r8,.s r9] [vi m,vi 0,vi 0,vi 0,vi 0,.s [],.s []]⟩) tok rfl (λst a w hr hk=>⟨st,hr,rfl,hk⟩) _ ⟨Ψ [(0,(.b 1000 0)),(1,(.b 1001 0)),(2,(.b 1002 0)),(5,(.b 5 0))],[(5,.box [vi m]),(1000,.box [.s r0,vi n1,vi n2,vi n3,.s r4,.s r5,.s r6,vi n7,.s r8,.s r9]),(1001,.box [.Δ,.Δ,.Δ,.Δ,.Δ,.Δ,.Δ,.Δ,.Δ,.Δ]),(1002,.box [.Δ,.Δ,.Δ,.Δ,.Δ,.Δ,.Δ])]⟩ _ _ ⟨F,_,rfl,trivial,λt=>?adC,⟨bT,λd hd=>(fu hd).elim,List.nodup_nil,⟨[],rfl⟩⟩⟩ ?Nl))) ?sl)
 case cz =>
  intro i o ho a2 w2 d w3
  rcases i with _|_|_|_|_|i<;>simp at ho
  all_goals subst ho
  all_goals first|exact aeS (λx=>by simp)|skip
 case adC =>
  have g0:∀(i b:Nat),i≠5->β i=.pointer (V ⟨b,0,none⟩)->(λi=>if i=5 then Value.pointer (V ⟨w.heap.size,0,none⟩)else β i) i=.pointer (V ⟨b,0,none⟩):=λi b hi hb=>(if_neg hi).trans hb
  rcases t with _|_|_|_|_|_|t
  .exact .b (g0 1000 b0 (by decide) eu)
  .exact .b (g0 1001 b1 (by decide) cR)
  .exact .b (g0 1002 b2 (by decide) me)
  iterate 2 exact .Δ
  .exact .b (if_pos rfl)
  .exact .Δ
 case Nl =>
  refine⟨_,rfl,⟨_,rfl,⟨_,rfl,⟨_,rfl,?_⟩⟩⟩⟩;exact Wk.tab (L:=[]) True.intro ⟨⟨_,rfl,.refl _⟩,⟨_,rfl,.refl _⟩,⟨_,rfl,.box (.cons (Le.refl _) (.cons (Le.refl _) (.cons (Le.refl _) (.cons (Le.refl _) (.cons (Le.refl _) (.cons Le.nil (.cons Le.nil .nil)))))))⟩,True.intro⟩ rfl
 case sl =>
  rintro e a3 w3 ⟨⟨ax,jo,rfl,hW⟩,jO⟩;obtain⟨F3,qD,_,_,_,aL⟩:=hW C5 a3 w3 jo;have hx:=aL.x;have vO:(results f26 a3.tmps).run prog w3=.ok (.tuple #[]) w3:=results_none rfl _ _ _;refine⟨jO rfl,_,rfl,_,vO,⟨_,rfl⟩,rfl,F3,qD,?_⟩
  have dB:∀b,bH β (kT [.s r0,vi n1,vi n2,vi n3,.s r4,.s r5,.s r6,vi n7,.s r8,.s r9] [.Δ,.Δ,.Δ,.Δ,.Δ,.Δ,.Δ,.Δ,.Δ,.Δ] [.Δ,.Δ,.Δ,.Δ,.Δ,.Δ,.Δ]) b↔bH β (kT [.s r0,vi n1,vi n2,vi n3,.s r4,.s r5,.s r6,vi n7,.s r8,.s r9] x y) b:=by
   intro b;constructor
   .rintro ⟨i,c,hm,hb⟩;simp only[bp,iF,fu,or_false]at hm
    rcases hm with⟨rfl,rfl⟩|⟨rfl,rfl⟩|⟨rfl,rfl⟩
    .exact⟨1000,_,kr ..,hb⟩
    .exact⟨1001,_,cw _ (kr ..),hb⟩
    .exact⟨1002,_,cw _ (cw _ (kr ..)),hb⟩
   .rintro ⟨i,c,hm,hb⟩;simp only[bp,iF,fu,or_false]at hm
    rcases hm with⟨rfl,rfl⟩|⟨rfl,rfl⟩|⟨rfl,rfl⟩
    .exact⟨1000,_,kr ..,hb⟩
    .exact⟨1001,_,cw _ (kr ..),hb⟩
    .exact⟨1002,_,cw _ (cw _ (kr ..)),hb⟩
  exact⟨hx.os,hx.tape,hx.output,hx.size,λb hb hn=>hx.block b hb λh=>hn ((dB b).1 h),hx.mono,λb hb=>(hx.new b hb).imp id (Or.imp id (dB b).1),λb hb=>(hx.owned b hb).imp id (dB b).1,λ_ _ _=>.Δ,hx.inv,hx.gC⟩
def aaO(r0 r4 r5 r6 r8 r9:List (List AV))(n1 n2 n3 n7:Int):Sd prog eI 26 [.s r0,vi n1,vi n2,vi n3,.s r4,.s r5,.s r6,vi n7,.s r8,.s r9] 10 7 (λm=>[vi m,vi 0,vi 0,vi 0,vi 0,.s [],.s []]) where
 tH:=⟨_,_,func26,by kernel_rfl,rfl⟩
 ret:=λw vs hs=>aaQ w vs hs
 Ez:=λm w F β x y hI hx hy=>aaP r0 r4 r5 r6 r8 r9 n1 n2 n3 n7 m w F β x y hI hx hy
end Go.Proofs
