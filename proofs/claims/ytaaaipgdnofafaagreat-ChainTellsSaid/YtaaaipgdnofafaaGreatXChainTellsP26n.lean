/- Chains, plain: a copy laid on a server; which chains are right; whose copies are whole. No condition. -/
import Derived.Test.YtaaaipgdnofafaaGreatXChainTellsP26m
namespace Go.Proofs
set_option linter.all false
open Go Go.Cat
set_option linter.all false
def newC (id ver:Int) (x:List UInt8):api_Copy:=⟨id,ver,x,(blocksN x).map Int.ofNat⟩
theorem p_NewC (id ver:Int) {x:List UInt8} (h:x.length≤10000):chunk_New id ver x=some (newC id ver x):=p_New id ver x (by omega)
theorem r_NewC (id ver:Int) {x:List UInt8} (h:x.length≤10000):ref25_New id ver x=some (newC id ver x):=by
 unfold ref25_New; rw [r_Blocks _ (by omega)]; rfl
theorem newC_may {id ver:Int} {x:List UInt8} (hi:0≤id∧id < 200) (hv:0≤ver∧ver≤1099511627776) (hx:x.length≤64):mayP (newC id ver x):=⟨hi,hv,hx,rfl⟩
theorem page200 {c:api_Copy} (h:mayP c):(pageN c).length≤200:=by
 obtain ⟨h1,h2,h3,h4⟩:=h
 have hb:=blocksN_len c.Data
 have e1:(packN (zig c.Id)).length≤2:=packN_le 1 (by unfold zig; rw [if_neg (by omega)]; show (2 * c.Id).toNat < 16384; omega)
 have e2:(packN (zig c.Ver)).length≤6:=packN_le 5 (by unfold zig; rw [if_neg (by omega)]; show (2 * c.Ver).toNat < 4398046511104; omega)
 have e3:(packN (zig (c.Data.length:Int))).length≤2:=packN_le 1 (by unfold zig; rw [if_neg (by omega)]; show (2 * (c.Data.length:Int)).toNat < 16384; omega)
 have e4:(packN (zig (c.Sums.length:Int))).length≤2:=packN_le 1 (by
  rw [h4,List.length_map]; unfold zig; rw [if_neg (by omega)]; show (2 * ((blocksN c.Data).length:Int)).toNat < 16384; omega)
 have e5:(numsN c.Sums).length≤5 * 4:=by
  rw [h4]
  have:=nums5 (blocksN c.Data) (fun x hx=>blocksF_lt _ _ x hx)
  omega
 unfold pageN bodyN strN intsN tailN
 simp only [List.length_append,List.length_cons,List.length_nil]
 omega
def layD (d:api_Disk) (c:api_Copy):api_Disk:=(syncN (putN d c).1).1
theorem lay_down {d:api_Disk} {c:api_Copy} (h:d.Down=true):layD d c=d:=by
 unfold layD putN writeN syncN
 split <;> simp [h]
theorem lay_up {d:api_Disk} {c:api_Copy} (h:d.Down=false):(layD d c).Down=false:=by
 by_cases h1:mayP c <;> by_cases h2:mayN c.Id (pageN c).length <;> simp [layD,putN,writeN,syncN,h,h1,h2]
theorem lay_Down (d:api_Disk) (c:api_Copy):(layD d c).Down=d.Down:=by
 cases h:d.Down
 ·exact lay_up h
 ·rw [lay_down h,h]
theorem lay_fit {d:api_Disk} {n:Nat} (c:api_Copy) (h:Fit d n):Fit (layD d c) (n+1):=by
 cases hd:d.Down
 ·unfold layD
  by_cases h2:(putN d c).2=0
  ·have:=put_fit h h2
   have h3:=this.2.2.2.sync
   unfold syncN
   rw [if_neg (by simp [this.2.2.1])]
   exact h3
  ·have:(putN d c).1=d:=by
    unfold putN at h2 ⊢
    split
    ·rename_i hm
     rw [if_pos hm] at h2
     unfold writeN at h2 ⊢
     rw [if_neg (by simp [hd])] at h2 ⊢
     split
     ·rename_i h5; rw [if_pos h5] at h2; exact absurd rfl h2
     ·rfl
    ·rfl
   rw [this]
   unfold syncN
   rw [if_neg (by simp [hd])]
   exact h.sync.mono (by omega)
 ·rw [lay_down hd]; exact h.mono (by omega)
theorem put_ok {d:api_Disk} {n:Nat} (c:api_Copy) (h:Fit d n):Fit (putN d c).1 (n+1):=by
 unfold putN
 split
 ·by_cases h2:(writeN d c.Id (pageN c)).2=0
  ·exact (write_fit h h2).2.2.2
  ·have:(writeN d c.Id (pageN c)).1=d:=by
    unfold writeN at h2 ⊢
    split
    ·rfl
    ·rename_i h3
     rw [if_neg h3] at h2
     split
     ·rename_i h4; rw [if_pos h4] at h2; exact absurd rfl h2
     ·rfl
   rw [this]; exact h.mono (by omega)
 ·exact h.mono (by omega)
theorem p_SyncN {d:api_Disk} {n:Nat} (h:Fit d n) (hn:n≤500):disk_Sync d=some (syncN d):=by
 obtain ⟨S,L,b⟩:=d
 cases b
 ·rw [p_SyncD (h.ok.mono hn)]; rfl
 ·rfl
noncomputable def lay1 (D:List api_Disk) (s:Int) (c:api_Copy):List api_Disk:=D.set s.toNat (layD (atS D s) c)
structure FitD (D:List api_Disk) (n:Nat):Prop where
 len:D.length≤10
 d:∀d,d∈D→Fit d n
theorem FitD.mono {D:List api_Disk} {n m:Nat} (h:FitD D n) (e:n≤m):FitD D m:=⟨h.len,fun d hd=>(h.d d hd).mono e⟩
theorem FitD.lay {D:List api_Disk} {n:Nat} (h:FitD D n) {s:Int} (hs:isS D s) (c:api_Copy):FitD (lay1 D s c) (n+1):=⟨by unfold lay1; rw [List.length_set]; exact h.len,fun d hd=>by
 rcases List.mem_or_eq_of_mem_set hd with hd | rfl
 ·exact (h.d d hd).mono (by omega)
 ·exact lay_fit c (h.d _ (at_mem hs))⟩
theorem lay1_len (D:List api_Disk) (s:Int) (c:api_Copy):(lay1 D s c).length=D.length:=by unfold lay1; rw [List.length_set]
theorem isS_lay {D:List api_Disk} {s t:Int} {c:api_Copy}:isS (lay1 D s c) t↔isS D t:=by unfold isS; rw [lay1_len]
theorem at_lay {D:List api_Disk} {s t:Int} {c:api_Copy} (hs:isS D s) (ht:isS D t):atS (lay1 D s c) t=if t=s then layD (atS D s) c else atS D t:=by
 have h1:=at_get (D:=lay1 D s c) (s:=t) (isS_lay.2 ht)
 have h2:=at_get ht
 unfold lay1 at h1
 obtain ⟨a1,a2⟩:=hs; obtain ⟨b1,b2⟩:=ht
 by_cases e:t=s
 ·subst e
  rw [if_pos rfl]
  rw [List.getElem?_set_self (by omega)] at h1
  exact (Option.some.inj h1).symm
 ·rw [if_neg e]
  rw [List.getElem?_set_ne (by omega),h2] at h1
  exact (Option.some.inj h1).symm
theorem lay_DownS {D:List api_Disk} {s t:Int} {c:api_Copy} (hs:isS D s) (ht:isS D t):(atS (lay1 D s c) t).Down=(atS D t).Down:=by
 rw [at_lay hs ht]; split
 ·rename_i e; subst e; exact lay_Down _ _
 ·rfl
theorem p_lay1 {D:List api_Disk} {n:Nat} (h:FitD D n) (hn:n≤400) {s:Int} (hs:isS D s) (c:api_Chain) {x:List UInt8} (hx:x.length≤10000):chainN34 s D c x=some (lay1 D s (newC c.Id c.Ver x)):=by
 refine Tot.eq ?_
 have hf:=h.d _ (at_mem hs)
 unfold chainN34
 refine Tot.bindeq (at_idx hs) (Tot.bindeq (p_NewC _ _ hx) (Tot.bindeq (p_Put _ _ (hf.small (by omega)) ?_) (Tot.bindeq (p_SyncN (put_ok _ hf) (by omega)) (Tot.bindeq (at_idx hs) (Tot.ret rfl)))))
 show ((blocksN x).map Int.ofNat).length≤1000000
 rw [List.length_map]; have:=blocksN_len x; omega
theorem r_lay1 {D:List api_Disk} {n:Nat} (h:FitD D n) (hn:n≤400) {s:Int} (hs:isS D s) (c:api_Chain) (ver:Int) {x:List UInt8} (hx:x.length≤10000):ref26_Lay c D s ver x=some (lay1 D s (newC c.Id ver x)):=by
 refine Tot.eq ?_
 have hl:=h.len
 unfold ref26_Lay ref26N20
 have hsl:(newC c.Id ver x).Sums.length≤1000000:=by
  show ((blocksN x).map Int.ofNat).length≤1000000
  rw [List.length_map]; have:=blocksN_len x; omega
 refine Tot.bind (R:=(·=lay1 D s (newC c.Id ver x))) ?_ fun r hr=>Tot.ret hr
 refine Tot.each (l:=D) (fun n a=>a=(lay1 D s (newC c.Id ver x)).take n) (fun n d a hlt hd ha=>?_) (fun a ha=>?_) [] rfl
 ·subst ha
  unfold ref26N19
  have hd':d∈D:=List.mem_of_getElem? hd
  have hf:=h.d d hd'
  have htl:((lay1 D s (newC c.Id ver x)).take n).length≤10:=Nat.le_trans (List.length_take_le' _ _) (by rw [lay1_len]; exact hl)
  have hnext:(lay1 D s (newC c.Id ver x))[n]?=some (if (n:Int)=s then layD d (newC c.Id ver x) else d):=by
   unfold lay1
   by_cases e:(n:Int)=s
   ·subst e
    rw [if_pos rfl,Int.toNat_natCast,List.getElem?_set_self hlt]
    have:=at_get (D:=D) (s:=(n:Int)) hs
    rw [Int.toNat_natCast,hd] at this
    rw [Option.some.inj this]
   ·rw [if_neg e,List.getElem?_set_ne (by obtain ⟨a1,a2⟩:=hs; omega),hd]
  refine Tot.cond (by simp; omega) (Tot.bind (R:=(·=(lay1 D s (newC c.Id ver x)).take (n+1))) ?_ fun v hv=>Tot.chk (by unfold InI64; dsimp only; omega) (Tot.inl ⟨rfl,hv⟩))
  rw [take_snoc hnext]
  refine Tot.ite (fun e=>?_) fun e=>?_
  ·have e':¬(n:Int)=s:=by simpa using e
   exact Tot.bindeq (idx_some hd) (Tot.chk (by simp only [List.length_cons,List.length_nil]; omega) (Tot.ret (by rw [if_neg e'])))
  ·have e':(n:Int)=s:=by simpa using e
   exact Tot.bindeq (idx_some hd) (Tot.bindeq (r_NewC _ _ hx) (Tot.bindeq (r_Put _ _ (hf.small (by omega)) hsl) (Tot.bindeq (r_Sync _ (put_ok _ hf).a (by have:=(put_ok (newC c.Id ver x) hf).t; omega)) (Tot.chk (by simp only [List.length_cons,List.length_nil]; omega) (Tot.ret (by rw [if_pos e']; rfl))))))
 ·subst ha
  unfold ref26N19
  exact Tot.ncond (by simp) (Tot.out (Tot.ret (by rw [List.take_of_length_le (by rw [lay1_len]; exact Nat.le_refl _)])))
theorem r_Has (l:List Int) (x:Int) (h:l.length≤100000):ref26_Has l x=some (decide (x∈l)):=by
 unfold ref26_Has ref26N10
 rw [loop_has (l:=l) (fun y=>y == x)]
 ·refine congrArg some ?_
  rw [Bool.eq_iff_iff,List.any_eq_true]; simp
 ·intro n y hy hn
  unfold ref26N8
  rw [if_pos (by simp; omega),idx_some hy,Option.bind_some]
  by_cases e:(y == x)=true
  ·rw [if_pos e,if_pos e]; rfl
  ·rw [if_neg e,if_neg e,chk_pos (by unfold InI64; omega)]
 ·unfold ref26N8
  rw [if_neg (by simp)]; rfl
theorem p_IndexI (l:List Int) (x:Int) (h:l.length≤100000):slicesN75 l x=some (match l.findIdx? (fun y=>x == y) with | some n=>(n:Int) | none=>-1):=by
 unfold slicesN75 slicesN80
 have:=loop_find (b:=l) (B:=slicesN77 l x) (fun y=>x == y) (fun n _=>(n:Int)) (-1) ?_ ?_
 ·rw [this]
  congr 1
  cases hf:l.findIdx? (fun y=>x == y) with
  | none=>rfl
  | some n =>
   have:=List.findIdx?_eq_some_iff_getElem.1 hf
   obtain ⟨hn,-⟩:=this
   simp [List.getElem?_eq_getElem hn]
 ·intro n y hy hn
  unfold slicesN77
  rw [if_pos (by simp; omega),idx_some hy,Option.bind_some]
  by_cases e:(x == y)=true
  ·rw [if_pos e,if_pos e]; rfl
  ·rw [if_neg e,if_neg e,chk_pos (by unfold InI64; omega)]
 ·unfold slicesN77 slicesN79
  rw [if_neg (by simp)]; rfl
theorem r_IntsT (a b:List Int) (h:a.length≤100000):Tot (ref26_Ints a b) (Tells (a=b)):=by
 unfold ref26_Ints
 refine Tot.ite (fun e=>Tot.ret (Tells.no fun h=>by subst h; simp at e)) fun e=>?_
 have hl:a.length=b.length:=by simp at e; omega
 unfold ref26N17
 refine Tot.each0 (l:=a) (fun n=>a.take n=b.take n) (fun n x hlt hx hi=>?_) (fun hi=>?_) rfl
 ·unfold ref26N14
  have hb:b[n]?=some b[n]:=List.getElem?_eq_getElem (by omega)
  refine Tot.cond (by simp; omega) (Tot.bindeq (idx_some hx) (Tot.bindeq (idx_some hb) (Tot.ite (fun e=>Tot.out (Tot.ret (Tells.no fun h=>?_))) fun e=>Tot.chk (by unfold InI64; omega) (Tot.inl ⟨rfl,?_⟩))))
  ·subst h
   rw [hx] at hb
   have:=Option.some.inj hb
   simp [this] at e
  ·have e':x=b[n]:=by simpa using e
   rw [take_snoc hx,take_snoc hb,hi,e']
 ·unfold ref26N14 ref26N16
  rw [List.take_length,hl,List.take_length] at hi
  exact Tot.ncond (by simp) (Tot.out (Tot.ret (Tells.yes hi)))
theorem r_SameC (a b:api_Chain) (h:a.Servers.length≤100000):Tot (ref26_Same a b) (Tells (a=b)):=by
 unfold ref26_Same
 refine Tot.bind (r_IntsT a.Servers b.Servers h) fun x hx=>?_
 refine Tot.bind (R:=Tells ((a.Servers=b.Servers∧a.Id=b.Id)∧a.Ver=b.Ver)) (Tot.bind (R:=Tells (a.Servers=b.Servers∧a.Id=b.Id)) (Tot.andI hx fun _=>Tot.is (by simp)) fun c hc=>Tot.bind (Tot.andI hc fun _=>Tot.is (by simp)) fun d hd=>Tot.ret hd) fun v hv=>Tot.ret ?_
 refine hv.trans ⟨fun ⟨⟨h1,h2⟩,h3⟩=>?_,fun h=>by subst h; exact ⟨⟨rfl,rfl⟩,rfl⟩⟩
 cases a; cases b; simp_all
def RightP (c:api_Chain) (n:Nat):Prop:=((∀s,s∈c.Servers→0≤s∧s < (n:Int))∧c.Servers.Nodup)∧((((0≤c.Id∧c.Id < 200)∧1≤c.Ver)∧c.Ver≤1099511627776)∧1≤c.Servers.length)∧c.Servers.length≤5
theorem nodup_mid {l:List Int} {n:Nat} {x:Int} (hx:l[n]?=some x) (h:l.Nodup):x∉l.take n:=fun h1=>by
 rw [←List.take_append_drop n l,List.nodup_append] at h
 exact h.2.2 x h1 x (by
  have:l.drop n=x::l.drop (n+1):=by
   obtain ⟨h3,rfl⟩:=List.getElem?_eq_some_iff.1 hx
   exact List.drop_eq_getElem_cons h3
  rw [this]; simp) rfl
theorem right_step {l:List Int} {m n:Nat} {x:Int} (hx:l[n]?=some x) (hi:(∀s,s∈l.take n→0≤s∧s < (m:Int))∧(l.take n).Nodup) (h:¬((x < 0∨(m:Int)≤x)∨x∈l.take n)) :
  (∀s,s∈l.take (n+1)→0≤s∧s < (m:Int))∧(l.take (n+1)).Nodup:=by
 rw [take_snoc hx]
 refine ⟨fun s hs=>?_,?_⟩
 ·rcases List.mem_append.1 hs with hs | hs
  ·exact hi.1 s hs
  ·rw [List.mem_singleton.1 hs]
   exact ⟨Int.not_lt.1 fun e=>h (.inl (.inl e)),Int.not_le.1 fun e=>h (.inl (.inr e))⟩
 ·rw [List.nodup_append]
  exact ⟨hi.2,by simp,fun a ha b hb' e=>by rw [List.mem_singleton.1 hb'] at e; exact h (.inr (e▸ha))⟩
theorem p_Right (c:api_Chain) (D:List api_Disk) (hl:c.Servers.length≤10000):Tot (chain_Right c D) (Tells (RightP c D.length)):=by
 unfold chain_Right chainN22
 refine Tot.each0 (l:=c.Servers) (fun n=>(∀s,s∈c.Servers.take n→0≤s∧s < (D.length:Int))∧(c.Servers.take n).Nodup) (fun n x hlt hx hi=>?_) (fun hi=>?_) ⟨fun s h=>by simp at h,by simp⟩
 ·unfold chainN19
  refine Tot.cond (by simp; omega) (Tot.bindeq (idx_some hx) (Tot.bind (R:=Tells ((x < 0∨(D.length:Int)≤x)∨x∈c.Servers.take n)) (Tot.bind (R:=Tells (x < 0∨(D.length:Int)≤x)) (Tot.orI (by simp) fun _=>Tot.dec Iff.rfl) fun c1 h1=>Tot.bind (R:=Tells ((x < 0∨(D.length:Int)≤x)∨x∈c.Servers.take n)) (Tot.orI h1 fun _=>Tot.chk (by omega) (Tot.bindeq (p_Contains _ x (by have:=List.length_take_le n c.Servers; simp only [Int.toNat_natCast]; omega)) (Tot.ret (by unfold Tells; simp)))) fun c2 h2=>Tot.ret h2) fun b hb=>Tot.ite (fun h=>Tot.out (Tot.ret (Tells.no fun hR=>?_))) fun h=>Tot.chk (by unfold InI64; omega) (Tot.inl ⟨rfl,right_step hx hi fun e=>h (hb.2 e)⟩)))
  rcases hb.1 h with (h1 | h1) | h1
  ·have:=hR.1.1 x (List.mem_of_getElem? hx); omega
  ·have:=hR.1.1 x (List.mem_of_getElem? hx); omega
  ·exact nodup_mid hx hR.1.2 h1
 ·rw [List.take_length] at hi
  unfold chainN19 chainN21
  refine Tot.ncond (by simp) (Tot.out (Tot.bind (R:=Tells (((((0≤c.Id∧c.Id < 200)∧1≤c.Ver)∧c.Ver≤1099511627776)∧1≤c.Servers.length)∧c.Servers.length≤5)) ?_ fun b hb=>Tot.ret (hb.trans ⟨fun h=>⟨hi,h⟩,fun h=>h.2⟩)))
  exact Tot.bind (Tot.andI (by simp) fun _=>Tot.dec Iff.rfl) fun c3 h3=>Tot.bind (Tot.andI h3 fun _=>Tot.dec Iff.rfl) fun c4 h4=>Tot.bind (Tot.andI h4 fun _=>Tot.dec Iff.rfl) fun c5 h5=>Tot.bind (Tot.andI h5 fun _=>Tot.dec (by omega)) fun c6 h6=>Tot.bind (Tot.andI h6 fun _=>Tot.dec (by omega)) fun c7 h7=>Tot.ret h7
theorem r_Right (c:api_Chain) (D:List api_Disk) (hl:c.Servers.length≤10000):Tot (ref26_Right c D) (Tells (RightP c D.length)):=by
 unfold ref26_Right ref26N33
 refine Tot.each0 (l:=c.Servers) (fun n=>(∀s,s∈c.Servers.take n→0≤s∧s < (D.length:Int))∧(c.Servers.take n).Nodup) (fun n x hlt hx hi=>?_) (fun hi=>?_) ⟨fun s h=>by simp at h,by simp⟩
 ·unfold ref26N31
  refine Tot.cond (by simp; omega) (Tot.chk (by omega) (Tot.bindeq (idx_some hx) (Tot.bindeq (r_Has _ x (by have:=List.length_take_le n c.Servers; simp only [Int.toNat_natCast]; omega)) (Tot.bind (R:=Tells ((x∈c.Servers.take n∨x < 0)∨(D.length:Int)≤x)) (Tot.bind (R:=Tells (x∈c.Servers.take n∨x < 0)) (Tot.orI (by simp) fun _=>Tot.bindeq (idx_some hx) (Tot.dec Iff.rfl)) fun c1 h1=>Tot.bind (R:=Tells ((x∈c.Servers.take n∨x < 0)∨(D.length:Int)≤x)) (Tot.orI h1 fun _=>Tot.bindeq (idx_some hx) (Tot.dec Iff.rfl)) fun c2 h2=>Tot.ret h2) fun b hb=>Tot.ite (fun h=>Tot.out (Tot.ret (Tells.no fun hR=>?_))) fun h=>Tot.chk (by unfold InI64; omega) (Tot.inl ⟨rfl,right_step hx hi fun e=>h (hb.2 ?_)⟩)))))
  ·rcases hb.1 h with (h1 | h1) | h1
   ·exact nodup_mid hx hR.1.2 h1
   ·have:=hR.1.1 x (List.mem_of_getElem? hx); omega
   ·have:=hR.1.1 x (List.mem_of_getElem? hx); omega
  ·rcases e with (e | e) | e
   ·exact .inl (.inr e)
   ·exact .inr e
   ·exact .inl (.inl e)
 ·rw [List.take_length] at hi
  unfold ref26N31 ref26N32
  refine Tot.ncond (by simp) (Tot.out (Tot.bind (R:=Tells (((((0≤c.Id∧c.Id < 200)∧1≤c.Ver)∧c.Ver≤1099511627776)∧1≤c.Servers.length)∧c.Servers.length≤5)) ?_ fun b hb=>Tot.ret (hb.trans ⟨fun h=>⟨hi,h⟩,fun h=>h.2⟩)))
  exact Tot.bind (Tot.andI (by simp) fun _=>Tot.dec (by omega)) fun c3 h3=>Tot.bind (Tot.andI h3 fun _=>Tot.dec Iff.rfl) fun c4 h4=>Tot.bind (Tot.andI h4 fun _=>Tot.dec Iff.rfl) fun c5 h5=>Tot.bind (Tot.andI h5 fun _=>Tot.dec (by omega)) fun c6 h6=>Tot.bind (Tot.andI h6 fun _=>Tot.dec (by omega)) fun c7 h7=>Tot.ret h7
end Go.Proofs
