/- Chunks, plain: what is read. No condition. -/
import Derived.Test.YtaaaipgdnofafaaGreatXChainTellsP26d
namespace Go.Proofs
set_option linter.all false
open Go Go.Cat
def smallD (d:api_Disk):Prop:=d.Synced.length≤1000∧d.Loose.length≤1000∧∀p∈d.Synced++d.Loose,p.Data.length≤1000
theorem find_idx {α:Type} (l:List α) (p:α→Bool):(match l.findIdx? p with | some n=>(match l[n]? with | some x=>some x | none=>none) | none=>none)=l.find? p:=by
 induction l with
 | nil=>rfl
 | cons x l ih =>
  rw [List.findIdx?_cons,List.find?_cons]
  cases hp:p x with
  | true=>simp
  | false =>
   simp only [Bool.false_eq_true,if_false]
   rw [←ih]
   cases hf:l.findIdx? p with
   | none=>simp
   | some n=>simp
theorem p_Index (l:List api_Page) (a:Int) (h:l.length≤100000):diskN1 l a=some (match l.findIdx? (fun p=>p.At == a) with | some n=>(n:Int) | none=>-1):=by
 unfold diskN1 slicesN43 slicesN48
 have:=loop_find (b:=l) (B:=slicesN45 l a) (fun p=>p.At == a) (fun n _=>(n:Int)) (-1) ?_ ?_
 ·rw [this]
  simp only [Option.bind_some]
  congr 1
  cases hf:l.findIdx? (fun p=>p.At == a) with
  | none=>rfl
  | some n =>
   have:=List.findIdx?_eq_some_iff_getElem.1 hf
   obtain ⟨hn,-⟩:=this
   simp [List.getElem?_eq_getElem hn]
 ·intro n x hx hn
  cases hc:x.At == a
  ·rw [if_neg (by decide)]
   refine Tot.eq ?_
   unfold slicesN45 disk_Read_1
   exact Tot.ite (fun _=>Tot.bindeq (idx_some hx) (Tot.bindeq rfl (Tot.ite (fun h=>by rw [hc] at h; cases h) (fun h=>Tot.chk (by unfold InI64; omega) (Tot.ret rfl))))) (fun hh=>absurd hh (by simp; omega))
  ·rw [if_pos rfl]
   refine Tot.eq ?_
   unfold slicesN45 disk_Read_1
   exact Tot.ite (fun _=>Tot.bindeq (idx_some hx) (Tot.bindeq rfl (Tot.ite (fun h=>⟨_,rfl,rfl⟩) (fun h=>absurd hc h)))) (fun hh=>absurd hh (by simp; omega))
 ·unfold slicesN45 slicesN47
  rw [if_neg (by simp)]; rfl
theorem p_Read (d:api_Disk) (a:Int) (hd:smallD d):disk_Read d a=some (readN d a):=by
 refine Tot.eq ?_
 obtain ⟨h1,h2,h3⟩:=hd
 unfold disk_Read readN
 refine Tot.ite (fun h=>Tot.ret (by rw [if_pos h])) fun h=>?_
 rw [if_neg h]
 refine Tot.bind (p_dmay a []) fun b hb=>Tot.ite (fun hn=>Tot.ret ?_) (fun hn=>?_)
 ·rw [if_neg (fun hp=>by rw [hb.2 hp] at hn; cases hn)]
 ·have hp:mayN a 0:=hb.1 (by simpa using hn)
  rw [if_pos hp]
  have hf:[d.Synced,d.Loose].flatten=d.Synced++d.Loose:=by simp
  refine Tot.bindeq (pN4 _ (by rw [hf]; simp; omega) (by simp)) ?_
  rw [hf]
  refine Tot.bindeq (p_Reverse _ (by simp; omega)) ?_
  dsimp only
  refine Tot.bindeq (p_Index _ _ (by simp; omega)) ?_
  have hfi:=find_idx (d.Synced++d.Loose).reverse (fun p=>p.At == a)
  cases hf:(d.Synced++d.Loose).reverse.findIdx? (fun p=>p.At == a) with
  | none =>
   rw [hf] at hfi
   rw [←hfi]
   exact Tot.ite (fun _=>Tot.ret rfl) (fun hh=>absurd rfl hh)
  | some n =>
   rw [hf] at hfi
   obtain ⟨hn,-⟩:=List.findIdx?_eq_some_iff_getElem.1 hf
   have hx:=List.getElem?_eq_getElem hn
   dsimp only at hfi ⊢
   rw [hx] at hfi
   rw [←hfi]
   refine Tot.ite (fun hh=>absurd hh (by simp)) (fun _=>Tot.bindeq (idx_some hx) (Tot.bindeq (p_bClone _ ?_) (Tot.ret rfl)))
   have:=h3 _ (List.mem_reverse.1 (List.getElem_mem hn))
   omega
theorem readN_len {d:api_Disk} (hd:smallD d) (a:Int):(readN d a).1.length≤1000:=by
 unfold readN
 split
 ·simp
 ·split
  ·split
   ·simp
   ·rename_i p hp
    exact hd.2.2 p (List.mem_reverse.1 (List.mem_of_find?_eq_some hp))
  ·simp
def withinP (id:Int):Prop:=0≤id∧id < 200
instance (a : Int) : Decidable (withinP a) := inferInstanceAs (Decidable (_ ∧ _))
def thereN (d:api_Disk) (id:Int):List UInt8×Int:=if withinP id then (if (readN d id).2=0∧(readN d id).1=[] then ([],41) else readN d id) else ([],1)
theorem p_there (d:api_Disk) (id:Int) (hd:smallD d):chunk_there d id=some (thereN d id):=by
 refine Tot.eq ?_
 unfold chunk_there thereN
 refine Tot.bind (p_within id) fun b hb=>Tot.ite (fun hn=>Tot.ret ?_) (fun hn=>?_)
 ·rw [if_neg (fun hp=>by rw [hb.2 hp] at hn; cases hn)]
 ·have hp:withinP id:=hb.1 (by simpa using hn)
  rw [if_pos hp]
  refine Tot.bindeq (p_Read d id hd) ?_
  refine Tot.bind (Tot.bind (R:=Tells ((readN d id).2=0∧(readN d id).1=[])) (Tot.andI (by simp) fun _=>Tot.is (by simp)) fun b hb=>Tot.ret hb) fun b hb=>Tot.ite (fun h=>Tot.ret ?_) (fun h=>Tot.ret ?_)
  ·rw [if_pos (hb.1 h)]
  ·rw [if_neg (fun hp=>h (hb.2 hp))]
theorem thereN_len {d:api_Disk} (hd:smallD d) (a:Int):(thereN d a).1.length≤1000:=by
 unfold thereN
 split
 ·split
  ·simp
  ·exact readN_len hd a
 ·simp
def hasN (d:api_Disk):List Int:=((List.range 200).filter fun (i:Nat)=>(thereN d (i:Int)).2 == 0).map Int.ofNat
def loseN (d:api_Disk) (id:Int):api_Disk×Int:=if (thereN d id).2=0 then writeN d id [] else (d,(thereN d id).2)
instance (c : api_Copy) : Decidable (mayP c) := inferInstanceAs (Decidable (_ ∧ _))
theorem mayP_small {c:api_Copy} (h:mayP c):smallC c:=by
 obtain ⟨h1,h2,h3,h4⟩:=h
 have:=blocksN_len c.Data
 refine ⟨by unfold InI64; omega,by unfold InI64; omega,by omega,by rw [h4]; simp; omega,fun n hn=>?_⟩
 rw [h4] at hn
 obtain ⟨m,hm,rfl⟩:=List.mem_map.1 hn
 have:=blocksF_lt _ _ m hm
 unfold InI64
 show _≤(m:Int)∧(m:Int)≤_
 omega
theorem pageN_len {c:api_Copy} (h:smallC c):(pageN c).length≤30000:=by
 have:=bodyN_len h
 simp [pageN,tailN]; omega
def putN (d:api_Disk) (c:api_Copy):api_Disk×Int:=if mayP c then writeN d c.Id (pageN c) else (d,1)
theorem p_Put (d:api_Disk) (c:api_Copy) (hd:smallD d) (hc:c.Sums.length≤1000000):chunk_Put d c=some (putN d c):=by
 refine Tot.eq ?_
 unfold chunk_Put putN
 refine Tot.bind (p_may c hc) fun b hb=>Tot.ite (fun hn=>Tot.ret ?_) (fun hn=>?_)
 ·rw [if_neg (fun hp=>by rw [hb.2 hp] at hn; cases hn)]
 ·have hp:mayP c:=hb.1 (by simpa using hn)
  rw [if_pos hp]
  refine Tot.bindeq (p_page c (mayP_small hp)) ?_
  exact Tot.bindeq (p_Write d _ _ hd.2.1 (by have:=pageN_len (mayP_small hp); omega)) (Tot.ret rfl)
end Go.Proofs
