/- Chunks, plain: sums. No condition. -/
import Derived.Test.YtaaaipgdnofafaaGreatXChainTellsTw
import Derived.Test.YtaaaipgdnofafaaGreatXChainTellsCatP1
import Derived.Test.YtaaaipgdnofafaaGreatXChainTellsCatP5
import Derived.IntWalk
namespace Go.Proofs
set_option linter.all false
open Go Go.Cat
def sumTab:List Nat:=[0,274646895,549293790,820201905,1098587580,1361435347,1640403810,1905808397,2197175160,2460548119,2722870694,2987750089,3280807620,3553878443,3811616794,4084100981]
def sumNib (y:Nat):Nat:=sumTab.getD (y &&& 15) 0 ^^^ (y >>> 4)
def sumStep (s:Nat) (x:UInt8):Nat:=sumNib (sumNib (s ^^^ x.toNat))
def sumN (b:List UInt8):Nat:=b.foldl sumStep 4294967295 ^^^ 4294967295
theorem sumTab_lt:∀i,sumTab.getD i 0 < 4294967296:=by
 intro i
 rcases Nat.lt_or_ge i 16 with h | h
 ·revert i; decide
 ·rw [List.getD_eq_getElem?_getD,List.getElem?_eq_none (by exact h)]; decide
theorem sumNib_lt {y:Nat} (h:y < 4294967296):sumNib y < 4294967296 :=
 xlt32 (sumTab_lt _) (Nat.lt_of_le_of_lt (Nat.shiftRight_le y 4) h)
theorem byte_lt (x:UInt8):x.toNat < 4294967296:=Nat.lt_trans x.toNat_lt (by decide)
theorem sumStep_lt {s:Nat} (h:s < 4294967296) (x:UInt8):sumStep s x < 4294967296 :=
 sumNib_lt (sumNib_lt (xlt32 h (byte_lt x)))
theorem fold_lt (b:List UInt8):∀s,s < 4294967296→b.foldl sumStep s < 4294967296:=by
 induction b with
 | nil=>intro s h; exact h
 | cons x b ih=>intro s h; exact ih _ (sumStep_lt h x)
theorem sumN_lt (b:List UInt8):sumN b < 4294967296:=xlt32 (fold_lt b _ (by decide)) (by decide)
theorem p_half:sum_half=some (sumTab.map Int.ofNat):=le_sum_half 20 _ (by kernel_rfl)
theorem p_nib {y:Nat} (h:y < 4294967296):idx (sumTab.map Int.ofNat) (andK .u32 (y:Int) 15)=some ((sumTab.getD (y &&& 15) 0:Nat):Int)∧andK .u32 (y:Int) 15 < 16:=by
 have e:andK .u32 (y:Int) 15=((y &&& 15:Nat):Int):=and32 (b:=15) h (by decide)
 have hlt:y &&& 15 < 16:=Nat.and_lt_two_pow (n:=4) y (by decide)
 rw [e]
 refine ⟨?_,by omega⟩
 rw [idx_of_nat,List.getElem?_map]
 generalize y &&& 15=n at hlt ⊢
 revert n; decide
theorem p_of_round (b:List UInt8) (hb:b.length≤1000000) (s n:Nat) (x:UInt8) (hs:s < 4294967296) (hx:b[n]?=some x) (hn:n < b.length) :
  sum_of_B1 b (sumTab.map Int.ofNat) ((s:Int),(n:Int))=some (.inl (((sumStep s x:Nat):Int),(n:Int)+1)):=by
 unfold sum_of_B1
 have hy:s ^^^ x.toNat < 4294967296:=xlt32 hs (byte_lt x)
 have e1:xorK .u32 (s:Int) (x.toNat:Int)=((s ^^^ x.toNat:Nat):Int):=xor32 hs (byte_lt x)
 have e2:∀y:Nat,shrK .u32 (y:Int) 4=((y >>> 4:Nat):Int):=fun y=>shr32 (b:=4) (by decide)
 have e3:∀y:Nat,y < 4294967296→xorK .u32 ((sumTab.getD (y &&& 15) 0:Nat):Int) ((y >>> 4:Nat):Int)=((sumNib y:Nat):Int):=fun y hy=>xor32 (sumTab_lt _) (Nat.lt_of_le_of_lt (Nat.shiftRight_le y 4) hy)
 have h2:=sumNib_lt hy
 refine Tot.eq (Tot.ite (fun _=>?_) (fun h=>absurd h (by simp; omega)))
 refine Tot.bindeq (idx_some hx) ?_
 rw [e1,e2]
 refine Tot.bindeq (p_nib hy).1 (Tot.chk (p_nib hy).2 ?_)
 rw [e3 _ hy,e2]
 refine Tot.bindeq (p_nib h2).1 (Tot.chk (p_nib h2).2 ?_)
 rw [e3 _ h2]
 exact Tot.chk (by unfold InI64; omega) (Tot.ret rfl)
theorem p_fold (l:List UInt8):∀n:Nat,l.foldl (fun (s:Int) x=>((sumStep s.toNat x:Nat):Int)) (n:Int)=((l.foldl sumStep n:Nat):Int):=by
 induction l with
 | nil=>intro n; rfl
 | cons x l ih=>intro n; simp only [List.foldl_cons,Int.toNat_natCast]; exact ih _
theorem p_of_loop (b:List UInt8) (hb:b.length≤1000000) (n:Nat) (hn:n < 4294967296):loop (sum_of_B1 b (sumTab.map Int.ofNat)) ((n:Int),0)=some ((b.foldl sumStep n:Nat):Int):=by
 have hl:=loop_each (b:=b) (B:=sum_of_B1 b (sumTab.map Int.ofNat)) (fun (s:Int) x=>((sumStep s.toNat x:Nat):Int)) (fun s=>∃n:Nat,s=n∧n < 4294967296) (fun x=>x) ?_ ?_ ?_ (n:Int) ⟨n,rfl,hn⟩
 ·rw [hl,p_fold]
 ·rintro a n x ⟨s,rfl,hs⟩ hx hn
  rw [p_of_round b hb s n x hs hx hn,Int.toNat_natCast]
 ·rintro a x - ⟨s,rfl,hs⟩
  exact ⟨_,rfl,sumStep_lt hs x⟩
 ·rintro a ⟨s,rfl,hs⟩
  unfold sum_of_B1
  rw [if_neg (by simp)]
  rfl
theorem p_of (b:List UInt8) (hb:b.length≤1000000):sum_of (sumTab.map Int.ofNat) b=some ((sumN b:Nat):Int):=by
 have hl:=p_of_loop b hb 4294967295 (by decide)
 have e:=xor32 (a:=b.foldl sumStep 4294967295) (b:=4294967295) (fold_lt b _ (by decide)) (by decide)
 have hlt:b.foldl sumStep 4294967295 ^^^ 4294967295 < 4294967296:=sumN_lt b
 unfold sum_of sum_of_L1 sumN
 simp only [Int.cast_ofNat_Int] at hl e
 rw [hl,Option.bind_some,e,IntWalk.i64_in _ ⟨by omega,by omega⟩]
end Go.Proofs
