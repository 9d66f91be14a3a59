/- Shots, plain: found by halves, seen, and put. No condition. -/
import Derived.Test.YthkdflbnmbnbaaaGreatXShotSpareP10e
namespace Go.Proofs
set_option linter.all false
open Go Go.Cat
set_option linter.all false
theorem srt_lt {l:List api_Node} (h:SrtN l) {j k:Nat} {x y:api_Node} (hx:l[j]?=some x) (hy:l[k]?=some y) (hjk:j < k):x.Ino < y.Ino:=by
 obtain ⟨h1,rfl⟩:=List.getElem?_eq_some_iff.1 hx
 obtain ⟨h2,rfl⟩:=List.getElem?_eq_some_iff.1 hy
 exact List.pairwise_iff_getElem.1 h j k h1 h2 hjk
def seesB (l:List api_Shot) (f u:Int):Bool:=l.any fun x=>decide (x.At≥f)&&decide (x.At < u)
theorem r_wanted (l:List api_Shot) (f u:Int) (hl:l.length≤1000000):ref10_wanted l f u=some (seesB l f u):=by
 unfold ref10_wanted ref10_wanted_L1 seesB
 refine loop_has (l:=l) _ (fun n x hx hn=>?_) ?_
 ·unfold ref10_wanted_B1
  rw [if_pos (by simpa using hn),idx_some hx,Option.bind_some]
  rw [ba (b:=decide (x.At < u)) (fun _=>by rw [Option.bind_some]),Option.bind_some,Option.bind_some,chk_pos (by unfold InI64; omega)]
  rfl
 ·unfold ref10_wanted_B1; rw [if_neg (by simp)]; rfl
theorem p_seen (l:List api_Shot) (f u:Int) (hl:l.length≤1000000):shot_seen l f u=some (seesB l f u):=by
 unfold shot_seen slices_ContainsFunc_api_Shot_api_Shot__shot_seen_1 slices_IndexFunc_api_Shot_api_Shot__shot_seen_1 slices_IndexFunc_api_Shot_api_Shot__shot_seen_1_L1
 rw [loop_find (b:=l) (fun x=>decide (x.At≥f)&&decide (x.At < u)) (fun n _=>(n:Int)) (-1)]
 ·rw [Option.bind_some,Option.bind_some]
  refine congrArg some ?_
  unfold seesB
  cases h:l.findIdx? (fun x=>decide (x.At≥f)&&decide (x.At < u)) with
  | none =>
   rw [List.findIdx?_eq_none_iff] at h
   symm
   show _=false
   rw [List.any_eq_false]; intro x hx; simpa using h x hx
  | some n =>
   obtain ⟨x,hx,-,hp⟩:=find_at h
   rw [List.any_eq_true.2 ⟨x,List.mem_of_getElem? hx,hp⟩]
   simp only [hx]
   simp
 ·intro n x hx hn
  unfold slices_IndexFunc_api_Shot_api_Shot__shot_seen_1_B1 shot_seen_1
  rw [if_pos (by simpa using hn),idx_some hx,Option.bind_some]
  rw [ba (b:=decide (x.At < u)) (fun _=>rfl),Option.bind_some,Option.bind_some,Option.bind_some,chk_pos (by unfold InI64; omega)]
  rfl
 ·unfold slices_IndexFunc_api_Shot_api_Shot__shot_seen_1_B1; rw [if_neg (by simp)]; rfl
end Go.Proofs
