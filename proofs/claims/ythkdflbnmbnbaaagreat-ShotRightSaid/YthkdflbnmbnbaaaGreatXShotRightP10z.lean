/- Shots, plain: snapshots stay. No condition. -/
import Derived.Test.YthkdflbnmbnbaaaGreatXShotRightP10y
namespace Go.Proofs
set_option linter.all false
open Go Go.Cat
set_option linter.all false
open Classical in
theorem had_sub {t:api_Tree} (h:RT t) {i:Int} {r:List api_Node×Bool} (hr:HadP (gN t.Nodes) i r):r.1.length≤200∧∀n,n∈r.1→n.Ents.length≤64:=by
 have hm:∀n,n∈r.1→n∈t.Nodes:=fun n hn=>(gN_some ((hr.2.1 n).1 hn).2).1
 have:r.1=t.Nodes.filter fun n=>decide (n∈r.1):=srt_ext hr.1 (filter_srt h.s _) fun n=>by
  rw [List.mem_filter,decide_eq_true_iff]
  exact ⟨fun a=>⟨hm n a,a⟩,fun a=>a.2⟩
 refine ⟨?_,fun n hn=>(h.en n (hm n hn)).n⟩
 rw [this]
 exact Nat.le_trans (List.length_filter_le _ _) h.len
end Go.Proofs
