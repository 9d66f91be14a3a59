/- Scrubbing, plain: strays, cleaned away. No condition. -/
import Derived.Test.YtpohijpdclienaaGreatXScrubTellsP27s
import Derived.Test.YtpohijpdclienaaGreatXScrubTellsP27p
namespace Go.Proofs
set_option linter.all false
open Go Go.Cat
set_option linter.all false
theorem r_SameFinds (l : List api_Find) (h : l.length ≤ 100000) : ref27N14 l l = some true := by
 refine Tot.eq ?_
 unfold ref27N14 ref27N19
 refine Tot.ncond (by simp) ?_
 refine Tot.each0 (l := l) (fun _ => True) (fun n d hlt hx _ => ?_) (fun _ => ?_) trivial
 ·unfold ref27N16
  exact Tot.cond (by simp; omega) (Tot.bindeq (idx_some hx) (Tot.bindeq (idx_some hx) (Tot.ncond (by simp) (Tot.chk (by unfold InI64; omega) (Tot.inl ⟨rfl, trivial⟩)))))
 ·unfold ref27N16 ref27N18
  exact Tot.ncond (by simp) (Tot.out (Tot.ret rfl))
structure Cl (D : List api_Disk) (F : List api_Find) (a : List api_Disk) : Prop where
 len : a.length = D.length
 fit : FitL a 120
 down : ∀ (s : Nat) (d e : api_Disk), D[s]? = some d → a[s]? = some e → e.Down = d.Down
 gone : ∀ (s : Nat) (d e : api_Disk), D[s]? = some d → a[s]? = some e → ∀ f, f ∈ F → f.Server = (s : Int) → thereN e f.Id = ([], 41)
 kept : ∀ (s : Nat) (d e : api_Disk), D[s]? = some d → a[s]? = some e → ∀ i, (∀ f, f ∈ F → f.Server = (s : Int) → f.Id ≠ i) → thereN e i = thereN d i
end Go.Proofs
