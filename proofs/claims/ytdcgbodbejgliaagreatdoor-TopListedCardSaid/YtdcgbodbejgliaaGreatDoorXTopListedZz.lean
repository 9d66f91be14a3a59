/- The given statement Rows.TopListedCardSaid of YtdcgbodbejgliaaGreatDoor is proved. No condition. -/
import Derived.Test.YtdcgbodbejgliaaGreatDoorXTopListedCTopListed
import Derived.Test.YtdcgbodbejgliaaGreatDoorXTopListedPl1
import Derived.Test.YtdcgbodbejgliaaGreatDoorCards
import Derived.Test.YtdcgbodbejgliaaGreatDoorTie
import Derived.SevenTiedAt
open Option.some renaming inj → j7
namespace Go.Proofs.YtdcgbodbejgliaaGreatDoor
set_option linter.all false
open Go Go.Cat Go.Proofs
theorem aef : Rows.TopListedSaid := aee (aed (fun x0 x1 o0 o1 => abg x0 x1 o0 o1))
theorem topListed_holds : Rows.TopListedCardSaid :=
  Claim7.holds_tied_plain_at .later [] [.handle] true (true, "9cba3bde0b28416549495698227c46d1b2652ad4d6e0dde2da55cf998bea6eac") true
    aef (fun _ h => by cases h) (by as_aux_lemma => kernel_rfl) (fun _ h => by cases h) topListed_row_tie rfl ⟨rfl, rfl⟩ (by as_aux_lemma => kernel_rfl) rfl
    (fun f fn hf dj => by
      obtain rfl : f = 3 := j7 ((show Tryz.prog.funcNamed "catacomb/catacombtop.TopListed" = some 3 by as_aux_lemma => kernel_rfl).symm.trans hf) |>.symm
      obtain rfl : fn = Tryz.f3 := (j7 (Tryz.func3.symm.trans dj)).symm
      exact ⟨by as_aux_lemma => kernel_rfl, fun j t ht => by
        rw [show Tryz.f3.params = #[22, 5] by as_aux_lemma => kernel_rfl] at ht
        rcases j with _ | j
        · exact j7 ht ▸ (show Tryz.prog.wantsStandIn 22 = false by as_aux_lemma => kernel_rfl)
        rcases j with _ | j
        · exact j7 ht ▸ (show Tryz.prog.wantsStandIn 5 = false by as_aux_lemma => kernel_rfl)
        simp at ht⟩)
    (by as_aux_lemma => kernel_rfl)
end Go.Proofs.YtdcgbodbejgliaaGreatDoor
