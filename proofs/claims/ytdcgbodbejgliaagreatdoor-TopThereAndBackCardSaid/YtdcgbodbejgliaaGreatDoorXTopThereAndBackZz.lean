/- The given statement Rows.TopThereAndBackCardSaid of YtdcgbodbejgliaaGreatDoor is proved. No condition. -/
import Derived.Test.YtdcgbodbejgliaaGreatDoorXTopThereAndBackCTopThereAndBack
import Derived.Test.YtdcgbodbejgliaaGreatDoorXTopThereAndBackPl1
import Derived.Test.YtdcgbodbejgliaaGreatDoorCards
import Derived.Test.YtdcgbodbejgliaaGreatDoorTie
import Derived.SevenTiedAt
open Option renaming some->V
open Option.some renaming inj->iP
namespace Go.Proofs.YtdcgbodbejgliaaGreatDoor
set_option linter.all false
open Go Go.Cat Go.Proofs
theorem ahD:Rows.TopThereAndBackSaid:=ahC (ahB (λx0 x1 x2 o0 o1 o2 => aef x0 x1 x2 o0 o1 o2))
theorem topThereAndBack_holds:Rows.TopThereAndBackCardSaid:=
  Claim7.holds_tied_plain_at .later [] [.handle] true (true, "9cba3bde0b28416549495698227c46d1b2652ad4d6e0dde2da55cf998bea6eac") true
    ahD (λ_ h => by cases h) (by as_aux_lemma => kernel_rfl) (λ_ h => by cases h) topThereAndBack_row_tie rfl ⟨rfl,rfl⟩ (by as_aux_lemma => kernel_rfl) rfl
    (λf fn hf dR => by
      obtain rfl:f=5:=iP ((show Tryz.prog.funcNamed "catacomb/catacombtop.TopThereAndBack" = V 5 by as_aux_lemma => kernel_rfl).symm.trans hf) |>.symm
      obtain rfl:fn=Tryz.f5 :=(iP (Tryz.func5.symm.trans dR)).symm
      exact⟨by as_aux_lemma => kernel_rfl,λj t ht => by
        rw[show Tryz.f5.params=#[22,9,9] by as_aux_lemma => kernel_rfl]at ht
        rcases j with _ | j
        · exact iP ht ▸ (show Tryz.prog.wantsStandIn 22=false by as_aux_lemma => kernel_rfl)
        rcases j with _ | j
        · exact iP ht ▸ (show Tryz.prog.wantsStandIn 9=false by as_aux_lemma => kernel_rfl)
        rcases j with _ | j
        · exact iP ht ▸ (show Tryz.prog.wantsStandIn 9=false by as_aux_lemma => kernel_rfl)
        simp at ht⟩)
    (by as_aux_lemma => kernel_rfl)
end Go.Proofs.YtdcgbodbejgliaaGreatDoor
