/- The given statement Rows.TopUnseenCardSaid of YtdcgbodbejgliaaGreatDoor is proved. No condition. -/
import Derived.Test.YtdcgbodbejgliaaGreatDoorXTopUnseenCTopUnseen
import Derived.Test.YtdcgbodbejgliaaGreatDoorXTopUnseenPl1
import Derived.Test.YtdcgbodbejgliaaGreatDoorCards
import Derived.Test.YtdcgbodbejgliaaGreatDoorTie
import Derived.SevenTiedAt
open Option.some renaming inj → lP
namespace Go.Proofs.YtdcgbodbejgliaaGreatDoor
set_option linter.all false
open Go Go.Cat Go.Proofs
theorem ahZ : Rows.TopUnseenSaid := ahY (ahX (fun x0 x1 x2 o0 o1 o2 => adz x0 x1 x2 o0 o1 o2))
theorem topUnseen_holds : Rows.TopUnseenCardSaid :=
  Claim7.holds_tied_plain_at .later [] [.handle] true (true, "9cba3bde0b28416549495698227c46d1b2652ad4d6e0dde2da55cf998bea6eac") true
    ahZ (fun _ h => by cases h) (by kernel_rfl) (fun _ h => by cases h) topUnseen_row_tie rfl ⟨rfl, rfl⟩ (by kernel_rfl) rfl
    (fun f fn hf dF => by
      obtain rfl : f = 4 := lP ((show Tryz.prog.funcNamed "catacomb/catacombtop.TopUnseen" = some 4 by kernel_rfl).symm.trans hf) |>.symm
      obtain rfl : fn = Tryz.f4 := (lP (Tryz.func4.symm.trans dF)).symm
      exact ⟨by kernel_rfl, fun j t ht => by
        rw [show Tryz.f4.params = #[22, 5, 9] by kernel_rfl] at ht
        rcases j with _ | j
        · exact lP ht ▸ (show Tryz.prog.wantsStandIn 22 = false by kernel_rfl)
        rcases j with _ | j
        · exact lP ht ▸ (show Tryz.prog.wantsStandIn 5 = false by kernel_rfl)
        rcases j with _ | j
        · exact lP ht ▸ (show Tryz.prog.wantsStandIn 9 = false by kernel_rfl)
        simp at ht⟩)
    (by kernel_rfl)
end Go.Proofs.YtdcgbodbejgliaaGreatDoor
