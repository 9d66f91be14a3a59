/- The given statement Rows.TopClientsCardSaid of YtdcgbodbejgliaaGreatDoor is proved. No condition. -/
import Derived.Test.YtdcgbodbejgliaaGreatDoorXTopClientsCTopClients
import Derived.Test.YtdcgbodbejgliaaGreatDoorXTopClientsPl1
import Derived.Test.YtdcgbodbejgliaaGreatDoorCards
import Derived.Test.YtdcgbodbejgliaaGreatDoorTie
import Derived.SevenTiedAt
open Option.some renaming inj → nn
namespace Go.Proofs.YtdcgbodbejgliaaGreatDoor
set_option linter.all false
open Go Go.Cat Go.Proofs
theorem aia : Rows.TopClientsSaid := ah' (ah_ (fun x0 o0 => adO x0 o0))
theorem topClients_holds : Rows.TopClientsCardSaid :=
  Claim7.holds_tied_plain_at .later [] [.handle] true (true, "9cba3bde0b28416549495698227c46d1b2652ad4d6e0dde2da55cf998bea6eac") true
    aia (fun _ h => by cases h) (by kernel_rfl) (fun _ h => by cases h) topClients_row_tie rfl ⟨rfl, rfl⟩ (by kernel_rfl) rfl
    (fun f fn hf dE => by
      obtain rfl : f = 6 := nn ((show Tryz.prog.funcNamed "catacomb/catacombtop.TopClients" = some 6 by kernel_rfl).symm.trans hf) |>.symm
      obtain rfl : fn = Tryz.f6 := (nn (Tryz.func6.symm.trans dE)).symm
      exact ⟨by kernel_rfl, fun j t ht => by
        rw [show Tryz.f6.params = #[22] by kernel_rfl] at ht
        rcases j with _ | j
        · exact nn ht ▸ (show Tryz.prog.wantsStandIn 22 = false by kernel_rfl)
        simp at ht⟩)
    (by kernel_rfl)
end Go.Proofs.YtdcgbodbejgliaaGreatDoor
