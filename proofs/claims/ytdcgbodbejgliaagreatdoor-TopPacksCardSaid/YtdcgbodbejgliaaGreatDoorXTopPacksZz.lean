/- The given statement Rows.TopPacksCardSaid of YtdcgbodbejgliaaGreatDoor is proved. No condition. -/
import Derived.Test.YtdcgbodbejgliaaGreatDoorXTopPacksCTopPacks
import Derived.Test.YtdcgbodbejgliaaGreatDoorXTopPacksPl1
import Derived.Test.YtdcgbodbejgliaaGreatDoorCards
import Derived.Test.YtdcgbodbejgliaaGreatDoorTie
import Derived.SevenTiedAt
open Option.some renaming inj → nu
namespace Go.Proofs.YtdcgbodbejgliaaGreatDoor
set_option linter.all false
open Go Go.Cat Go.Proofs
theorem aiB : Rows.TopPacksSaid := aiA (aiz (fun x0 o0 => aei x0 o0))
theorem topPacks_holds : Rows.TopPacksCardSaid :=
  Claim7.holds_tied_plain_at .later [] [.handle] true (true, "9cba3bde0b28416549495698227c46d1b2652ad4d6e0dde2da55cf998bea6eac") true
    aiB (fun _ h => by cases h) (by kernel_rfl) (fun _ h => by cases h) topPacks_row_tie rfl ⟨rfl, rfl⟩ (by kernel_rfl) rfl
    (fun f fn hf dK => by
      obtain rfl : f = 7 := nu ((show Tryz.prog.funcNamed "catacomb/catacombtop.TopPacks" = some 7 by kernel_rfl).symm.trans hf) |>.symm
      obtain rfl : fn = Tryz.f7 := (nu (Tryz.func7.symm.trans dK)).symm
      exact ⟨by kernel_rfl, fun j t ht => by
        rw [show Tryz.f7.params = #[22] by kernel_rfl] at ht
        rcases j with _ | j
        · exact nu ht ▸ (show Tryz.prog.wantsStandIn 22 = false by kernel_rfl)
        simp at ht⟩)
    (by kernel_rfl)
end Go.Proofs.YtdcgbodbejgliaaGreatDoor
