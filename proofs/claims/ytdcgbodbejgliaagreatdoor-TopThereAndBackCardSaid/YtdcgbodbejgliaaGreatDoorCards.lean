/-
  DERIVED. GIVEN WITH THE SEED: THE CARDS: each row of YtdcgbodbejgliaaGreatDoorRows.lean that lists a variable, with what it lists TIED to the program's text (the seventh form; the later family's looks); each row that meets fmt, with fmt's text TOLD by the authors' own Lean function (tested against real Go, not proved from fmt's source: count such statements apart). THE CARD IS WHAT COUNTS. Prove the row's statement (the work); the ties are given (YtdcgbodbejgliaaGreatDoorTie.lean); close each card by the builder's one call (the guide's Derived/Test/ToyasCard.lean, 'card_holds'). Laid BY PROGRAM, IN A SANDBOX (cutbox-door.mjs). By AI agents, Wed Nov 11 2026. No macro, syntax, notation, axiom, sorry.
-/
import Derived.Test.YtdcgbodbejgliaaGreatDoorRows
import GoSem.ClaimSeven
namespace Go.Proofs.YtdcgbodbejgliaaGreatDoor
namespace Rows

/-- THE TIED CARD OF 'catacombtop.TopListed'. -/
def topListedCard : Claim7 := { stood := { row := topListedRow, standIns := [], harness := (true, "9cba3bde0b28416549495698227c46d1b2652ad4d6e0dde2da55cf998bea6eac"), looks := true }, kinds := [], alts := [], laidByText := true, laidKinds := [.handle], laidTests := true, laidLooks := .later }
def TopListedCardSaid : Prop := Claim7.holds Tryz.pinned (.plain (OpenSpec.ofChange topListedSpec)) topListedCard

/-- THE TIED CARD OF 'catacombtop.TopUnseen'. -/
def topUnseenCard : Claim7 := { stood := { row := topUnseenRow, standIns := [], harness := (true, "9cba3bde0b28416549495698227c46d1b2652ad4d6e0dde2da55cf998bea6eac"), looks := true }, kinds := [], alts := [], laidByText := true, laidKinds := [.handle], laidTests := true, laidLooks := .later }
def TopUnseenCardSaid : Prop := Claim7.holds Tryz.pinned (.plain (OpenSpec.ofChange topUnseenSpec)) topUnseenCard

/-- THE TIED CARD OF 'catacombtop.TopThereAndBack'. -/
def topThereAndBackCard : Claim7 := { stood := { row := topThereAndBackRow, standIns := [], harness := (true, "9cba3bde0b28416549495698227c46d1b2652ad4d6e0dde2da55cf998bea6eac"), looks := true }, kinds := [], alts := [], laidByText := true, laidKinds := [.handle], laidTests := true, laidLooks := .later }
def TopThereAndBackCardSaid : Prop := Claim7.holds Tryz.pinned (.plain (OpenSpec.ofChange topThereAndBackSpec)) topThereAndBackCard

/-- THE TIED CARD OF 'catacombtop.TopClients'. -/
def topClientsCard : Claim7 := { stood := { row := topClientsRow, standIns := [], harness := (true, "9cba3bde0b28416549495698227c46d1b2652ad4d6e0dde2da55cf998bea6eac"), looks := true }, kinds := [], alts := [], laidByText := true, laidKinds := [.handle], laidTests := true, laidLooks := .later }
def TopClientsCardSaid : Prop := Claim7.holds Tryz.pinned (.plain (OpenSpec.ofChange topClientsSpec)) topClientsCard

/-- THE TIED CARD OF 'catacombtop.TopPacks'. -/
def topPacksCard : Claim7 := { stood := { row := topPacksRow, standIns := [], harness := (true, "9cba3bde0b28416549495698227c46d1b2652ad4d6e0dde2da55cf998bea6eac"), looks := true }, kinds := [], alts := [], laidByText := true, laidKinds := [.handle], laidTests := true, laidLooks := .later }
def TopPacksCardSaid : Prop := Claim7.holds Tryz.pinned (.plain (OpenSpec.ofChange topPacksSpec)) topPacksCard

/-- THE SECOND FORM's CARD OF 'catacombtop.TopListed'. -/
def topListedUptoCard : Claim7 := { stood := { row := topListedUptoRow, standIns := [], harness := (true, "9cba3bde0b28416549495698227c46d1b2652ad4d6e0dde2da55cf998bea6eac"), looks := true }, kinds := [], alts := [], laidByText := true, laidKinds := [.handle], laidTests := true, laidLooks := .later }
def TopListedUptoCardSaid : Prop := Claim7.holds Tryz.pinned (.plain (OpenSpec.upto topListedSpec)) topListedUptoCard

/-- THE SECOND FORM's CARD OF 'catacombtop.TopUnseen'. -/
def topUnseenUptoCard : Claim7 := { stood := { row := topUnseenUptoRow, standIns := [], harness := (true, "9cba3bde0b28416549495698227c46d1b2652ad4d6e0dde2da55cf998bea6eac"), looks := true }, kinds := [], alts := [], laidByText := true, laidKinds := [.handle], laidTests := true, laidLooks := .later }
def TopUnseenUptoCardSaid : Prop := Claim7.holds Tryz.pinned (.plain (OpenSpec.upto topUnseenSpec)) topUnseenUptoCard

/-- THE SECOND FORM's CARD OF 'catacombtop.TopThereAndBack'. -/
def topThereAndBackUptoCard : Claim7 := { stood := { row := topThereAndBackUptoRow, standIns := [], harness := (true, "9cba3bde0b28416549495698227c46d1b2652ad4d6e0dde2da55cf998bea6eac"), looks := true }, kinds := [], alts := [], laidByText := true, laidKinds := [.handle], laidTests := true, laidLooks := .later }
def TopThereAndBackUptoCardSaid : Prop := Claim7.holds Tryz.pinned (.plain (OpenSpec.upto topThereAndBackSpec)) topThereAndBackUptoCard

/-- THE SECOND FORM's CARD OF 'catacombtop.TopClients'. -/
def topClientsUptoCard : Claim7 := { stood := { row := topClientsUptoRow, standIns := [], harness := (true, "9cba3bde0b28416549495698227c46d1b2652ad4d6e0dde2da55cf998bea6eac"), looks := true }, kinds := [], alts := [], laidByText := true, laidKinds := [.handle], laidTests := true, laidLooks := .later }
def TopClientsUptoCardSaid : Prop := Claim7.holds Tryz.pinned (.plain (OpenSpec.upto topClientsSpec)) topClientsUptoCard

/-- THE SECOND FORM's CARD OF 'catacombtop.TopPacks'. -/
def topPacksUptoCard : Claim7 := { stood := { row := topPacksUptoRow, standIns := [], harness := (true, "9cba3bde0b28416549495698227c46d1b2652ad4d6e0dde2da55cf998bea6eac"), looks := true }, kinds := [], alts := [], laidByText := true, laidKinds := [.handle], laidTests := true, laidLooks := .later }
def TopPacksUptoCardSaid : Prop := Claim7.holds Tryz.pinned (.plain (OpenSpec.upto topPacksSpec)) topPacksUptoCard
end Rows
end Go.Proofs.YtdcgbodbejgliaaGreatDoor
