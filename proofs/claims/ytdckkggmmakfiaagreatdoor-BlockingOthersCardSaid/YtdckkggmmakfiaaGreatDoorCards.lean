/-
  DERIVED. GIVEN WITH THE SEED: THE CARDS: each row of YtdckkggmmakfiaaGreatDoorRows.lean that lists a variable, with what it lists TIED to the program's text (the seventh form; the later family's looks); each row that meets fmt, with fmt's text TOLD by the authors' own Lean function (tested against real Go, not proved from fmt's source: count such statements apart). THE CARD IS WHAT COUNTS. Prove the row's statement (the work); the ties are given (YtdckkggmmakfiaaGreatDoorTie.lean); close each card by the builder's one call (the guide's Derived/Test/ToyasCard.lean, 'card_holds'). Laid BY PROGRAM, IN A SANDBOX (cutbox-door.mjs). By AI agents, Wed Nov 11 2026. No macro, syntax, notation, axiom, sorry.
-/
import Derived.Test.YtdckkggmmakfiaaGreatDoorRows
import GoSem.ClaimSeven
namespace Go.Proofs.YtdckkggmmakfiaaGreatDoor
namespace Rows

/-- THE TIED CARD OF 'recordlinklaw20.BlockingAgree'. -/
def blockingAgreeCard : Claim7 := { stood := { row := blockingAgreeRow, standIns := [], harness := (true, "ceba54718281d68c1004b1f6c0eed38b4caf0cb2d958aa4dbdf1e11278135c4a"), looks := false }, kinds := [], alts := [], laidByText := true, laidKinds := [.data, .data, .data, .data, .pinned], laidTests := true, laidLooks := .later }
def BlockingAgreeCardSaid : Prop := Claim7.holds Tryz.pinned (.plain (OpenSpec.ofChange blockingAgreeSpec)) blockingAgreeCard

/-- THE TIED CARD OF 'recordlinklaw20.BlockingOthers'. -/
def blockingOthersCard : Claim7 := { stood := { row := blockingOthersRow, standIns := [], harness := (true, "ceba54718281d68c1004b1f6c0eed38b4caf0cb2d958aa4dbdf1e11278135c4a"), looks := false }, kinds := [], alts := [], laidByText := true, laidKinds := [.data, .data, .data, .data, .pinned], laidTests := true, laidLooks := .later }
def BlockingOthersCardSaid : Prop := Claim7.holds Tryz.pinned (.plain (OpenSpec.ofChange blockingOthersSpec)) blockingOthersCard

/-- THE TIED CARD OF 'recordlinklaw20.BlockingHashes'. -/
def blockingHashesCard : Claim7 := { stood := { row := blockingHashesRow, standIns := [], harness := (true, "ceba54718281d68c1004b1f6c0eed38b4caf0cb2d958aa4dbdf1e11278135c4a"), looks := false }, kinds := [], alts := [], laidByText := true, laidKinds := [.data, .data, .data, .data, .pinned], laidTests := true, laidLooks := .later }
def BlockingHashesCardSaid : Prop := Claim7.holds Tryz.pinned (.plain (OpenSpec.ofChange blockingHashesSpec)) blockingHashesCard

/-- THE TIED CARD OF 'recordlinklaw20.BlockingParts'. -/
def blockingPartsCard : Claim7 := { stood := { row := blockingPartsRow, standIns := [], harness := (true, "ceba54718281d68c1004b1f6c0eed38b4caf0cb2d958aa4dbdf1e11278135c4a"), looks := false }, kinds := [], alts := [], laidByText := true, laidKinds := [.data, .data, .data, .data, .pinned], laidTests := true, laidLooks := .later }
def BlockingPartsCardSaid : Prop := Claim7.holds Tryz.pinned (.plain (OpenSpec.ofChange blockingPartsSpec)) blockingPartsCard

/-- THE SECOND FORM's CARD OF 'recordlinklaw20.BlockingAgree'. -/
def blockingAgreeUptoCard : Claim7 := { stood := { row := blockingAgreeUptoRow, standIns := [], harness := (true, "ceba54718281d68c1004b1f6c0eed38b4caf0cb2d958aa4dbdf1e11278135c4a"), looks := false }, kinds := [], alts := [], laidByText := true, laidKinds := [.data, .data, .data, .data, .pinned], laidTests := true, laidLooks := .later }
def BlockingAgreeUptoCardSaid : Prop := Claim7.holds Tryz.pinned (.plain (OpenSpec.upto blockingAgreeSpec)) blockingAgreeUptoCard

/-- THE SECOND FORM's CARD OF 'recordlinklaw20.BlockingOthers'. -/
def blockingOthersUptoCard : Claim7 := { stood := { row := blockingOthersUptoRow, standIns := [], harness := (true, "ceba54718281d68c1004b1f6c0eed38b4caf0cb2d958aa4dbdf1e11278135c4a"), looks := false }, kinds := [], alts := [], laidByText := true, laidKinds := [.data, .data, .data, .data, .pinned], laidTests := true, laidLooks := .later }
def BlockingOthersUptoCardSaid : Prop := Claim7.holds Tryz.pinned (.plain (OpenSpec.upto blockingOthersSpec)) blockingOthersUptoCard

/-- THE SECOND FORM's CARD OF 'recordlinklaw20.BlockingHashes'. -/
def blockingHashesUptoCard : Claim7 := { stood := { row := blockingHashesUptoRow, standIns := [], harness := (true, "ceba54718281d68c1004b1f6c0eed38b4caf0cb2d958aa4dbdf1e11278135c4a"), looks := false }, kinds := [], alts := [], laidByText := true, laidKinds := [.data, .data, .data, .data, .pinned], laidTests := true, laidLooks := .later }
def BlockingHashesUptoCardSaid : Prop := Claim7.holds Tryz.pinned (.plain (OpenSpec.upto blockingHashesSpec)) blockingHashesUptoCard

/-- THE SECOND FORM's CARD OF 'recordlinklaw20.BlockingParts'. -/
def blockingPartsUptoCard : Claim7 := { stood := { row := blockingPartsUptoRow, standIns := [], harness := (true, "ceba54718281d68c1004b1f6c0eed38b4caf0cb2d958aa4dbdf1e11278135c4a"), looks := false }, kinds := [], alts := [], laidByText := true, laidKinds := [.data, .data, .data, .data, .pinned], laidTests := true, laidLooks := .later }
def BlockingPartsUptoCardSaid : Prop := Claim7.holds Tryz.pinned (.plain (OpenSpec.upto blockingPartsSpec)) blockingPartsUptoCard
end Rows
end Go.Proofs.YtdckkggmmakfiaaGreatDoor
