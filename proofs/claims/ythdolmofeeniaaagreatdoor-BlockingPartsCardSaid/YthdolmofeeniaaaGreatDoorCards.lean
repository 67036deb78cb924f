/-
  DERIVED. GIVEN WITH THE SEED: THE CARDS: each row of YthdolmofeeniaaaGreatDoorRows.lean that lists a variable, with what it lists TIED to the program's text (the seventh form; the later family's looks); each row that meets fmt, with fmt's text TOLD by the authors' own Lean function (tested against real Go, not proved from fmt's source: count such statements apart). THE CARD IS WHAT COUNTS. Prove the row's statement (the work); the ties are given (YthdolmofeeniaaaGreatDoorTie.lean); close each card by the builder's one call (the guide's Derived/Test/ToyasCard.lean, 'card_holds'). Laid BY PROGRAM, IN A SANDBOX (cutbox-door.mjs). By AI agents, Wed Nov 11 2026. No macro, syntax, notation, axiom, sorry.
-/
import Derived.Test.YthdolmofeeniaaaGreatDoorRows
import GoSem.ClaimSeven
namespace Go.Proofs.YthdolmofeeniaaaGreatDoor
namespace Rows

/-- THE TIED CARD OF 'recordlinklaw20.BlockingHashes'. -/
def blockingHashesCard : Claim7 := { stood := { row := blockingHashesRow, standIns := [], harness := (true, "ee02a60bc0bbaedd87ad1e8f70337cb2d1cbae18b663667a79cf4cb9bab4ee39"), looks := true }, kinds := [], alts := [], laidByText := true, laidKinds := [.data, .data, .data, .data, .pinned], laidTests := true, laidLooks := .later }
def BlockingHashesCardSaid : Prop := Claim7.holds Tryz.pinned (.plain (OpenSpec.ofChange blockingHashesSpec)) blockingHashesCard

/-- THE TIED CARD OF 'recordlinklaw20.BlockingExact'. -/
def blockingExactCard : Claim7 := { stood := { row := blockingExactRow, standIns := [], harness := (true, "ee02a60bc0bbaedd87ad1e8f70337cb2d1cbae18b663667a79cf4cb9bab4ee39"), looks := true }, kinds := [], alts := [], laidByText := true, laidKinds := [.data, .data, .data, .data, .pinned], laidTests := true, laidLooks := .later }
def BlockingExactCardSaid : Prop := Claim7.holds Tryz.pinned (.plain (OpenSpec.ofChange blockingExactSpec)) blockingExactCard

/-- THE TIED CARD OF 'recordlinklaw20.BlockingParts'. -/
def blockingPartsCard : Claim7 := { stood := { row := blockingPartsRow, standIns := [], harness := (true, "ee02a60bc0bbaedd87ad1e8f70337cb2d1cbae18b663667a79cf4cb9bab4ee39"), looks := true }, kinds := [], alts := [], laidByText := true, laidKinds := [.data, .data, .data, .data, .pinned], laidTests := true, laidLooks := .later }
def BlockingPartsCardSaid : Prop := Claim7.holds Tryz.pinned (.plain (OpenSpec.ofChange blockingPartsSpec)) blockingPartsCard

/-- THE TIED CARD OF 'recordlinklaw16.EncodeBack'. -/
def encodeBackCard : Claim7 := { stood := { row := encodeBackRow, standIns := [], harness := (true, "ee02a60bc0bbaedd87ad1e8f70337cb2d1cbae18b663667a79cf4cb9bab4ee39"), looks := true }, kinds := [], alts := [], laidByText := true, laidKinds := [.data, .data, .data, .data, .sentinel, .sentinel, .pinned], laidTests := true, laidLooks := .later }
def EncodeBackCardSaid : Prop := Claim7.holds Tryz.pinned (.plain (OpenSpec.ofChange encodeBackSpec)) encodeBackCard

/-- THE TIED CARD OF 'recordlinklaw13.RecordOrder'. -/
def recordOrderCard : Claim7 := { stood := { row := recordOrderRow, standIns := [], harness := (true, "ee02a60bc0bbaedd87ad1e8f70337cb2d1cbae18b663667a79cf4cb9bab4ee39"), looks := true }, kinds := [], alts := [], laidByText := true, laidKinds := [.data, .data, .data, .data, .sentinel, .sentinel, .pinned], laidTests := true, laidLooks := .later }
def RecordOrderCardSaid : Prop := Claim7.holds Tryz.pinned (.plain (OpenSpec.ofChange recordOrderSpec)) recordOrderCard

/-- THE TIED CARD OF 'recordlinklaw13.RecordMakes'. -/
def recordMakesCard : Claim7 := { stood := { row := recordMakesRow, standIns := [], harness := (true, "ee02a60bc0bbaedd87ad1e8f70337cb2d1cbae18b663667a79cf4cb9bab4ee39"), looks := true }, kinds := [], alts := [], laidByText := true, laidKinds := [.data, .data, .data, .data, .sentinel, .sentinel, .pinned], laidTests := true, laidLooks := .later }
def RecordMakesCardSaid : Prop := Claim7.holds Tryz.pinned (.plain (OpenSpec.ofChange recordMakesSpec)) recordMakesCard

/-- THE SECOND FORM's CARD OF 'recordlinklaw20.BlockingHashes'. -/
def blockingHashesUptoCard : Claim7 := { stood := { row := blockingHashesUptoRow, standIns := [], harness := (true, "ee02a60bc0bbaedd87ad1e8f70337cb2d1cbae18b663667a79cf4cb9bab4ee39"), looks := true }, kinds := [], alts := [], laidByText := true, laidKinds := [.data, .data, .data, .data, .pinned], laidTests := true, laidLooks := .later }
def BlockingHashesUptoCardSaid : Prop := Claim7.holds Tryz.pinned (.plain (OpenSpec.upto blockingHashesSpec)) blockingHashesUptoCard

/-- THE SECOND FORM's CARD OF 'recordlinklaw20.BlockingExact'. -/
def blockingExactUptoCard : Claim7 := { stood := { row := blockingExactUptoRow, standIns := [], harness := (true, "ee02a60bc0bbaedd87ad1e8f70337cb2d1cbae18b663667a79cf4cb9bab4ee39"), looks := true }, kinds := [], alts := [], laidByText := true, laidKinds := [.data, .data, .data, .data, .pinned], laidTests := true, laidLooks := .later }
def BlockingExactUptoCardSaid : Prop := Claim7.holds Tryz.pinned (.plain (OpenSpec.upto blockingExactSpec)) blockingExactUptoCard

/-- THE SECOND FORM's CARD OF 'recordlinklaw20.BlockingParts'. -/
def blockingPartsUptoCard : Claim7 := { stood := { row := blockingPartsUptoRow, standIns := [], harness := (true, "ee02a60bc0bbaedd87ad1e8f70337cb2d1cbae18b663667a79cf4cb9bab4ee39"), looks := true }, kinds := [], alts := [], laidByText := true, laidKinds := [.data, .data, .data, .data, .pinned], laidTests := true, laidLooks := .later }
def BlockingPartsUptoCardSaid : Prop := Claim7.holds Tryz.pinned (.plain (OpenSpec.upto blockingPartsSpec)) blockingPartsUptoCard

/-- THE SECOND FORM's CARD OF 'recordlinklaw16.EncodeBack'. -/
def encodeBackUptoCard : Claim7 := { stood := { row := encodeBackUptoRow, standIns := [], harness := (true, "ee02a60bc0bbaedd87ad1e8f70337cb2d1cbae18b663667a79cf4cb9bab4ee39"), looks := true }, kinds := [], alts := [], laidByText := true, laidKinds := [.data, .data, .data, .data, .sentinel, .sentinel, .pinned], laidTests := true, laidLooks := .later }
def EncodeBackUptoCardSaid : Prop := Claim7.holds Tryz.pinned (.plain (OpenSpec.upto encodeBackSpec)) encodeBackUptoCard

/-- THE SECOND FORM's CARD OF 'recordlinklaw13.RecordOrder'. -/
def recordOrderUptoCard : Claim7 := { stood := { row := recordOrderUptoRow, standIns := [], harness := (true, "ee02a60bc0bbaedd87ad1e8f70337cb2d1cbae18b663667a79cf4cb9bab4ee39"), looks := true }, kinds := [], alts := [], laidByText := true, laidKinds := [.data, .data, .data, .data, .sentinel, .sentinel, .pinned], laidTests := true, laidLooks := .later }
def RecordOrderUptoCardSaid : Prop := Claim7.holds Tryz.pinned (.plain (OpenSpec.upto recordOrderSpec)) recordOrderUptoCard

/-- THE SECOND FORM's CARD OF 'recordlinklaw13.RecordMakes'. -/
def recordMakesUptoCard : Claim7 := { stood := { row := recordMakesUptoRow, standIns := [], harness := (true, "ee02a60bc0bbaedd87ad1e8f70337cb2d1cbae18b663667a79cf4cb9bab4ee39"), looks := true }, kinds := [], alts := [], laidByText := true, laidKinds := [.data, .data, .data, .data, .sentinel, .sentinel, .pinned], laidTests := true, laidLooks := .later }
def RecordMakesUptoCardSaid : Prop := Claim7.holds Tryz.pinned (.plain (OpenSpec.upto recordMakesSpec)) recordMakesUptoCard
end Rows
end Go.Proofs.YthdolmofeeniaaaGreatDoor
