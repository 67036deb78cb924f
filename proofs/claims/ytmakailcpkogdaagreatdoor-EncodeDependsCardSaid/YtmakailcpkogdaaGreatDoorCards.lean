/-
  DERIVED. GIVEN WITH THE SEED: THE CARDS: each row of YtmakailcpkogdaaGreatDoorRows.lean that lists a variable, with what it lists TIED to the program's text (the seventh form; the later family's looks); each row that meets fmt, with fmt's text TOLD by the authors' own Lean function (tested against real Go, not proved from fmt's source: count such statements apart). THE CARD IS WHAT COUNTS. Prove the row's statement (the work); the ties are given (YtmakailcpkogdaaGreatDoorTie.lean); close each card by the builder's one call (the guide's Derived/Test/ToyasCard.lean, 'card_holds'). Laid BY PROGRAM, IN A SANDBOX (cutbox-door.mjs). By AI agents, Wed Nov 11 2026. No macro, syntax, notation, axiom, sorry.
-/
import Derived.Test.YtmakailcpkogdaaGreatDoorRows
import GoSem.ClaimSeven
namespace Go.Proofs.YtmakailcpkogdaaGreatDoor
namespace Rows

/-- THE TIED CARD OF 'recordlinklaw16.EncodeEqual'. -/
def encodeEqualCard : Claim7 := { stood := { row := encodeEqualRow, standIns := [], harness := (true, "2572fc081a092b3e8f883af2bc7fe2f3d6e70fb678b0b48358c326ab32c7ae55"), looks := true }, kinds := [], alts := [], laidByText := true, laidKinds := [.data, .data, .data, .data, .pinned], laidTests := true, laidLooks := .later }
def EncodeEqualCardSaid : Prop := Claim7.holds Tryz.pinned (.plain (OpenSpec.ofChange encodeEqualSpec)) encodeEqualCard

/-- THE TIED CARD OF 'recordlinklaw16.EncodeDepends'. -/
def encodeDependsCard : Claim7 := { stood := { row := encodeDependsRow, standIns := [], harness := (true, "2572fc081a092b3e8f883af2bc7fe2f3d6e70fb678b0b48358c326ab32c7ae55"), looks := true }, kinds := [], alts := [], laidByText := true, laidKinds := [.data, .data, .data, .data, .pinned], laidTests := true, laidLooks := .later }
def EncodeDependsCardSaid : Prop := Claim7.holds Tryz.pinned (.plain (OpenSpec.ofChange encodeDependsSpec)) encodeDependsCard

/-- THE TIED CARD OF 'recordlinklaw16.EncodeSalts'. -/
def encodeSaltsCard : Claim7 := { stood := { row := encodeSaltsRow, standIns := [], harness := (true, "2572fc081a092b3e8f883af2bc7fe2f3d6e70fb678b0b48358c326ab32c7ae55"), looks := true }, kinds := [], alts := [], laidByText := true, laidKinds := [.data, .data, .data, .data, .pinned], laidTests := true, laidLooks := .later }
def EncodeSaltsCardSaid : Prop := Claim7.holds Tryz.pinned (.plain (OpenSpec.ofChange encodeSaltsSpec)) encodeSaltsCard

/-- THE TIED CARD OF 'recordlinklaw20.BlockingAgree'. -/
def blockingAgreeCard : Claim7 := { stood := { row := blockingAgreeRow, standIns := [], harness := (true, "2572fc081a092b3e8f883af2bc7fe2f3d6e70fb678b0b48358c326ab32c7ae55"), looks := true }, kinds := [], alts := [], laidByText := true, laidKinds := [.data, .data, .data, .data, .pinned], laidTests := true, laidLooks := .later }
def BlockingAgreeCardSaid : Prop := Claim7.holds Tryz.pinned (.plain (OpenSpec.ofChange blockingAgreeSpec)) blockingAgreeCard

/-- THE TIED CARD OF 'recordlinklaw20.BlockingOthers'. -/
def blockingOthersCard : Claim7 := { stood := { row := blockingOthersRow, standIns := [], harness := (true, "2572fc081a092b3e8f883af2bc7fe2f3d6e70fb678b0b48358c326ab32c7ae55"), looks := true }, kinds := [], alts := [], laidByText := true, laidKinds := [.data, .data, .data, .data, .pinned], laidTests := true, laidLooks := .later }
def BlockingOthersCardSaid : Prop := Claim7.holds Tryz.pinned (.plain (OpenSpec.ofChange blockingOthersSpec)) blockingOthersCard

/-- THE TIED CARD OF 'recordlinklaw20.BlockingHashes'. -/
def blockingHashesCard : Claim7 := { stood := { row := blockingHashesRow, standIns := [], harness := (true, "2572fc081a092b3e8f883af2bc7fe2f3d6e70fb678b0b48358c326ab32c7ae55"), looks := true }, kinds := [], alts := [], laidByText := true, laidKinds := [.data, .data, .data, .data, .pinned], laidTests := true, laidLooks := .later }
def BlockingHashesCardSaid : Prop := Claim7.holds Tryz.pinned (.plain (OpenSpec.ofChange blockingHashesSpec)) blockingHashesCard

/-- THE TIED CARD OF 'recordlinklaw20.BlockingParts'. -/
def blockingPartsCard : Claim7 := { stood := { row := blockingPartsRow, standIns := [], harness := (true, "2572fc081a092b3e8f883af2bc7fe2f3d6e70fb678b0b48358c326ab32c7ae55"), looks := true }, kinds := [], alts := [], laidByText := true, laidKinds := [.data, .data, .data, .data, .pinned], laidTests := true, laidLooks := .later }
def BlockingPartsCardSaid : Prop := Claim7.holds Tryz.pinned (.plain (OpenSpec.ofChange blockingPartsSpec)) blockingPartsCard

/-- THE TIED CARD OF 'recordlinklaw16.EncodeBack'. -/
def encodeBackCard : Claim7 := { stood := { row := encodeBackRow, standIns := [], harness := (true, "2572fc081a092b3e8f883af2bc7fe2f3d6e70fb678b0b48358c326ab32c7ae55"), looks := true }, kinds := [], alts := [], laidByText := true, laidKinds := [.data, .data, .data, .data, .sentinel, .sentinel, .pinned], laidTests := true, laidLooks := .later }
def EncodeBackCardSaid : Prop := Claim7.holds Tryz.pinned (.plain (OpenSpec.ofChange encodeBackSpec)) encodeBackCard

/-- THE TIED CARD OF 'recordlinklaw13.RecordTorn'. -/
def recordTornCard : Claim7 := { stood := { row := recordTornRow, standIns := [], harness := (true, "2572fc081a092b3e8f883af2bc7fe2f3d6e70fb678b0b48358c326ab32c7ae55"), looks := true }, kinds := [], alts := [], laidByText := true, laidKinds := [.data, .data, .data, .data, .sentinel, .sentinel, .pinned], laidTests := true, laidLooks := .later }
def RecordTornCardSaid : Prop := Claim7.holds Tryz.pinned (.plain (OpenSpec.ofChange recordTornSpec)) recordTornCard

/-- THE TIED CARD OF 'recordlinklaw13.RecordOrder'. -/
def recordOrderCard : Claim7 := { stood := { row := recordOrderRow, standIns := [], harness := (true, "2572fc081a092b3e8f883af2bc7fe2f3d6e70fb678b0b48358c326ab32c7ae55"), looks := true }, kinds := [], alts := [], laidByText := true, laidKinds := [.data, .data, .data, .data, .sentinel, .sentinel, .pinned], laidTests := true, laidLooks := .later }
def RecordOrderCardSaid : Prop := Claim7.holds Tryz.pinned (.plain (OpenSpec.ofChange recordOrderSpec)) recordOrderCard

/-- THE TIED CARD OF 'recordlinklaw13.RecordMakes'. -/
def recordMakesCard : Claim7 := { stood := { row := recordMakesRow, standIns := [], harness := (true, "2572fc081a092b3e8f883af2bc7fe2f3d6e70fb678b0b48358c326ab32c7ae55"), looks := true }, kinds := [], alts := [], laidByText := true, laidKinds := [.data, .data, .data, .data, .sentinel, .sentinel, .pinned], laidTests := true, laidLooks := .later }
def RecordMakesCardSaid : Prop := Claim7.holds Tryz.pinned (.plain (OpenSpec.ofChange recordMakesSpec)) recordMakesCard

/-- THE TIED CARD OF 'recordlinklaw13.RecordBack'. -/
def recordBackCard : Claim7 := { stood := { row := recordBackRow, standIns := [], harness := (true, "2572fc081a092b3e8f883af2bc7fe2f3d6e70fb678b0b48358c326ab32c7ae55"), looks := true }, kinds := [], alts := [], laidByText := true, laidKinds := [.data, .data, .data, .data, .sentinel, .sentinel, .pinned], laidTests := true, laidLooks := .later }
def RecordBackCardSaid : Prop := Claim7.holds Tryz.pinned (.plain (OpenSpec.ofChange recordBackSpec)) recordBackCard

/-- THE SECOND FORM's CARD OF 'recordlinklaw16.EncodeEqual'. -/
def encodeEqualUptoCard : Claim7 := { stood := { row := encodeEqualUptoRow, standIns := [], harness := (true, "2572fc081a092b3e8f883af2bc7fe2f3d6e70fb678b0b48358c326ab32c7ae55"), looks := true }, kinds := [], alts := [], laidByText := true, laidKinds := [.data, .data, .data, .data, .pinned], laidTests := true, laidLooks := .later }
def EncodeEqualUptoCardSaid : Prop := Claim7.holds Tryz.pinned (.plain (OpenSpec.upto encodeEqualSpec)) encodeEqualUptoCard

/-- THE SECOND FORM's CARD OF 'recordlinklaw16.EncodeDepends'. -/
def encodeDependsUptoCard : Claim7 := { stood := { row := encodeDependsUptoRow, standIns := [], harness := (true, "2572fc081a092b3e8f883af2bc7fe2f3d6e70fb678b0b48358c326ab32c7ae55"), looks := true }, kinds := [], alts := [], laidByText := true, laidKinds := [.data, .data, .data, .data, .pinned], laidTests := true, laidLooks := .later }
def EncodeDependsUptoCardSaid : Prop := Claim7.holds Tryz.pinned (.plain (OpenSpec.upto encodeDependsSpec)) encodeDependsUptoCard

/-- THE SECOND FORM's CARD OF 'recordlinklaw16.EncodeSalts'. -/
def encodeSaltsUptoCard : Claim7 := { stood := { row := encodeSaltsUptoRow, standIns := [], harness := (true, "2572fc081a092b3e8f883af2bc7fe2f3d6e70fb678b0b48358c326ab32c7ae55"), looks := true }, kinds := [], alts := [], laidByText := true, laidKinds := [.data, .data, .data, .data, .pinned], laidTests := true, laidLooks := .later }
def EncodeSaltsUptoCardSaid : Prop := Claim7.holds Tryz.pinned (.plain (OpenSpec.upto encodeSaltsSpec)) encodeSaltsUptoCard

/-- THE SECOND FORM's CARD OF 'recordlinklaw20.BlockingAgree'. -/
def blockingAgreeUptoCard : Claim7 := { stood := { row := blockingAgreeUptoRow, standIns := [], harness := (true, "2572fc081a092b3e8f883af2bc7fe2f3d6e70fb678b0b48358c326ab32c7ae55"), looks := true }, kinds := [], alts := [], laidByText := true, laidKinds := [.data, .data, .data, .data, .pinned], laidTests := true, laidLooks := .later }
def BlockingAgreeUptoCardSaid : Prop := Claim7.holds Tryz.pinned (.plain (OpenSpec.upto blockingAgreeSpec)) blockingAgreeUptoCard

/-- THE SECOND FORM's CARD OF 'recordlinklaw20.BlockingOthers'. -/
def blockingOthersUptoCard : Claim7 := { stood := { row := blockingOthersUptoRow, standIns := [], harness := (true, "2572fc081a092b3e8f883af2bc7fe2f3d6e70fb678b0b48358c326ab32c7ae55"), looks := true }, kinds := [], alts := [], laidByText := true, laidKinds := [.data, .data, .data, .data, .pinned], laidTests := true, laidLooks := .later }
def BlockingOthersUptoCardSaid : Prop := Claim7.holds Tryz.pinned (.plain (OpenSpec.upto blockingOthersSpec)) blockingOthersUptoCard

/-- THE SECOND FORM's CARD OF 'recordlinklaw20.BlockingHashes'. -/
def blockingHashesUptoCard : Claim7 := { stood := { row := blockingHashesUptoRow, standIns := [], harness := (true, "2572fc081a092b3e8f883af2bc7fe2f3d6e70fb678b0b48358c326ab32c7ae55"), looks := true }, kinds := [], alts := [], laidByText := true, laidKinds := [.data, .data, .data, .data, .pinned], laidTests := true, laidLooks := .later }
def BlockingHashesUptoCardSaid : Prop := Claim7.holds Tryz.pinned (.plain (OpenSpec.upto blockingHashesSpec)) blockingHashesUptoCard

/-- THE SECOND FORM's CARD OF 'recordlinklaw20.BlockingParts'. -/
def blockingPartsUptoCard : Claim7 := { stood := { row := blockingPartsUptoRow, standIns := [], harness := (true, "2572fc081a092b3e8f883af2bc7fe2f3d6e70fb678b0b48358c326ab32c7ae55"), looks := true }, kinds := [], alts := [], laidByText := true, laidKinds := [.data, .data, .data, .data, .pinned], laidTests := true, laidLooks := .later }
def BlockingPartsUptoCardSaid : Prop := Claim7.holds Tryz.pinned (.plain (OpenSpec.upto blockingPartsSpec)) blockingPartsUptoCard

/-- THE SECOND FORM's CARD OF 'recordlinklaw16.EncodeBack'. -/
def encodeBackUptoCard : Claim7 := { stood := { row := encodeBackUptoRow, standIns := [], harness := (true, "2572fc081a092b3e8f883af2bc7fe2f3d6e70fb678b0b48358c326ab32c7ae55"), looks := true }, kinds := [], alts := [], laidByText := true, laidKinds := [.data, .data, .data, .data, .sentinel, .sentinel, .pinned], laidTests := true, laidLooks := .later }
def EncodeBackUptoCardSaid : Prop := Claim7.holds Tryz.pinned (.plain (OpenSpec.upto encodeBackSpec)) encodeBackUptoCard

/-- THE SECOND FORM's CARD OF 'recordlinklaw13.RecordTorn'. -/
def recordTornUptoCard : Claim7 := { stood := { row := recordTornUptoRow, standIns := [], harness := (true, "2572fc081a092b3e8f883af2bc7fe2f3d6e70fb678b0b48358c326ab32c7ae55"), looks := true }, kinds := [], alts := [], laidByText := true, laidKinds := [.data, .data, .data, .data, .sentinel, .sentinel, .pinned], laidTests := true, laidLooks := .later }
def RecordTornUptoCardSaid : Prop := Claim7.holds Tryz.pinned (.plain (OpenSpec.upto recordTornSpec)) recordTornUptoCard

/-- THE SECOND FORM's CARD OF 'recordlinklaw13.RecordOrder'. -/
def recordOrderUptoCard : Claim7 := { stood := { row := recordOrderUptoRow, standIns := [], harness := (true, "2572fc081a092b3e8f883af2bc7fe2f3d6e70fb678b0b48358c326ab32c7ae55"), looks := true }, kinds := [], alts := [], laidByText := true, laidKinds := [.data, .data, .data, .data, .sentinel, .sentinel, .pinned], laidTests := true, laidLooks := .later }
def RecordOrderUptoCardSaid : Prop := Claim7.holds Tryz.pinned (.plain (OpenSpec.upto recordOrderSpec)) recordOrderUptoCard

/-- THE SECOND FORM's CARD OF 'recordlinklaw13.RecordMakes'. -/
def recordMakesUptoCard : Claim7 := { stood := { row := recordMakesUptoRow, standIns := [], harness := (true, "2572fc081a092b3e8f883af2bc7fe2f3d6e70fb678b0b48358c326ab32c7ae55"), looks := true }, kinds := [], alts := [], laidByText := true, laidKinds := [.data, .data, .data, .data, .sentinel, .sentinel, .pinned], laidTests := true, laidLooks := .later }
def RecordMakesUptoCardSaid : Prop := Claim7.holds Tryz.pinned (.plain (OpenSpec.upto recordMakesSpec)) recordMakesUptoCard

/-- THE SECOND FORM's CARD OF 'recordlinklaw13.RecordBack'. -/
def recordBackUptoCard : Claim7 := { stood := { row := recordBackUptoRow, standIns := [], harness := (true, "2572fc081a092b3e8f883af2bc7fe2f3d6e70fb678b0b48358c326ab32c7ae55"), looks := true }, kinds := [], alts := [], laidByText := true, laidKinds := [.data, .data, .data, .data, .sentinel, .sentinel, .pinned], laidTests := true, laidLooks := .later }
def RecordBackUptoCardSaid : Prop := Claim7.holds Tryz.pinned (.plain (OpenSpec.upto recordBackSpec)) recordBackUptoCard
end Rows
end Go.Proofs.YtmakailcpkogdaaGreatDoor
