/-
  DERIVED. GIVEN WITH THE SEED: THE CARDS: each row of YtoeplomdcannlaaGreatDoorRows.lean that lists a variable, with what it lists TIED to the program's text (the seventh form; the later family's looks); each row that meets fmt, with fmt's text TOLD by the authors' own Lean function (tested against real Go, not proved from fmt's source: count such statements apart). THE CARD IS WHAT COUNTS. Prove the row's statement (the work); the ties are given (YtoeplomdcannlaaGreatDoorTie.lean); close each card by the builder's one call (the guide's Derived/Test/ToyasCard.lean, 'card_holds'). Laid BY PROGRAM, IN A SANDBOX (cutbox-door.mjs). By AI agents, Wed Nov 11 2026. No macro, syntax, notation, axiom, sorry.
-/
import Derived.Test.YtoeplomdcannlaaGreatDoorRows
import GoSem.ClaimSeven
namespace Go.Proofs.YtoeplomdcannlaaGreatDoor
namespace Rows

/-- THE TIED CARD OF 'recordlinklaw16.EncodeBack'. -/
def encodeBackCard : Claim7 := { stood := { row := encodeBackRow, standIns := [], harness := (true, "fd06e8d9efbdfaf3e6a848822f18b97bf9147dcfd9576da2af8147015376fd6a"), looks := true }, kinds := [], alts := [], laidByText := true, laidKinds := [.data, .data, .data, .data, .sentinel, .sentinel, .pinned], laidTests := true, laidLooks := .later }
def EncodeBackCardSaid : Prop := Claim7.holds Tryz.pinned (.plain (OpenSpec.ofChange encodeBackSpec)) encodeBackCard

/-- THE TIED CARD OF 'recordlinklaw13.RecordTorn'. -/
def recordTornCard : Claim7 := { stood := { row := recordTornRow, standIns := [], harness := (true, "fd06e8d9efbdfaf3e6a848822f18b97bf9147dcfd9576da2af8147015376fd6a"), looks := true }, kinds := [], alts := [], laidByText := true, laidKinds := [.data, .data, .data, .data, .sentinel, .sentinel, .pinned], laidTests := true, laidLooks := .later }
def RecordTornCardSaid : Prop := Claim7.holds Tryz.pinned (.plain (OpenSpec.ofChange recordTornSpec)) recordTornCard

/-- THE TIED CARD OF 'recordlinklaw13.RecordDamage'. -/
def recordDamageCard : Claim7 := { stood := { row := recordDamageRow, standIns := [], harness := (true, "fd06e8d9efbdfaf3e6a848822f18b97bf9147dcfd9576da2af8147015376fd6a"), looks := true }, kinds := [], alts := [], laidByText := true, laidKinds := [.data, .data, .data, .data, .sentinel, .sentinel, .pinned], laidTests := true, laidLooks := .later }
def RecordDamageCardSaid : Prop := Claim7.holds Tryz.pinned (.plain (OpenSpec.ofChange recordDamageSpec)) recordDamageCard

/-- THE TIED CARD OF 'recordlinklaw13.RecordBack'. -/
def recordBackCard : Claim7 := { stood := { row := recordBackRow, standIns := [], harness := (true, "fd06e8d9efbdfaf3e6a848822f18b97bf9147dcfd9576da2af8147015376fd6a"), looks := true }, kinds := [], alts := [], laidByText := true, laidKinds := [.data, .data, .data, .data, .sentinel, .sentinel, .pinned], laidTests := true, laidLooks := .later }
def RecordBackCardSaid : Prop := Claim7.holds Tryz.pinned (.plain (OpenSpec.ofChange recordBackSpec)) recordBackCard

/-- THE TIED CARD OF 'recordlinklaw13.RecordExact'. -/
def recordExactCard : Claim7 := { stood := { row := recordExactRow, standIns := [], harness := (true, "fd06e8d9efbdfaf3e6a848822f18b97bf9147dcfd9576da2af8147015376fd6a"), looks := true }, kinds := [], alts := [], laidByText := true, laidKinds := [.data, .data, .data, .data, .sentinel, .sentinel, .pinned], laidTests := true, laidLooks := .later }
def RecordExactCardSaid : Prop := Claim7.holds Tryz.pinned (.plain (OpenSpec.ofChange recordExactSpec)) recordExactCard

/-- THE SECOND FORM's CARD OF 'recordlinklaw16.EncodeBack'. -/
def encodeBackUptoCard : Claim7 := { stood := { row := encodeBackUptoRow, standIns := [], harness := (true, "fd06e8d9efbdfaf3e6a848822f18b97bf9147dcfd9576da2af8147015376fd6a"), looks := true }, kinds := [], alts := [], laidByText := true, laidKinds := [.data, .data, .data, .data, .sentinel, .sentinel, .pinned], laidTests := true, laidLooks := .later }
def EncodeBackUptoCardSaid : Prop := Claim7.holds Tryz.pinned (.plain (OpenSpec.upto encodeBackSpec)) encodeBackUptoCard

/-- THE SECOND FORM's CARD OF 'recordlinklaw13.RecordTorn'. -/
def recordTornUptoCard : Claim7 := { stood := { row := recordTornUptoRow, standIns := [], harness := (true, "fd06e8d9efbdfaf3e6a848822f18b97bf9147dcfd9576da2af8147015376fd6a"), looks := true }, kinds := [], alts := [], laidByText := true, laidKinds := [.data, .data, .data, .data, .sentinel, .sentinel, .pinned], laidTests := true, laidLooks := .later }
def RecordTornUptoCardSaid : Prop := Claim7.holds Tryz.pinned (.plain (OpenSpec.upto recordTornSpec)) recordTornUptoCard

/-- THE SECOND FORM's CARD OF 'recordlinklaw13.RecordDamage'. -/
def recordDamageUptoCard : Claim7 := { stood := { row := recordDamageUptoRow, standIns := [], harness := (true, "fd06e8d9efbdfaf3e6a848822f18b97bf9147dcfd9576da2af8147015376fd6a"), looks := true }, kinds := [], alts := [], laidByText := true, laidKinds := [.data, .data, .data, .data, .sentinel, .sentinel, .pinned], laidTests := true, laidLooks := .later }
def RecordDamageUptoCardSaid : Prop := Claim7.holds Tryz.pinned (.plain (OpenSpec.upto recordDamageSpec)) recordDamageUptoCard

/-- THE SECOND FORM's CARD OF 'recordlinklaw13.RecordBack'. -/
def recordBackUptoCard : Claim7 := { stood := { row := recordBackUptoRow, standIns := [], harness := (true, "fd06e8d9efbdfaf3e6a848822f18b97bf9147dcfd9576da2af8147015376fd6a"), looks := true }, kinds := [], alts := [], laidByText := true, laidKinds := [.data, .data, .data, .data, .sentinel, .sentinel, .pinned], laidTests := true, laidLooks := .later }
def RecordBackUptoCardSaid : Prop := Claim7.holds Tryz.pinned (.plain (OpenSpec.upto recordBackSpec)) recordBackUptoCard

/-- THE SECOND FORM's CARD OF 'recordlinklaw13.RecordExact'. -/
def recordExactUptoCard : Claim7 := { stood := { row := recordExactUptoRow, standIns := [], harness := (true, "fd06e8d9efbdfaf3e6a848822f18b97bf9147dcfd9576da2af8147015376fd6a"), looks := true }, kinds := [], alts := [], laidByText := true, laidKinds := [.data, .data, .data, .data, .sentinel, .sentinel, .pinned], laidTests := true, laidLooks := .later }
def RecordExactUptoCardSaid : Prop := Claim7.holds Tryz.pinned (.plain (OpenSpec.upto recordExactSpec)) recordExactUptoCard
end Rows
end Go.Proofs.YtoeplomdcannlaaGreatDoor
