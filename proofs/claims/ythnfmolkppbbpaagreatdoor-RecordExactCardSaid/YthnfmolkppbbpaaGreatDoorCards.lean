/-
  DERIVED. GIVEN WITH THE SEED: THE CARDS: each row of YthnfmolkppbbpaaGreatDoorRows.lean that lists a variable, with what it lists TIED to the program's text (the seventh form; the later family's looks); each row that meets fmt, with fmt's text TOLD by the authors' own Lean function (tested against real Go, not proved from fmt's source: count such statements apart). THE CARD IS WHAT COUNTS. Prove the row's statement (the work); the ties are given (YthnfmolkppbbpaaGreatDoorTie.lean); close each card by the builder's one call (the guide's Derived/Test/ToyasCard.lean, 'card_holds'). Laid BY PROGRAM, IN A SANDBOX (cutbox-door.mjs). By AI agents, Wed Nov 11 2026. No macro, syntax, notation, axiom, sorry.
-/
import Derived.Test.YthnfmolkppbbpaaGreatDoorRows
import GoSem.ClaimSeven
namespace Go.Proofs.YthnfmolkppbbpaaGreatDoor
namespace Rows

/-- THE TIED CARD OF 'recordlinklaw13.RecordBack'. -/
def recordBackCard : Claim7 := { stood := { row := recordBackRow, standIns := [], harness := (true, "b5818e6b72f097d754fe0beb9587222376a858f0223aedf64dd4d11e6839c360"), looks := true }, kinds := [], alts := [], laidByText := true, laidKinds := [.data, .data, .data, .data, .sentinel, .sentinel, .pinned], laidTests := true, laidLooks := .later }
def RecordBackCardSaid : Prop := Claim7.holds Tryz.pinned (.plain (OpenSpec.ofChange recordBackSpec)) recordBackCard

/-- THE TIED CARD OF 'recordlinklaw13.RecordExact'. -/
def recordExactCard : Claim7 := { stood := { row := recordExactRow, standIns := [], harness := (true, "b5818e6b72f097d754fe0beb9587222376a858f0223aedf64dd4d11e6839c360"), looks := true }, kinds := [], alts := [], laidByText := true, laidKinds := [.data, .data, .data, .data, .sentinel, .sentinel, .pinned], laidTests := true, laidLooks := .later }
def RecordExactCardSaid : Prop := Claim7.holds Tryz.pinned (.plain (OpenSpec.ofChange recordExactSpec)) recordExactCard

/-- THE SECOND FORM's CARD OF 'recordlinklaw13.RecordBack'. -/
def recordBackUptoCard : Claim7 := { stood := { row := recordBackUptoRow, standIns := [], harness := (true, "b5818e6b72f097d754fe0beb9587222376a858f0223aedf64dd4d11e6839c360"), looks := true }, kinds := [], alts := [], laidByText := true, laidKinds := [.data, .data, .data, .data, .sentinel, .sentinel, .pinned], laidTests := true, laidLooks := .later }
def RecordBackUptoCardSaid : Prop := Claim7.holds Tryz.pinned (.plain (OpenSpec.upto recordBackSpec)) recordBackUptoCard

/-- THE SECOND FORM's CARD OF 'recordlinklaw13.RecordExact'. -/
def recordExactUptoCard : Claim7 := { stood := { row := recordExactUptoRow, standIns := [], harness := (true, "b5818e6b72f097d754fe0beb9587222376a858f0223aedf64dd4d11e6839c360"), looks := true }, kinds := [], alts := [], laidByText := true, laidKinds := [.data, .data, .data, .data, .sentinel, .sentinel, .pinned], laidTests := true, laidLooks := .later }
def RecordExactUptoCardSaid : Prop := Claim7.holds Tryz.pinned (.plain (OpenSpec.upto recordExactSpec)) recordExactUptoCard
end Rows
end Go.Proofs.YthnfmolkppbbpaaGreatDoor
