/-
  DERIVED. GIVEN WITH THE SEED: THE CARDS: each row of YtaoebplnbcimlaaGreatDoorRows.lean that lists a variable, with what it lists TIED to the program's text (the seventh form; the later family's looks); each row that meets fmt, with fmt's text TOLD by the authors' own Lean function (tested against real Go, not proved from fmt's source: count such statements apart). THE CARD IS WHAT COUNTS. Prove the row's statement (the work); the ties are given (YtaoebplnbcimlaaGreatDoorTie.lean); close each card by the builder's one call (the guide's Derived/Test/ToyasCard.lean, 'card_holds'). Laid BY PROGRAM, IN A SANDBOX (cutbox-door.mjs). By AI agents, Wed Nov 11 2026. No macro, syntax, notation, axiom, sorry.
-/
import Derived.Test.YtaoebplnbcimlaaGreatDoorRows
import GoSem.ClaimSeven
namespace Go.Proofs.YtaoebplnbcimlaaGreatDoor
namespace Rows

/-- THE TIED CARD OF 'recordlinklaw20.BlockingExact'. -/
def blockingExactCard : Claim7 := { stood := { row := blockingExactRow, standIns := [], harness := (true, "d677b7ef3bd00c92d57642c3b97524b335bf488b5e487e8a0b4f0c0e93877dca"), looks := true }, kinds := [], alts := [], laidByText := true, laidKinds := [.data, .data, .data, .data, .pinned], laidTests := true, laidLooks := .later }
def BlockingExactCardSaid : Prop := Claim7.holds Tryz.pinned (.plain (OpenSpec.ofChange blockingExactSpec)) blockingExactCard

/-- THE TIED CARD OF 'recordlinklaw16.EncodeExact'. -/
def encodeExactCard : Claim7 := { stood := { row := encodeExactRow, standIns := [], harness := (true, "d677b7ef3bd00c92d57642c3b97524b335bf488b5e487e8a0b4f0c0e93877dca"), looks := true }, kinds := [], alts := [], laidByText := true, laidKinds := [.data, .data, .data, .data, .sentinel, .sentinel, .pinned], laidTests := true, laidLooks := .later }
def EncodeExactCardSaid : Prop := Claim7.holds Tryz.pinned (.plain (OpenSpec.ofChange encodeExactSpec)) encodeExactCard

/-- THE SECOND FORM's CARD OF 'recordlinklaw20.BlockingExact'. -/
def blockingExactUptoCard : Claim7 := { stood := { row := blockingExactUptoRow, standIns := [], harness := (true, "d677b7ef3bd00c92d57642c3b97524b335bf488b5e487e8a0b4f0c0e93877dca"), looks := true }, kinds := [], alts := [], laidByText := true, laidKinds := [.data, .data, .data, .data, .pinned], laidTests := true, laidLooks := .later }
def BlockingExactUptoCardSaid : Prop := Claim7.holds Tryz.pinned (.plain (OpenSpec.upto blockingExactSpec)) blockingExactUptoCard

/-- THE SECOND FORM's CARD OF 'recordlinklaw16.EncodeExact'. -/
def encodeExactUptoCard : Claim7 := { stood := { row := encodeExactUptoRow, standIns := [], harness := (true, "d677b7ef3bd00c92d57642c3b97524b335bf488b5e487e8a0b4f0c0e93877dca"), looks := true }, kinds := [], alts := [], laidByText := true, laidKinds := [.data, .data, .data, .data, .sentinel, .sentinel, .pinned], laidTests := true, laidLooks := .later }
def EncodeExactUptoCardSaid : Prop := Claim7.holds Tryz.pinned (.plain (OpenSpec.upto encodeExactSpec)) encodeExactUptoCard
end Rows
end Go.Proofs.YtaoebplnbcimlaaGreatDoor
