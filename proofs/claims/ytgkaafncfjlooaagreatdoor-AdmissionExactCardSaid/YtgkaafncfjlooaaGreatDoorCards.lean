/-
  DERIVED. GIVEN WITH THE SEED: THE CARDS: each row of YtgkaafncfjlooaaGreatDoorRows.lean that lists a variable, with what it lists TIED to the program's text (the seventh form; the later family's looks); each row that meets fmt, with fmt's text TOLD by the authors' own Lean function (tested against real Go, not proved from fmt's source: count such statements apart). THE CARD IS WHAT COUNTS. Prove the row's statement (the work); the ties are given (YtgkaafncfjlooaaGreatDoorTie.lean); close each card by the builder's one call (the guide's Derived/Test/ToyasCard.lean, 'card_holds'). Laid BY PROGRAM, IN A SANDBOX (cutbox-door.mjs). By AI agents, Wed Nov 11 2026. No macro, syntax, notation, axiom, sorry.
-/
import Derived.Test.YtgkaafncfjlooaaGreatDoorRows
import GoSem.ClaimSeven
namespace Go.Proofs.YtgkaafncfjlooaaGreatDoor
namespace Rows

/-- THE TIED CARD OF 'recordlinklaw19.AdmissionKeys'. -/
def admissionKeysCard : Claim7 := { stood := { row := admissionKeysRow, standIns := [], harness := (true, "db946e9a8edeec5c864e271e865ef276914d8d5bec4fa080c24e690829a5f5c0"), looks := false }, kinds := [], alts := [], laidByText := true, laidKinds := [.data, .data, .data, .data, .pinned], laidTests := true, laidLooks := .later }
def AdmissionKeysCardSaid : Prop := Claim7.holds Tryz.pinned (.plain (OpenSpec.ofChange admissionKeysSpec)) admissionKeysCard

/-- THE TIED CARD OF 'recordlinklaw19.AdmissionCounts'. -/
def admissionCountsCard : Claim7 := { stood := { row := admissionCountsRow, standIns := [], harness := (true, "db946e9a8edeec5c864e271e865ef276914d8d5bec4fa080c24e690829a5f5c0"), looks := false }, kinds := [], alts := [], laidByText := true, laidKinds := [.data, .data, .data, .data, .pinned], laidTests := true, laidLooks := .later }
def AdmissionCountsCardSaid : Prop := Claim7.holds Tryz.pinned (.plain (OpenSpec.ofChange admissionCountsSpec)) admissionCountsCard

/-- THE TIED CARD OF 'recordlinklaw19.AdmissionExact'. -/
def admissionExactCard : Claim7 := { stood := { row := admissionExactRow, standIns := [], harness := (true, "db946e9a8edeec5c864e271e865ef276914d8d5bec4fa080c24e690829a5f5c0"), looks := false }, kinds := [], alts := [], laidByText := true, laidKinds := [.data, .data, .data, .data, .pinned], laidTests := true, laidLooks := .later }
def AdmissionExactCardSaid : Prop := Claim7.holds Tryz.pinned (.plain (OpenSpec.ofChange admissionExactSpec)) admissionExactCard

/-- THE SECOND FORM's CARD OF 'recordlinklaw19.AdmissionKeys'. -/
def admissionKeysUptoCard : Claim7 := { stood := { row := admissionKeysUptoRow, standIns := [], harness := (true, "db946e9a8edeec5c864e271e865ef276914d8d5bec4fa080c24e690829a5f5c0"), looks := false }, kinds := [], alts := [], laidByText := true, laidKinds := [.data, .data, .data, .data, .pinned], laidTests := true, laidLooks := .later }
def AdmissionKeysUptoCardSaid : Prop := Claim7.holds Tryz.pinned (.plain (OpenSpec.upto admissionKeysSpec)) admissionKeysUptoCard

/-- THE SECOND FORM's CARD OF 'recordlinklaw19.AdmissionCounts'. -/
def admissionCountsUptoCard : Claim7 := { stood := { row := admissionCountsUptoRow, standIns := [], harness := (true, "db946e9a8edeec5c864e271e865ef276914d8d5bec4fa080c24e690829a5f5c0"), looks := false }, kinds := [], alts := [], laidByText := true, laidKinds := [.data, .data, .data, .data, .pinned], laidTests := true, laidLooks := .later }
def AdmissionCountsUptoCardSaid : Prop := Claim7.holds Tryz.pinned (.plain (OpenSpec.upto admissionCountsSpec)) admissionCountsUptoCard

/-- THE SECOND FORM's CARD OF 'recordlinklaw19.AdmissionExact'. -/
def admissionExactUptoCard : Claim7 := { stood := { row := admissionExactUptoRow, standIns := [], harness := (true, "db946e9a8edeec5c864e271e865ef276914d8d5bec4fa080c24e690829a5f5c0"), looks := false }, kinds := [], alts := [], laidByText := true, laidKinds := [.data, .data, .data, .data, .pinned], laidTests := true, laidLooks := .later }
def AdmissionExactUptoCardSaid : Prop := Claim7.holds Tryz.pinned (.plain (OpenSpec.upto admissionExactSpec)) admissionExactUptoCard
end Rows
end Go.Proofs.YtgkaafncfjlooaaGreatDoor
