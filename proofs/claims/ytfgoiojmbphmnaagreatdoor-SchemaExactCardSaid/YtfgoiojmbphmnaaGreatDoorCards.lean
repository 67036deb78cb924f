/-
  DERIVED. GIVEN WITH THE SEED: THE CARDS: each row of YtfgoiojmbphmnaaGreatDoorRows.lean that lists a variable, with what it lists TIED to the program's text (the seventh form; the later family's looks); each row that meets fmt, with fmt's text TOLD by the authors' own Lean function (tested against real Go, not proved from fmt's source: count such statements apart). THE CARD IS WHAT COUNTS. Prove the row's statement (the work); the ties are given (YtfgoiojmbphmnaaGreatDoorTie.lean); close each card by the builder's one call (the guide's Derived/Test/ToyasCard.lean, 'card_holds'). Laid BY PROGRAM, IN A SANDBOX (cutbox-door.mjs). By AI agents, Wed Nov 11 2026. No macro, syntax, notation, axiom, sorry.
-/
import Derived.Test.YtfgoiojmbphmnaaGreatDoorRows
import GoSem.ClaimSeven
namespace Go.Proofs.YtfgoiojmbphmnaaGreatDoor
namespace Rows

/-- THE TIED CARD OF 'recordlinklaw12.SchemaNormal'. -/
def schemaNormalCard : Claim7 := { stood := { row := schemaNormalRow, standIns := [], harness := (true, "d80584c64c476ce7af35335222562c676e5987e6d7256348884298adb1664843"), looks := false }, kinds := [], alts := [], laidByText := true, laidKinds := [.data, .pinned], laidTests := true, laidLooks := .later }
def SchemaNormalCardSaid : Prop := Claim7.holds Tryz.pinned (.plain (OpenSpec.ofChange schemaNormalSpec)) schemaNormalCard

/-- THE TIED CARD OF 'recordlinklaw12.SchemaGrams'. -/
def schemaGramsCard : Claim7 := { stood := { row := schemaGramsRow, standIns := [], harness := (true, "d80584c64c476ce7af35335222562c676e5987e6d7256348884298adb1664843"), looks := false }, kinds := [], alts := [], laidByText := true, laidKinds := [.data, .pinned], laidTests := true, laidLooks := .later }
def SchemaGramsCardSaid : Prop := Claim7.holds Tryz.pinned (.plain (OpenSpec.ofChange schemaGramsSpec)) schemaGramsCard

/-- THE TIED CARD OF 'recordlinklaw12.SchemaForms'. -/
def schemaFormsCard : Claim7 := { stood := { row := schemaFormsRow, standIns := [], harness := (true, "d80584c64c476ce7af35335222562c676e5987e6d7256348884298adb1664843"), looks := false }, kinds := [], alts := [], laidByText := true, laidKinds := [.data, .pinned], laidTests := true, laidLooks := .later }
def SchemaFormsCardSaid : Prop := Claim7.holds Tryz.pinned (.plain (OpenSpec.ofChange schemaFormsSpec)) schemaFormsCard

/-- THE TIED CARD OF 'recordlinklaw12.SchemaExact'. -/
def schemaExactCard : Claim7 := { stood := { row := schemaExactRow, standIns := [], harness := (true, "d80584c64c476ce7af35335222562c676e5987e6d7256348884298adb1664843"), looks := false }, kinds := [], alts := [], laidByText := true, laidKinds := [.data, .pinned], laidTests := true, laidLooks := .later }
def SchemaExactCardSaid : Prop := Claim7.holds Tryz.pinned (.plain (OpenSpec.ofChange schemaExactSpec)) schemaExactCard

/-- THE TIED CARD OF 'recordlinklaw12.SchemaBack'. -/
def schemaBackCard : Claim7 := { stood := { row := schemaBackRow, standIns := [], harness := (true, "d80584c64c476ce7af35335222562c676e5987e6d7256348884298adb1664843"), looks := false }, kinds := [], alts := [], laidByText := true, laidKinds := [.data, .pinned], laidTests := true, laidLooks := .later }
def SchemaBackCardSaid : Prop := Claim7.holds Tryz.pinned (.plain (OpenSpec.ofChange schemaBackSpec)) schemaBackCard

/-- THE SECOND FORM's CARD OF 'recordlinklaw12.SchemaNormal'. -/
def schemaNormalUptoCard : Claim7 := { stood := { row := schemaNormalUptoRow, standIns := [], harness := (true, "d80584c64c476ce7af35335222562c676e5987e6d7256348884298adb1664843"), looks := false }, kinds := [], alts := [], laidByText := true, laidKinds := [.data, .pinned], laidTests := true, laidLooks := .later }
def SchemaNormalUptoCardSaid : Prop := Claim7.holds Tryz.pinned (.plain (OpenSpec.upto schemaNormalSpec)) schemaNormalUptoCard

/-- THE SECOND FORM's CARD OF 'recordlinklaw12.SchemaGrams'. -/
def schemaGramsUptoCard : Claim7 := { stood := { row := schemaGramsUptoRow, standIns := [], harness := (true, "d80584c64c476ce7af35335222562c676e5987e6d7256348884298adb1664843"), looks := false }, kinds := [], alts := [], laidByText := true, laidKinds := [.data, .pinned], laidTests := true, laidLooks := .later }
def SchemaGramsUptoCardSaid : Prop := Claim7.holds Tryz.pinned (.plain (OpenSpec.upto schemaGramsSpec)) schemaGramsUptoCard

/-- THE SECOND FORM's CARD OF 'recordlinklaw12.SchemaForms'. -/
def schemaFormsUptoCard : Claim7 := { stood := { row := schemaFormsUptoRow, standIns := [], harness := (true, "d80584c64c476ce7af35335222562c676e5987e6d7256348884298adb1664843"), looks := false }, kinds := [], alts := [], laidByText := true, laidKinds := [.data, .pinned], laidTests := true, laidLooks := .later }
def SchemaFormsUptoCardSaid : Prop := Claim7.holds Tryz.pinned (.plain (OpenSpec.upto schemaFormsSpec)) schemaFormsUptoCard

/-- THE SECOND FORM's CARD OF 'recordlinklaw12.SchemaExact'. -/
def schemaExactUptoCard : Claim7 := { stood := { row := schemaExactUptoRow, standIns := [], harness := (true, "d80584c64c476ce7af35335222562c676e5987e6d7256348884298adb1664843"), looks := false }, kinds := [], alts := [], laidByText := true, laidKinds := [.data, .pinned], laidTests := true, laidLooks := .later }
def SchemaExactUptoCardSaid : Prop := Claim7.holds Tryz.pinned (.plain (OpenSpec.upto schemaExactSpec)) schemaExactUptoCard

/-- THE SECOND FORM's CARD OF 'recordlinklaw12.SchemaBack'. -/
def schemaBackUptoCard : Claim7 := { stood := { row := schemaBackUptoRow, standIns := [], harness := (true, "d80584c64c476ce7af35335222562c676e5987e6d7256348884298adb1664843"), looks := false }, kinds := [], alts := [], laidByText := true, laidKinds := [.data, .pinned], laidTests := true, laidLooks := .later }
def SchemaBackUptoCardSaid : Prop := Claim7.holds Tryz.pinned (.plain (OpenSpec.upto schemaBackSpec)) schemaBackUptoCard
end Rows
end Go.Proofs.YtfgoiojmbphmnaaGreatDoor
