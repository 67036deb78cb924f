/-
  No cell of these rows narrows 'for every input' (looked for: loops, veiled, ifaces, maps, wideKeys, modest, calm, conditions, laid).
  DERIVED. THE GIVEN ROWS OF THIS SEAT. 6 by the template 'for every input the law returns true; each argument reads behind the call as it read before'; 0 by the template 'total and deterministic' (their statements: YtbibdpoempjcnaaTotals.lean).
  GIVEN WITH THE SEED: the statements are not yours to turn. If you find one false, say at which input.
  Laid BY PROGRAM, IN A SANDBOX (cutbox-rows.mjs): the forced cells as the released guide's own fill.sh prints them over the translation 2e59f157a926f1dd… (all of the seat's roots in one cut). By AI agents, Wed Nov 11 2026. No macro, syntax, notation, axiom, sorry.
-/
import Derived.Test.YtbibdpoempjcnaaChecked
import GoSem.Claim
import GoSem.ClaimJoined
import GoSem.ClaimMapViews
import Derived.JoinedTies
import Derived.KernelRfl
namespace Go.Proofs.Ytbibdpoempjcnaa
/- THE CELL 'sum', in the pinned program and in every row, IS THE sha256 OF THE DUMP (.gsa) THAT YtbibdpoempjcnaaProg.lean LOADS. Nothing in Lean hashes anything: it is a label: what it is worth is what the hold of that sum in a sandbox is worth. -/
noncomputable def Try.pinned : Pinned := { name := "ytbibdpoempjcnaa", sum := "2e59f157a926f1dd944b15433b33e5b136e6dba6d3c4aaa92c9c6008f99e7f84", checked := Try.checked }
namespace Rows
def none {H : Type} : Left H := { results := [], args := [] }

/-- 'recordlinklaw03.DateAscends': WHATEVER THE INPUT: true; the input reads as it did. -/
def dateAscendsSpec : ChangeSpec := { name := "dateAscends", fn := fun _ => fun
  | [d] => { results := [.lit (.bool true)], args := [d] }
  | _ => none }
def dateAscendsRow : OpenClaim := { program := "ytbibdpoempjcnaa", sum := "2e59f157a926f1dd944b15433b33e5b136e6dba6d3c4aaa92c9c6008f99e7f84", func := "recordlink/recordlinklaw03.DateAscends", spec := "dateAscends", recurses := true, apart := false }
def DateAscendsSaid : Prop := dateAscendsRow.holds Try.pinned (OpenSpec.ofChange dateAscendsSpec)

/-- ITS FALSE NEIGHBOUR: 'it returns false'. Refute it at one input. -/
def dateAscendsWrong : ChangeSpec := { name := "dateAscends", fn := fun _ => fun
  | [d] => { results := [.lit (.bool false)], args := [d] }
  | _ => none }
def DateAscendsWrongFalsely : Prop := dateAscendsRow.holds Try.pinned (OpenSpec.ofChange dateAscendsWrong)

/-- 'recordlinklaw03.DateForms': WHATEVER THE INPUT: true; the input reads as it did. -/
def dateFormsSpec : ChangeSpec := { name := "dateForms", fn := fun _ => fun
  | [d] => { results := [.lit (.bool true)], args := [d] }
  | _ => none }
def dateFormsRow : OpenClaim := { program := "ytbibdpoempjcnaa", sum := "2e59f157a926f1dd944b15433b33e5b136e6dba6d3c4aaa92c9c6008f99e7f84", func := "recordlink/recordlinklaw03.DateForms", spec := "dateForms", recurses := true, apart := false }
def DateFormsSaid : Prop := dateFormsRow.holds Try.pinned (OpenSpec.ofChange dateFormsSpec)

/-- ITS FALSE NEIGHBOUR: 'it returns false'. Refute it at one input. -/
def dateFormsWrong : ChangeSpec := { name := "dateForms", fn := fun _ => fun
  | [d] => { results := [.lit (.bool false)], args := [d] }
  | _ => none }
def DateFormsWrongFalsely : Prop := dateFormsRow.holds Try.pinned (OpenSpec.ofChange dateFormsWrong)

/-- 'recordlinklaw03.DateSwaps': WHATEVER THE INPUT: true; the input reads as it did. -/
def dateSwapsSpec : ChangeSpec := { name := "dateSwaps", fn := fun _ => fun
  | [d] => { results := [.lit (.bool true)], args := [d] }
  | _ => none }
def dateSwapsRow : OpenClaim := { program := "ytbibdpoempjcnaa", sum := "2e59f157a926f1dd944b15433b33e5b136e6dba6d3c4aaa92c9c6008f99e7f84", func := "recordlink/recordlinklaw03.DateSwaps", spec := "dateSwaps", recurses := true, apart := false }
def DateSwapsSaid : Prop := dateSwapsRow.holds Try.pinned (OpenSpec.ofChange dateSwapsSpec)

/-- ITS FALSE NEIGHBOUR: 'it returns false'. Refute it at one input. -/
def dateSwapsWrong : ChangeSpec := { name := "dateSwaps", fn := fun _ => fun
  | [d] => { results := [.lit (.bool false)], args := [d] }
  | _ => none }
def DateSwapsWrongFalsely : Prop := dateSwapsRow.holds Try.pinned (OpenSpec.ofChange dateSwapsWrong)

/-- 'recordlinklaw03.DateBack': WHATEVER THE INPUT: true; the input reads as it did. -/
def dateBackSpec : ChangeSpec := { name := "dateBack", fn := fun _ => fun
  | [d] => { results := [.lit (.bool true)], args := [d] }
  | _ => none }
def dateBackRow : OpenClaim := { program := "ytbibdpoempjcnaa", sum := "2e59f157a926f1dd944b15433b33e5b136e6dba6d3c4aaa92c9c6008f99e7f84", func := "recordlink/recordlinklaw03.DateBack", spec := "dateBack", recurses := true, apart := false }
def DateBackSaid : Prop := dateBackRow.holds Try.pinned (OpenSpec.ofChange dateBackSpec)

/-- ITS FALSE NEIGHBOUR: 'it returns false'. Refute it at one input. -/
def dateBackWrong : ChangeSpec := { name := "dateBack", fn := fun _ => fun
  | [d] => { results := [.lit (.bool false)], args := [d] }
  | _ => none }
def DateBackWrongFalsely : Prop := dateBackRow.holds Try.pinned (OpenSpec.ofChange dateBackWrong)

/-- 'recordlinklaw03.DateAges': WHATEVER THE INPUT: true; the input reads as it did. -/
def dateAgesSpec : ChangeSpec := { name := "dateAges", fn := fun _ => fun
  | [d1, d2] => { results := [.lit (.bool true)], args := [d1, d2] }
  | _ => none }
def dateAgesRow : OpenClaim := { program := "ytbibdpoempjcnaa", sum := "2e59f157a926f1dd944b15433b33e5b136e6dba6d3c4aaa92c9c6008f99e7f84", func := "recordlink/recordlinklaw03.DateAges", spec := "dateAges", recurses := true, apart := false }
def DateAgesSaid : Prop := dateAgesRow.holds Try.pinned (OpenSpec.ofChange dateAgesSpec)

/-- ITS FALSE NEIGHBOUR: 'it returns false'. Refute it at one input. -/
def dateAgesWrong : ChangeSpec := { name := "dateAges", fn := fun _ => fun
  | [d1, d2] => { results := [.lit (.bool false)], args := [d1, d2] }
  | _ => none }
def DateAgesWrongFalsely : Prop := dateAgesRow.holds Try.pinned (OpenSpec.ofChange dateAgesWrong)

/-- 'recordlinklaw03.DateExact': WHATEVER THE INPUT: true; the input reads as it did. -/
def dateExactSpec : ChangeSpec := { name := "dateExact", fn := fun _ => fun
  | [d1, d2, d3, d4, d5] => { results := [.lit (.bool true)], args := [d1, d2, d3, d4, d5] }
  | _ => none }
def dateExactRow : OpenClaim := { program := "ytbibdpoempjcnaa", sum := "2e59f157a926f1dd944b15433b33e5b136e6dba6d3c4aaa92c9c6008f99e7f84", func := "recordlink/recordlinklaw03.DateExact", spec := "dateExact", recurses := true, apart := false }
def DateExactSaid : Prop := dateExactRow.holds Try.pinned (OpenSpec.ofChange dateExactSpec)

/-- ITS FALSE NEIGHBOUR: 'it returns false'. Refute it at one input. -/
def dateExactWrong : ChangeSpec := { name := "dateExact", fn := fun _ => fun
  | [d1, d2, d3, d4, d5] => { results := [.lit (.bool false)], args := [d1, d2, d3, d4, d5] }
  | _ => none }
def DateExactWrongFalsely : Prop := dateExactRow.holds Try.pinned (OpenSpec.ofChange dateExactWrong)

/- THE SECOND FORM. 'bulk': how many values and letters a reading holds, each counted each time it is reached (what is shared counts as often as it is met; a slice's spare places count too). A statement '..UptoSaid' is the law's where the arguments, and the package variables that the reading takes, are together of bulk at most 1048576: NARROWER than '..Said'. Prove '..Said' where nothing that the law and all that it calls make is longer than what came in: it says more and counts as full. Else prove '..UptoSaid'. A law counts once. -/
mutual
def uptoBulk {H : Type} : DataW H → Nat
  | .lit (.string bytes) => bytes.length + 1
  | .lit _ => 1
  | .nil => 1
  | .ptr d => uptoBulk d + 1
  | .slice elems spare => uptoBulkAll elems + uptoBulkAll spare + 1
  | .agg parts => uptoBulkAll parts + 1
  | .iface _ d => uptoBulk d + 1
  | .map entries => uptoBulkEntries entries + 1
  | .held _ => 1
def uptoBulkAll {H : Type} : List (DataW H) → Nat
  | [] => 0
  | d :: r => uptoBulk d + uptoBulkAll r
def uptoBulkEntries {H : Type} : List (Lit × DataW H) → Nat
  | [] => 0
  | x :: r => uptoBulkEntry x + uptoBulkEntries r
def uptoBulkEntry {H : Type} : Lit × DataW H → Nat
  | (.string bytes, d) => bytes.length + uptoBulk d + 1
  | (_, d) => uptoBulk d + 1
 end
def uptoSmall : (H : Type) → List (DataW H) → Bool := fun _ ds => decide (uptoBulkAll ds ≤ 1048576)
def OpenSpec.upto (s : _root_.Go.ChangeSpec) : _root_.Go.OpenSpec := { _root_.Go.OpenSpec.ofChange s with cond := some uptoSmall }

/-- 'recordlinklaw03.DateAscends', WHERE WHAT IT READS IS OF BULK AT MOST 1048576: true; the input reads as it did. -/
def dateAscendsUptoRow : OpenClaim := { program := "ytbibdpoempjcnaa", sum := "2e59f157a926f1dd944b15433b33e5b136e6dba6d3c4aaa92c9c6008f99e7f84", func := "recordlink/recordlinklaw03.DateAscends", spec := "dateAscends", recurses := true, apart := false, narrowed := true }
def DateAscendsUptoSaid : Prop := dateAscendsUptoRow.holds Try.pinned (OpenSpec.upto dateAscendsSpec)

/-- 'recordlinklaw03.DateForms', WHERE WHAT IT READS IS OF BULK AT MOST 1048576: true; the input reads as it did. -/
def dateFormsUptoRow : OpenClaim := { program := "ytbibdpoempjcnaa", sum := "2e59f157a926f1dd944b15433b33e5b136e6dba6d3c4aaa92c9c6008f99e7f84", func := "recordlink/recordlinklaw03.DateForms", spec := "dateForms", recurses := true, apart := false, narrowed := true }
def DateFormsUptoSaid : Prop := dateFormsUptoRow.holds Try.pinned (OpenSpec.upto dateFormsSpec)

/-- 'recordlinklaw03.DateSwaps', WHERE WHAT IT READS IS OF BULK AT MOST 1048576: true; the input reads as it did. -/
def dateSwapsUptoRow : OpenClaim := { program := "ytbibdpoempjcnaa", sum := "2e59f157a926f1dd944b15433b33e5b136e6dba6d3c4aaa92c9c6008f99e7f84", func := "recordlink/recordlinklaw03.DateSwaps", spec := "dateSwaps", recurses := true, apart := false, narrowed := true }
def DateSwapsUptoSaid : Prop := dateSwapsUptoRow.holds Try.pinned (OpenSpec.upto dateSwapsSpec)

/-- 'recordlinklaw03.DateBack', WHERE WHAT IT READS IS OF BULK AT MOST 1048576: true; the input reads as it did. -/
def dateBackUptoRow : OpenClaim := { program := "ytbibdpoempjcnaa", sum := "2e59f157a926f1dd944b15433b33e5b136e6dba6d3c4aaa92c9c6008f99e7f84", func := "recordlink/recordlinklaw03.DateBack", spec := "dateBack", recurses := true, apart := false, narrowed := true }
def DateBackUptoSaid : Prop := dateBackUptoRow.holds Try.pinned (OpenSpec.upto dateBackSpec)

/-- 'recordlinklaw03.DateAges', WHERE WHAT IT READS IS OF BULK AT MOST 1048576: true; the input reads as it did. -/
def dateAgesUptoRow : OpenClaim := { program := "ytbibdpoempjcnaa", sum := "2e59f157a926f1dd944b15433b33e5b136e6dba6d3c4aaa92c9c6008f99e7f84", func := "recordlink/recordlinklaw03.DateAges", spec := "dateAges", recurses := true, apart := false, narrowed := true }
def DateAgesUptoSaid : Prop := dateAgesUptoRow.holds Try.pinned (OpenSpec.upto dateAgesSpec)

/-- 'recordlinklaw03.DateExact', WHERE WHAT IT READS IS OF BULK AT MOST 1048576: true; the input reads as it did. -/
def dateExactUptoRow : OpenClaim := { program := "ytbibdpoempjcnaa", sum := "2e59f157a926f1dd944b15433b33e5b136e6dba6d3c4aaa92c9c6008f99e7f84", func := "recordlink/recordlinklaw03.DateExact", spec := "dateExact", recurses := true, apart := false, narrowed := true }
def DateExactUptoSaid : Prop := dateExactUptoRow.holds Try.pinned (OpenSpec.upto dateExactSpec)

end Rows
end Go.Proofs.Ytbibdpoempjcnaa
