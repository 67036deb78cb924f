/- Parts of one proof: Shelf, TextD, TextE, TextF, NameA, NameB, NameC, NameD, NameE. -/
import Derived.Test.YtfgoiojmbphmnaaGreatDoorPartSchemaBack1
import Derived.Shelf.Strings.Builder1
import Derived.Shelf.Strings.Builder2
import Derived.Shelf.Strings.OnBuilder
import Derived.Shelf.Strings.Trim
import Derived.Shelf.Small.Utf8
import Derived.Shelf.Small.Bits
import Derived.Shelf.Small.Strs
import Derived.Shelf.Strings.BuilderF
import Derived.Shelf.Strings.BuilderK
import Derived.Shelf.Strconv.Itoa0
import Derived.Shelf.Strings.Search1
import Derived.Shelf.Strings.Search2
import Derived.Shelf.Strings.Search3
import Derived.Shelf.Strings.Cut
import Derived.Shelf.Strings.Count
import Derived.Shelf.LaysM
import Derived.Shelf.Strings.Shaped
import Derived.Shelf.Strings.Split
import Derived.Shelf.Strings.SplitShaped
import Derived.Shelf.Unicode.Decode
import Derived.Shelf.Strings.Runes
import Derived.Shelf.Strings.RuneCount
import Derived.Shelf.Strings.AsciiSet
import Derived.Shelf.Strings.Explode
import Derived.Shelf.Unicode.DecodeSlow
import Derived.Shelf.Strings.FieldsFuncAny
import Derived.Shelf.Slices.Turned
import Derived.Ground.SlgfProg
import Derived.Shelf.SlicesE.IndexFunc
import Derived.Test.YtfgoiojmbphmnaaGreatDoorProg
import Derived.Shelf.SlicesQ.IndexFunc
import Derived.Deep.WholeRow
import Derived.Deep.CutBlock
import Derived.Great.BuildSlice
import Derived.WalkLawsBesides
import Derived.Lib.QuietBelow
section
/-
  DERIVED: THE SHELF's CONTRACTS AT THIS DUMP, IN PLAIN WORDS (tools/lay-plain.mjs out of 'TryzShelf.lean', which tools/lay-shelf.mjs wrote): THE SAME DECLARATIONS UNDER THE SAME NAMES: 'import', 'namespace', 'open', 'def', 'theorem' AND NOTHING ELSE: no command of the shelf's: FOR A HAND-IN. Each laying: the table of numbers ('.._ren') and one theorem, a field a fact of the dump's own or the kernel's comparison; each contract: ONE APPLICATION.
-/
namespace Go.Proofs
open Go.Shelf
def Tryz.lays169_ren : Go.Shelf.Ren := ⟨fun | 169 => 70 | n => n, fun | 70 => 92 | 9 => 9 | 0 => 0 | 72 => 94 | 37 => 66 | 127 => 124 | 3 => 3 | 5 => 5 | n => n, fun | n => n⟩
theorem Tryz.lays169 : Go.Proofs.Lays.n169 Tryz.prog Tryz.lays169_ren := {
  mixed := by kernel_rfl
  f169 := Tryz.func70.trans (congrArg some (by kernel_rfl))
  t0 := Tryz.underlying0
  a0 := Tryz.isAgg0
  z0 := Tryz.sizeOf0
  v0 := Tryz.zeroValue0
  t3 := Tryz.underlying3
  a3 := Tryz.isAgg3
  z3 := Tryz.sizeOf3
  v3 := Tryz.zeroValue3
  t9 := Tryz.underlying9
  a9 := Tryz.isAgg9
  z9 := Tryz.sizeOf9
  v9 := Tryz.zeroValue9
  t37 := Tryz.underlying66
  a37 := Tryz.isAgg66
  z37 := Tryz.sizeOf66
  v37 := Tryz.zeroValue66
  t70 := Tryz.underlying92
  a70 := Tryz.isAgg92
  z70 := Tryz.sizeOf92
  v70 := Tryz.zeroValue92
  t72 := Tryz.underlying94
  a72 := Tryz.isAgg94
  z72 := Tryz.sizeOf94
  v72 := Tryz.zeroValue94
  t127 := Tryz.underlying124
  a127 := Tryz.isAgg124
  z127 := Tryz.sizeOf124
  v127 := Tryz.zeroValue124 }
theorem Tryz.Builder_Extra_169 : Builder.Extra Tryz.prog Tryz.lays169_ren := {
  sizeBuilder := by kernel_rfl
  liesBuilder := by kernel_rfl
  t5 := Tryz.underlying5
  a5 := Tryz.isAgg5
  z5 := Tryz.sizeOf5
  v5 := Tryz.zeroValue5
  infoByte := by kernel_rfl
  cellsByte := by kernel_rfl
  sizeByte := by kernel_rfl
  neB5 := by decide }
open Go.RowKit in
/-- (*strings.Builder).String: "String returns the accumulated string.": WHATEVER THE BUILDER HOLDS. (LAID: no walk: one application.) -/
theorem Tryz.Builder_String_any (B b : Nat) (l : List UInt8) (w : World) (h : Lib.IsBuilder 94 5 B b (Lib.byteCells l) w) (hBw : B ≤ w.heap.size) :
    Calls Tryz.prog 70 #[.pointer (some ⟨b, 0, none⟩)] w fun e w' => e = .returned (.string ⟨l.toArray⟩) ∧ Below B w w' := Any.Builder_String_any Tryz.lays169 Tryz.Builder_Extra_169 B b l w h hBw
def Tryz.lays156_ren : Go.Shelf.Ren := ⟨fun | 156 => 102 | 165 => 133 | 166 => 66 | 169 => 70 | 240 => 101 | 241 => 152 | 276 => 132 | 277 => 173 | n => n, fun | 31 => 28 | 9 => 9 | 3 => 3 | 4 => 4 | 0 => 0 | 20 => 20 | 72 => 94 | 76 => 97 | 70 => 92 | 37 => 66 | 75 => 96 | 127 => 124 | 164 => 135 | 5 => 5 | 80 => 43 | n => n, fun | n => n⟩
theorem Tryz.lays156 : Go.Proofs.Lays.n156 Tryz.prog Tryz.lays156_ren := {
  mixed := by kernel_rfl
  f156 := Tryz.func102.trans (congrArg some (by kernel_rfl))
  f165 := Tryz.func133.trans (congrArg some (by kernel_rfl))
  f166 := Tryz.func66.trans (congrArg some (by kernel_rfl))
  f169 := Tryz.func70.trans (congrArg some (by kernel_rfl))
  f240 := Tryz.func101.trans (congrArg some (by kernel_rfl))
  f241 := Tryz.func152.trans (congrArg some (by kernel_rfl))
  f276 := Tryz.func132.trans (congrArg some (by kernel_rfl))
  f277 := Tryz.func173.trans (congrArg some (by kernel_rfl))
  t0 := Tryz.underlying0
  a0 := Tryz.isAgg0
  z0 := Tryz.sizeOf0
  v0 := Tryz.zeroValue0
  t3 := Tryz.underlying3
  a3 := Tryz.isAgg3
  z3 := Tryz.sizeOf3
  v3 := Tryz.zeroValue3
  t4 := Tryz.underlying4
  a4 := Tryz.isAgg4
  z4 := Tryz.sizeOf4
  v4 := Tryz.zeroValue4
  t9 := Tryz.underlying9
  a9 := Tryz.isAgg9
  z9 := Tryz.sizeOf9
  v9 := Tryz.zeroValue9
  t20 := Tryz.underlying20
  a20 := Tryz.isAgg20
  z20 := Tryz.sizeOf20
  v20 := Tryz.zeroValue20
  t31 := Tryz.underlying28
  a31 := Tryz.isAgg28
  z31 := Tryz.sizeOf28
  v31 := Tryz.zeroValue28
  t37 := Tryz.underlying66
  a37 := Tryz.isAgg66
  z37 := Tryz.sizeOf66
  v37 := Tryz.zeroValue66
  t70 := Tryz.underlying92
  a70 := Tryz.isAgg92
  z70 := Tryz.sizeOf92
  v70 := Tryz.zeroValue92
  t72 := Tryz.underlying94
  a72 := Tryz.isAgg94
  z72 := Tryz.sizeOf94
  v72 := Tryz.zeroValue94
  t75 := Tryz.underlying96
  a75 := Tryz.isAgg96
  z75 := Tryz.sizeOf96
  v75 := Tryz.zeroValue96
  t76 := Tryz.underlying97
  a76 := Tryz.isAgg97
  z76 := Tryz.sizeOf97
  v76 := Tryz.zeroValue97
  t127 := Tryz.underlying124
  a127 := Tryz.isAgg124
  z127 := Tryz.sizeOf124
  v127 := Tryz.zeroValue124
  t164 := Tryz.underlying135
  a164 := Tryz.isAgg135
  z164 := Tryz.sizeOf135
  v164 := Tryz.zeroValue135 }
theorem Tryz.Builder_Extra_156 : Builder.Extra Tryz.prog Tryz.lays156_ren := {
  sizeBuilder := by kernel_rfl
  liesBuilder := by kernel_rfl
  t5 := Tryz.underlying5
  a5 := Tryz.isAgg5
  z5 := Tryz.sizeOf5
  v5 := Tryz.zeroValue5
  infoByte := by kernel_rfl
  cellsByte := by kernel_rfl
  sizeByte := by kernel_rfl
  neB5 := by decide }
open Go.RowKit in
/-- No element: the empty string; the world is as it was. (Whatever the slice's address and capacity: a nil slice too.) (LAID: no walk: one application.) -/
theorem Tryz.strings_Join_none (a : Option Addr) (c : Nat) (sep : ByteArray) (w : World) :
    Calls Tryz.prog 102 #[.slice a 0 c, .string sep] w fun e w' => e = .returned (.string ⟨#[]⟩) ∧ w' = w := Any.strings_Join_none Tryz.lays156 Tryz.Builder_Extra_156 a c sep w
open Go.RowKit in
/-- strings.Join: "Join concatenates the elements of its first argument to create a single string. The separator string sep is placed between elements in the resulting string.": HOWEVER MANY ELEMENTS. Below the heap's end the world is as it was. (LAID: no walk: one application.) -/
theorem Tryz.strings_Join (bk o c : Nat) (xs : List ByteArray) (sep : ByteArray) (w : World) (hcells : ∀ (j : Nat) x, xs[j]? = some x → w.cell? ⟨bk, o + j, none⟩ = some (.string x)) (hbk : bk < w.heap.size) (hN : xs.length ≤ 140737488355328) (hcap : xs.length ≤ c) (hlen : (Lib.join (xs.map (·.data.toList)) sep.data.toList).length ≤ 140737488355328) :
    Calls Tryz.prog 102 #[.slice (some ⟨bk, o, none⟩) xs.length c, .string sep] w fun e w' => e = .returned (.string ⟨(Lib.join (xs.map (·.data.toList)) sep.data.toList).toArray⟩) ∧ Below w.heap.size w w' := Any.strings_Join Tryz.lays156 Tryz.Builder_Extra_156 bk o c xs sep w hcells hbk hN hcap hlen
def Tryz.lays161_ren : Go.Shelf.Ren := ⟨fun | 161 => 165 | 231 => 178 | 227 => 179 | 233 => 180 | 235 => 181 | 228 => 188 | 197 => 171 | 151 => 189 | 260 => 184 | 152 => 201 | 137 => 208 | 119 => 209 | 224 => 168 | 225 => 167 | 217 => 166 | 266 => 182 | n => n, fun | 9 => 9 | 4 => 4 | 3 => 3 | 5 => 5 | 117 => 168 | 116 => 167 | 0 => 0 | 124 => 171 | 105 => 158 | 21 => 21 | 119 => 179 | 46 => 74 | 139 => 182 | 138 => 181 | n => n, fun | 3 => 1 | 4 => 2 | n => n⟩
theorem Tryz.lays161 : Go.Proofs.Lays.n161 Tryz.prog Tryz.lays161_ren := {
  mixed := by kernel_rfl
  f119 := Tryz.func209.trans (congrArg some (by kernel_rfl))
  f137 := Tryz.func208.trans (congrArg some (by kernel_rfl))
  f151 := Tryz.func189.trans (congrArg some (by kernel_rfl))
  f152 := Tryz.func201.trans (congrArg some (by kernel_rfl))
  f161 := Tryz.func165.trans (congrArg some (by kernel_rfl))
  f197 := Tryz.func171.trans (congrArg some (by kernel_rfl))
  f217 := Tryz.func166.trans (congrArg some (by kernel_rfl))
  f224 := Tryz.func168.trans (congrArg some (by kernel_rfl))
  f225 := Tryz.func167.trans (congrArg some (by kernel_rfl))
  f227 := Tryz.func179.trans (congrArg some (by kernel_rfl))
  f228 := Tryz.func188.trans (congrArg some (by kernel_rfl))
  f231 := Tryz.func178.trans (congrArg some (by kernel_rfl))
  f233 := Tryz.func180.trans (congrArg some (by kernel_rfl))
  f235 := Tryz.func181.trans (congrArg some (by kernel_rfl))
  f260 := Tryz.func184.trans (congrArg some (by kernel_rfl))
  f266 := Tryz.func182.trans (congrArg some (by kernel_rfl))
  t0 := Tryz.underlying0
  a0 := Tryz.isAgg0
  z0 := Tryz.sizeOf0
  v0 := Tryz.zeroValue0
  t3 := Tryz.underlying3
  a3 := Tryz.isAgg3
  z3 := Tryz.sizeOf3
  v3 := Tryz.zeroValue3
  t4 := Tryz.underlying4
  a4 := Tryz.isAgg4
  z4 := Tryz.sizeOf4
  v4 := Tryz.zeroValue4
  t5 := Tryz.underlying5
  a5 := Tryz.isAgg5
  z5 := Tryz.sizeOf5
  v5 := Tryz.zeroValue5
  t9 := Tryz.underlying9
  a9 := Tryz.isAgg9
  z9 := Tryz.sizeOf9
  v9 := Tryz.zeroValue9
  t21 := Tryz.underlying21
  a21 := Tryz.isAgg21
  z21 := Tryz.sizeOf21
  v21 := Tryz.zeroValue21
  t46 := Tryz.underlying74
  a46 := Tryz.isAgg74
  z46 := Tryz.sizeOf74
  v46 := Tryz.zeroValue74
  t105 := Tryz.underlying158
  a105 := Tryz.isAgg158
  z105 := Tryz.sizeOf158
  v105 := Tryz.zeroValue158
  t116 := Tryz.underlying167
  a116 := Tryz.isAgg167
  z116 := Tryz.sizeOf167
  t117 := Tryz.underlying168
  a117 := Tryz.isAgg168
  z117 := Tryz.sizeOf168
  v117 := Tryz.zeroValue168
  t119 := Tryz.underlying179
  a119 := Tryz.isAgg179
  z119 := Tryz.sizeOf179
  t124 := Tryz.underlying171
  a124 := Tryz.isAgg171
  z124 := Tryz.sizeOf171
  v124 := Tryz.zeroValue171
  t138 := Tryz.underlying181
  a138 := Tryz.isAgg181
  z138 := Tryz.sizeOf181
  v138 := Tryz.zeroValue181
  t139 := Tryz.underlying182
  a139 := Tryz.isAgg182
  z139 := Tryz.sizeOf182
  v139 := Tryz.zeroValue182
  g3 := by kernel_rfl
  g4 := by kernel_rfl }
open Go.RowKit in
/-- strings.TrimLeft: "TrimLeft returns a slice of the string s with all leading Unicode code points contained in cutset removed.": AT A cutset OF ONE ASCII BYTE. The world is as it was. (LAID: no walk: one application.) -/
theorem Tryz.strings_TrimLeft_one (s : ByteArray) (c : UInt8) (hc : c.toNat < 128) (w : World) :
    Calls Tryz.prog 165 #[.string s, .string ⟨#[c]⟩] w fun e w' => e = .returned (.string ⟨(Lib.trimLeftB s.data.toList c).toArray⟩) ∧ w' = w := Any.strings_TrimLeft_one Tryz.lays161 s c hc w
def Tryz.lays125_ren : Go.Shelf.Ren := ⟨fun | 125 => 186 | 128 => 199 | 129 => 200 | n => n, fun | 46 => 74 | 3 => 3 | 51 => 172 | 53 => 69 | 4 => 4 | 5 => 5 | 9 => 9 | n => n, fun | n => n⟩
theorem Tryz.lays125 : Go.Proofs.Lays.n125 Tryz.prog Tryz.lays125_ren := {
  mixed := by kernel_rfl
  f125 := Tryz.func186.trans (congrArg some (by kernel_rfl))
  f128 := Tryz.func199.trans (congrArg some (by kernel_rfl))
  f129 := Tryz.func200.trans (congrArg some (by kernel_rfl))
  t3 := Tryz.underlying3
  a3 := Tryz.isAgg3
  z3 := Tryz.sizeOf3
  v3 := Tryz.zeroValue3
  t4 := Tryz.underlying4
  a4 := Tryz.isAgg4
  z4 := Tryz.sizeOf4
  v4 := Tryz.zeroValue4
  t5 := Tryz.underlying5
  a5 := Tryz.isAgg5
  z5 := Tryz.sizeOf5
  v5 := Tryz.zeroValue5
  t9 := Tryz.underlying9
  a9 := Tryz.isAgg9
  z9 := Tryz.sizeOf9
  v9 := Tryz.zeroValue9
  t46 := Tryz.underlying74
  a46 := Tryz.isAgg74
  z46 := Tryz.sizeOf74
  v46 := Tryz.zeroValue74
  t51 := Tryz.underlying172
  a51 := Tryz.isAgg172
  z51 := Tryz.sizeOf172
  v51 := Tryz.zeroValue172
  t53 := Tryz.underlying69
  a53 := Tryz.isAgg69
  z53 := Tryz.sizeOf69
  v53 := Tryz.zeroValue69 }
/-- bits.Len: "Len returns the minimum number of bits required to represent x; the result is 0 for x == 0.": IT RETURNS 'Lib.bitLen x'; the world is as it was. (A uint has 64 bits in the model.) ITS CALLEE bits.Len64 IS MET BY ITS OWN CONTRACT OFF THE SHELF (lay that first). (LAID: no walk: one application.) -/
theorem Tryz.bits_Len (x : Int) (w : World) (h0 : 0 ≤ x) (h1 : x ≤ 18446744073709551615) :
    Calls Tryz.prog 186 #[.int .u64 x] w fun e w' => e = .returned (.int .i64 (Lib.bitLen x.toNat)) ∧ w' = w := Any.bits_Len Tryz.lays125 x w h0 h1
def Tryz.laysM145_ren : Go.Shelf.Ren := ⟨fun | 145 => 72 | 220 => 117 | 219 => 145 | 217 => 166 | 225 => 167 | 224 => 168 | 267 => 169 | 266 => 182 | 314 => 183 | n => n, fun | 9 => 9 | 4 => 4 | 59 => 105 | 3 => 3 | 5 => 5 | 46 => 74 | 146 => 173 | 51 => 172 | n => n, fun | 1 => 0 | n => n⟩
theorem Tryz.laysM145 : Go.Proofs.LaysM.n145 Tryz.prog Tryz.laysM145_ren := {
  mixed := by kernel_rfl
  f145 := Tryz.func72.trans (congrArg some (by kernel_rfl))
  f217 := Tryz.func166.trans (congrArg some (by kernel_rfl))
  f219 := Tryz.func145.trans (congrArg some (by kernel_rfl))
  f220 := Tryz.func117.trans (congrArg some (by kernel_rfl))
  f224 := Tryz.func168.trans (congrArg some (by kernel_rfl))
  f225 := Tryz.func167.trans (congrArg some (by kernel_rfl))
  f266 := Tryz.func182.trans (congrArg some (by kernel_rfl))
  f267 := Tryz.func169.trans (congrArg some (by kernel_rfl))
  f314 := Tryz.func183.trans (congrArg some (by kernel_rfl))
  t3 := Tryz.underlying3
  a3 := Tryz.isAgg3
  z3 := Tryz.sizeOf3
  v3 := Tryz.zeroValue3
  t4 := Tryz.underlying4
  a4 := Tryz.isAgg4
  z4 := Tryz.sizeOf4
  v4 := Tryz.zeroValue4
  t5 := Tryz.underlying5
  a5 := Tryz.isAgg5
  z5 := Tryz.sizeOf5
  v5 := Tryz.zeroValue5
  t9 := Tryz.underlying9
  a9 := Tryz.isAgg9
  z9 := Tryz.sizeOf9
  v9 := Tryz.zeroValue9
  t46 := Tryz.underlying74
  a46 := Tryz.isAgg74
  z46 := Tryz.sizeOf74
  v46 := Tryz.zeroValue74
  t51 := Tryz.underlying172
  a51 := Tryz.isAgg172
  z51 := Tryz.sizeOf172
  v51 := Tryz.zeroValue172
  t59 := Tryz.underlying105
  a59 := Tryz.isAgg105
  z59 := Tryz.sizeOf105
  v59 := Tryz.zeroValue105
  t146 := Tryz.underlying173
  a146 := Tryz.isAgg173
  z146 := Tryz.sizeOf173
  v146 := Tryz.zeroValue173
  g1 := by kernel_rfl
  i3 := by kernel_rfl
  i4 := by kernel_rfl
  i5 := by kernel_rfl
  i9 := by kernel_rfl
  i46 := by kernel_rfl
  i51 := by kernel_rfl
  i59 := by kernel_rfl
  i146 := by kernel_rfl
  m1 := by kernel_rfl
  s1_3 := fun w h => Go.Proofs.cell_of_shapedOpen_int (zero := #[.int .i64 0]) (t := 3) h (of_decide_eq_true (by kernel_rfl)) (by kernel_rfl) rfl (by kernel_rfl) (by kernel_rfl) Tryz.underlying3 }
open Go.RowKit Go.Lib in
theorem Tryz.strings_Cut_shaped (s sep : ByteArray) (w : World) (h : w.ShapedOpen Tryz.prog) (hs : s.size < 4294967281) :
    Calls Tryz.prog 72 #[.string s, .string sep] w fun e w' => e = .returned (.tuple #[.string ⟨(Lib.cut s.data.toList sep.data.toList).1.toArray⟩, .string ⟨(Lib.cut s.data.toList sep.data.toList).2.1.toArray⟩, .bool (Lib.cut s.data.toList sep.data.toList).2.2]) ∧ ∃ n, w' = w.drewN n := Any.strings_Cut_shaped Tryz.laysM145 s sep w h hs
def Tryz.laysM146_ren : Go.Shelf.Ren := ⟨fun | 146 => 74 | 221 => 123 | 268 => 148 | 138 => 149 | 143 => 150 | 195 => 170 | 197 => 171 | 218 => 172 | 219 => 145 | 260 => 184 | 217 => 166 | 225 => 167 | 224 => 168 | 267 => 169 | 266 => 182 | 314 => 183 | n => n, fun | 9 => 9 | 31 => 28 | 3 => 3 | 4 => 4 | 0 => 0 | 105 => 158 | 21 => 21 | 5 => 5 | 46 => 74 | 119 => 179 | 139 => 182 | 138 => 181 | 146 => 173 | 51 => 172 | n => n, fun | 1 => 0 | 3 => 1 | 4 => 2 | n => n⟩
theorem Tryz.laysM146 : Go.Proofs.LaysM.n146 Tryz.prog Tryz.laysM146_ren := {
  mixed := by kernel_rfl
  f138 := Tryz.func149.trans (congrArg some (by kernel_rfl))
  f143 := Tryz.func150.trans (congrArg some (by kernel_rfl))
  f146 := Tryz.func74.trans (congrArg some (by kernel_rfl))
  f195 := Tryz.func170.trans (congrArg some (by kernel_rfl))
  f197 := Tryz.func171.trans (congrArg some (by kernel_rfl))
  f217 := Tryz.func166.trans (congrArg some (by kernel_rfl))
  f218 := Tryz.func172.trans (congrArg some (by kernel_rfl))
  f219 := Tryz.func145.trans (congrArg some (by kernel_rfl))
  f221 := Tryz.func123.trans (congrArg some (by kernel_rfl))
  f224 := Tryz.func168.trans (congrArg some (by kernel_rfl))
  f225 := Tryz.func167.trans (congrArg some (by kernel_rfl))
  f260 := Tryz.func184.trans (congrArg some (by kernel_rfl))
  f266 := Tryz.func182.trans (congrArg some (by kernel_rfl))
  f267 := Tryz.func169.trans (congrArg some (by kernel_rfl))
  f268 := Tryz.func148.trans (congrArg some (by kernel_rfl))
  f314 := Tryz.func183.trans (congrArg some (by kernel_rfl))
  t0 := Tryz.underlying0
  a0 := Tryz.isAgg0
  z0 := Tryz.sizeOf0
  v0 := Tryz.zeroValue0
  t3 := Tryz.underlying3
  a3 := Tryz.isAgg3
  z3 := Tryz.sizeOf3
  v3 := Tryz.zeroValue3
  t4 := Tryz.underlying4
  a4 := Tryz.isAgg4
  z4 := Tryz.sizeOf4
  v4 := Tryz.zeroValue4
  t5 := Tryz.underlying5
  a5 := Tryz.isAgg5
  z5 := Tryz.sizeOf5
  v5 := Tryz.zeroValue5
  t9 := Tryz.underlying9
  a9 := Tryz.isAgg9
  z9 := Tryz.sizeOf9
  v9 := Tryz.zeroValue9
  t21 := Tryz.underlying21
  a21 := Tryz.isAgg21
  z21 := Tryz.sizeOf21
  v21 := Tryz.zeroValue21
  t31 := Tryz.underlying28
  a31 := Tryz.isAgg28
  z31 := Tryz.sizeOf28
  v31 := Tryz.zeroValue28
  t46 := Tryz.underlying74
  a46 := Tryz.isAgg74
  z46 := Tryz.sizeOf74
  v46 := Tryz.zeroValue74
  t51 := Tryz.underlying172
  a51 := Tryz.isAgg172
  z51 := Tryz.sizeOf172
  v51 := Tryz.zeroValue172
  t105 := Tryz.underlying158
  a105 := Tryz.isAgg158
  z105 := Tryz.sizeOf158
  v105 := Tryz.zeroValue158
  t119 := Tryz.underlying179
  a119 := Tryz.isAgg179
  z119 := Tryz.sizeOf179
  t138 := Tryz.underlying181
  a138 := Tryz.isAgg181
  z138 := Tryz.sizeOf181
  v138 := Tryz.zeroValue181
  t139 := Tryz.underlying182
  a139 := Tryz.isAgg182
  z139 := Tryz.sizeOf182
  v139 := Tryz.zeroValue182
  t146 := Tryz.underlying173
  a146 := Tryz.isAgg173
  z146 := Tryz.sizeOf173
  v146 := Tryz.zeroValue173
  g1 := by kernel_rfl
  g3 := by kernel_rfl
  g4 := by kernel_rfl
  i0 := by kernel_rfl
  i3 := by kernel_rfl
  i4 := by kernel_rfl
  i5 := by kernel_rfl
  i9 := by kernel_rfl
  i21 := by kernel_rfl
  i31 := by kernel_rfl
  i46 := by kernel_rfl
  i51 := by kernel_rfl
  i105 := by kernel_rfl
  i138 := by kernel_rfl
  i139 := by kernel_rfl
  i146 := by kernel_rfl
  m1 := by kernel_rfl
  s1_3 := fun w h => Go.Proofs.cell_of_shapedOpen_int (zero := #[.int .i64 0]) (t := 3) h (of_decide_eq_true (by kernel_rfl)) (by kernel_rfl) rfl (by kernel_rfl) (by kernel_rfl) Tryz.underlying3
  m3 := by kernel_rfl
  m4 := by kernel_rfl }
open Go.RowKit Go.Lib in
/-- strings.Split, sep not empty. (LAID: no walk: one application.) -/
theorem Tryz.strings_Split_shaped (s sep : ByteArray) (w : World) (h : w.ShapedOpen Tryz.prog) (hs : s.size < 4294967281) (h1 : 1 ≤ sep.size) :
    Calls Tryz.prog 74 #[.string s, .string sep] w fun e w' =>
      e = .returned (.slice (some ⟨w.heap.size, 0, none⟩) (Lib.countB s sep + 1) (Lib.countB s sep + 1)) ∧ w' = w.alloc (.cells ((Lib.splitB sep 0 (Lib.countB s sep) s).map Value.string).toArray 9) := Any.strings_Split_shaped Tryz.laysM146 s sep w h hs h1
def Tryz.lays229_ren : Go.Shelf.Ren := ⟨fun | 229 => 157 | n => n, fun | 9 => 9 | 40 => 148 | 31 => 28 | 152 => 161 | 3 => 3 | 0 => 0 | 4 => 4 | 21 => 21 | 154 => 163 | n => n, fun | n => n⟩
theorem Tryz.lays229 : Go.Proofs.Lays.n229 Tryz.prog Tryz.lays229_ren := {
  mixed := by kernel_rfl
  f229 := Tryz.func157.trans (congrArg some (by kernel_rfl))
  t0 := Tryz.underlying0
  a0 := Tryz.isAgg0
  z0 := Tryz.sizeOf0
  v0 := Tryz.zeroValue0
  t3 := Tryz.underlying3
  a3 := Tryz.isAgg3
  z3 := Tryz.sizeOf3
  v3 := Tryz.zeroValue3
  t4 := Tryz.underlying4
  a4 := Tryz.isAgg4
  z4 := Tryz.sizeOf4
  v4 := Tryz.zeroValue4
  t9 := Tryz.underlying9
  a9 := Tryz.isAgg9
  z9 := Tryz.sizeOf9
  v9 := Tryz.zeroValue9
  t21 := Tryz.underlying21
  a21 := Tryz.isAgg21
  z21 := Tryz.sizeOf21
  v21 := Tryz.zeroValue21
  t31 := Tryz.underlying28
  a31 := Tryz.isAgg28
  z31 := Tryz.sizeOf28
  v31 := Tryz.zeroValue28
  t40 := Tryz.underlying148
  a40 := Tryz.isAgg148
  z40 := Tryz.sizeOf148
  v40 := Tryz.zeroValue148
  t152 := Tryz.underlying161
  a152 := Tryz.isAgg161
  z152 := Tryz.sizeOf161
  v152 := Tryz.zeroValue161
  t154 := Tryz.underlying163
  a154 := Tryz.isAgg163
  z154 := Tryz.sizeOf163
  v154 := Tryz.zeroValue163 }
open Go.RowKit Go.Lib in
/-- .. over a hand of the authors' house's premise as it stands. (LAID: no walk: one application.) -/
theorem Tryz.strings_FieldsFunc (g : Nat) (lb : Array Value) (eg : ∀ args w, (callFunc g args).run Tryz.prog w = .ok (.enter g args) w) (p : Nat → Bool) (s : ByteArray) (w : World) (hs : s.size ≤ 4294967296) (hp : PredAt Tryz.prog g lb encR p w) :
    Calls Tryz.prog 157 #[.string s, .func (.func g) #[] lb] w fun e w' => ∃ A, e = .returned (.slice (some ⟨A, 0, none⟩) (Lib.goFieldsP p s).length (Lib.goFieldsP p s).length) ∧ w.heap.size ≤ A ∧
      w'.ownsRow w.heap.size 9 1 (.slice (some ⟨A, 0, none⟩) (Lib.goFieldsP p s).length (Lib.goFieldsP p s).length) (Lib.goFieldsP p s).length ((Lib.goFieldsP p s).map Value.string) ∧ Below w.heap.size w w' := Any.strings_FieldsFunc Tryz.lays229 g lb eg p s w hs hp (by kernel_rfl) (by kernel_rfl)
def Tryz.lays110_ren : Go.Shelf.Ren := ⟨fun | 110 => 118 | 109 => 146 | n => n, fun | 31 => 28 | 9 => 9 | 4 => 4 | 3 => 3 | 0 => 0 | n => n, fun | n => n⟩
theorem Tryz.lays110 : Go.Proofs.Lays.n110 Tryz.prog Tryz.lays110_ren := {
  mixed := by kernel_rfl
  f109 := Tryz.func146.trans (congrArg some (by kernel_rfl))
  f110 := Tryz.func118.trans (congrArg some (by kernel_rfl))
  t0 := Tryz.underlying0
  a0 := Tryz.isAgg0
  z0 := Tryz.sizeOf0
  v0 := Tryz.zeroValue0
  t3 := Tryz.underlying3
  a3 := Tryz.isAgg3
  z3 := Tryz.sizeOf3
  v3 := Tryz.zeroValue3
  t4 := Tryz.underlying4
  a4 := Tryz.isAgg4
  z4 := Tryz.sizeOf4
  v4 := Tryz.zeroValue4
  t9 := Tryz.underlying9
  a9 := Tryz.isAgg9
  z9 := Tryz.sizeOf9
  v9 := Tryz.zeroValue9
  t31 := Tryz.underlying28
  a31 := Tryz.isAgg28
  z31 := Tryz.sizeOf28
  v31 := Tryz.zeroValue28 }
open Go.Lib in
/-- slices.Contains at []string: "Contains reports whether v is present in s.": IT RETURNS 'Lib.containsS (the elements) v', which is true just where v is among them ('Lib.containsS_iff'); the world is as it was. ITS CALLEE slices.Index IS MET BY ITS OWN CONTRACT OFF THE SHELF (lay that first): no loop is walked here. (LAID: no walk: one application.) -/
theorem Tryz.slices_Contains_string (b off n c : Nat) (zs : List ByteArray) (x : ByteArray) (w : World) (hz : n ≤ zs.length) (hbig : n ≤ 9223372036854775807) (hc : ∀ j, j < zs.length → w.cell? ⟨b, off + j, none⟩ = some (.string (zs.getD j ByteArray.empty))) :
    Calls Tryz.prog 118 #[.slice (some ⟨b, off, none⟩) n c, .string x] w fun e w' => e = .returned (.bool (Lib.containsS (zs.take n) x)) ∧ w' = w := Any.slices_Contains_string Tryz.lays110 b off n c zs x w hz hbig hc
open Go.Lib in
/-- The same at a slice of length 0, a nil one too. (LAID: no walk: one application.) -/
theorem Tryz.slices_Contains_string_empty (a : Option Addr) (c : Nat) (x : ByteArray) (w : World) :
    Calls Tryz.prog 118 #[.slice a 0 c, .string x] w fun e w' => e = .returned (.bool false) ∧ w' = w := Any.slices_Contains_string_empty Tryz.lays110 a c x w
def Tryz.laysSlH6_f119_ren : Go.Shelf.Ren := ⟨fun | 6 => 119 | n => n, fun | 22 => 28 | 23 => 9 | 25 => 64 | 3 => 3 | 0 => 0 | 4 => 4 | n => n, fun | n => n⟩
theorem Tryz.laysSlH6_f119 : Go.Proofs.SlLaysH.n6 Tryz.prog Tryz.laysSlH6_f119_ren := {
  mixed := by kernel_rfl
  f6 := ⟨Tryz.f119.name, by decide, Tryz.func119.trans (congrArg some (by kernel_rfl))⟩
  t0 := Tryz.underlying0
  a0 := Tryz.isAgg0
  z0 := Tryz.sizeOf0
  v0 := Tryz.zeroValue0
  t3 := Tryz.underlying3
  a3 := Tryz.isAgg3
  z3 := Tryz.sizeOf3
  v3 := Tryz.zeroValue3
  t4 := Tryz.underlying4
  a4 := Tryz.isAgg4
  z4 := Tryz.sizeOf4
  v4 := Tryz.zeroValue4
  t22 := Tryz.underlying28
  a22 := Tryz.isAgg28
  z22 := Tryz.sizeOf28
  v22 := Tryz.zeroValue28
  a23 := Tryz.isAgg9
  z23 := Tryz.sizeOf9
  t25 := Tryz.underlying64
  a25 := Tryz.isAgg64
  z25 := Tryz.sizeOf64
  v25 := Tryz.zeroValue64 }
open Go.RowKit Go.Lib in
/-- slices.IndexFunc: "IndexFunc returns the first index i satisfying f(s[i]), or -1 if none do." (LAID AT THE INSTANCE 'slices.IndexFunc[[]string,string]': no walk: one application.) -/
theorem Tryz.slices_IndexFunc {α : Type} [Inhabited α] (enc : α → Value) (p : α → Bool) (g : Nat) (lb : Array Value) (eg : ∀ args w, (callFunc g args).run Tryz.prog w = .ok (.enter g args) w) (b off n c : Nat) (zs : List α) (w : World) (hp : PredAt Tryz.prog g lb enc p w) (hz : n ≤ zs.length) (hbig : n ≤ 9223372036854775807) (hc : ∀ j, j < zs.length → w.cell? ⟨b, off + j, none⟩ = some (enc zs[j]!)) :
    Calls Tryz.prog 119 #[.slice (some ⟨b, off, none⟩) n c, .func (.func g) #[] lb] w fun e w' => e = .returned (.int .i64 (Lib.idxBy (fun _ y => p y) (zs.take n) default)) ∧ ∃ q, w' = w.drewN q := AnyE.slices_IndexFunc Tryz.laysSlH6_f119 enc p g lb eg b off n c zs w hp hz hbig hc
open Go.RowKit Go.Lib in
/-- The same at a slice of length 0, a nil one too: the predicate is not called: nothing is asked of it. (LAID AT THE INSTANCE 'slices.IndexFunc[[]string,string]': no walk: one application.) -/
theorem Tryz.slices_IndexFunc_empty {α : Type} [Inhabited α] (a : Option Addr) (c : Nat) (fv : Value) (w : World) :
    Calls Tryz.prog 119 #[.slice a 0 c, fv] w fun e w' => e = .returned (.int .i64 (-1)) ∧ w' = w := AnyE.slices_IndexFunc_empty Tryz.laysSlH6_f119 a c fv w
def Tryz.laysCF_ren : Go.Shelf.Ren := ⟨fun | 8 => 50 | 6 => 81 | n => n, fun | 22 => 27 | 23 => 42 | 25 => 86 | 4 => 4 | 3 => 3 | 0 => 0 | n => n, fun | n => n⟩
theorem Tryz.laysCF : Go.Proofs.SlLaysH0.n8 Tryz.prog Tryz.laysCF_ren := {
  mixed := by kernel_rfl
  f6 := ⟨Tryz.f81.name, by decide, Tryz.func81.trans (congrArg some (by kernel_rfl))⟩
  f8 := ⟨Tryz.f50.name, by decide, Tryz.func50.trans (congrArg some (by kernel_rfl))⟩
  t0 := Tryz.underlying0
  a0 := Tryz.isAgg0
  z0 := Tryz.sizeOf0
  v0 := Tryz.zeroValue0
  t3 := Tryz.underlying3
  a3 := Tryz.isAgg3
  z3 := Tryz.sizeOf3
  v3 := Tryz.zeroValue3
  t4 := Tryz.underlying4
  a4 := Tryz.isAgg4
  z4 := Tryz.sizeOf4
  v4 := Tryz.zeroValue4
  t22 := Tryz.underlying27
  a22 := Tryz.isAgg27
  z22 := Tryz.sizeOf27
  v22 := Tryz.zeroValue27
  t25 := Tryz.underlying86
  a25 := Tryz.isAgg86
  z25 := Tryz.sizeOf86
  v25 := Tryz.zeroValue86 }
def Tryz.laysCP_ren : Go.Shelf.Ren := ⟨fun | 8 => 84 | 6 => 127 | n => n, fun | 22 => 29 | 23 => 83 | 25 => 115 | 4 => 4 | 3 => 3 | 0 => 0 | n => n, fun | n => n⟩
theorem Tryz.laysCP : Go.Proofs.SlLaysH0.n8 Tryz.prog Tryz.laysCP_ren := {
  mixed := by kernel_rfl
  f6 := ⟨Tryz.f127.name, by decide, Tryz.func127.trans (congrArg some (by kernel_rfl))⟩
  f8 := ⟨Tryz.f84.name, by decide, Tryz.func84.trans (congrArg some (by kernel_rfl))⟩
  t0 := Tryz.underlying0
  a0 := Tryz.isAgg0
  z0 := Tryz.sizeOf0
  v0 := Tryz.zeroValue0
  t3 := Tryz.underlying3
  a3 := Tryz.isAgg3
  z3 := Tryz.sizeOf3
  v3 := Tryz.zeroValue3
  t4 := Tryz.underlying4
  a4 := Tryz.isAgg4
  z4 := Tryz.sizeOf4
  v4 := Tryz.zeroValue4
  t22 := Tryz.underlying29
  a22 := Tryz.isAgg29
  z22 := Tryz.sizeOf29
  v22 := Tryz.zeroValue29
  t25 := Tryz.underlying115
  a25 := Tryz.isAgg115
  z25 := Tryz.sizeOf115
  v25 := Tryz.zeroValue115 }
def Tryz.laysIP_ren : Go.Shelf.Ren := ⟨fun | 6 => 127 | n => n, fun | 22 => 29 | 23 => 83 | 25 => 115 | 3 => 3 | 0 => 0 | 4 => 4 | n => n, fun | n => n⟩
theorem Tryz.laysIP : Go.Proofs.SlLaysH0.n6 Tryz.prog Tryz.laysIP_ren := {
  mixed := by kernel_rfl
  f6 := ⟨Tryz.f127.name, by decide, Tryz.func127.trans (congrArg some (by kernel_rfl))⟩
  t0 := Tryz.underlying0
  a0 := Tryz.isAgg0
  z0 := Tryz.sizeOf0
  v0 := Tryz.zeroValue0
  t3 := Tryz.underlying3
  a3 := Tryz.isAgg3
  z3 := Tryz.sizeOf3
  v3 := Tryz.zeroValue3
  t4 := Tryz.underlying4
  a4 := Tryz.isAgg4
  z4 := Tryz.sizeOf4
  v4 := Tryz.zeroValue4
  t22 := Tryz.underlying29
  a22 := Tryz.isAgg29
  z22 := Tryz.sizeOf29
  v22 := Tryz.zeroValue29
  t25 := Tryz.underlying115
  a25 := Tryz.isAgg115
  z25 := Tryz.sizeOf115
  v25 := Tryz.zeroValue115 }
end Go.Proofs
end
section
/- text: the table of replacements, the Builder's writes, tokens, joins. -/
set_option linter.unusedSimpArgs false
set_option linter.unusedVariables false
set_option maxRecDepth 100000
namespace Go.Proofs.YtfgoiojmbphmnaaGreatDoor
open Go.RowKit
def tblV : Array Value := (replT.map strV).toArray
set_option maxHeartbeats 1000000 in
theorem repl_any (w : World) :
    Calls Tryz.prog 154 #[] w fun e w' => e = .returned (.agg tblV) ∧ Below w.heap.size w w' := by
  go_enter Tryz.func154, Tryz.ntmps154
  go_upto_region 1 with (fail)
  rename_i hK
  refine wp_region_list ?_
  refine wpList_buildTo rfl 144 _ rfl (some 1) rfl tblV (by kernel_rfl) ?_
  refine wpList_store_row rfl 144 _ _ rfl w.heap.size tblV rfl rfl 144 _ (heap_alloc_new w _) (by kernel_rfl) (by kernel_rfl) (by kernel_rfl) ?_
  refine wpList_nil ?_
  rw [World.setRow_alloc_new]
  refine hK _ _ ?_
  go_wp2_with fail
  exact bodyPost_row1 rfl rfl (heap_alloc_new w _) Tryz.underlying144 rfl (by kernel_rfl) ⟨rfl, (Below.refl _ _).alloc (Nat.le_refl _) _⟩
theorem wstr_any (B b : Nat) (bs : List Value) (s : ByteArray) (w : World) (h : Lib.IsBuilder 94 5 B b bs w) (hlen : bs.length + s.size ≤ 140737488355328) (hBw : B ≤ w.heap.size) :
    Calls Tryz.prog 66 #[.pointer (some ⟨b, 0, none⟩), .string s] w fun e w' => e = .returned (.tuple #[.int .i64 s.size, .nilIface]) ∧ (Lib.BuilderAt 94 5 B b (.pointer (some ⟨b, 0, none⟩)) (bs ++ Lib.strCells s) w' ∧ Below B w w') :=
  Any.Builder_WriteString { Tryz.lays156 with } Tryz.Builder_Extra_156 B b bs s w h hlen hBw
theorem bstr_any (B b : Nat) (l : List UInt8) (w : World) (h : Lib.IsBuilder 94 5 B b (Lib.byteCells l) w) (hBw : B ≤ w.heap.size) :
    Calls Tryz.prog 70 #[.pointer (some ⟨b, 0, none⟩)] w fun e w' => e = .returned (.string ⟨l.toArray⟩) ∧ Below B w w' := Tryz.Builder_String_any B b l w h hBw
theorem tok_pred (w : World) : PredAt Tryz.prog 158 #[] encR isSp w := fun W r _ => by
  unfold FnGives
  have e : isSp r = ((r : Int) == 32) := by unfold isSp; rw [Bool.eq_iff_iff]; simp; omega
  have E := Lib.hid e; clear e
  go_enter Tryz.func158, Tryz.ntmps158
  go_wp2
  go_ret
  exact ⟨ret_bool E.out.symm, 0, rfl⟩
/-- the cells of a text in a slice of texts -/
abbrev encS (l : List UInt8) : List Value := [strV l]
def StrsPost (L : List (List UInt8)) (w : World) (e : Ending) (w' : World) : Prop := ∃ A, e = .returned (.slice (some ⟨A, 0, none⟩) L.length L.length) ∧ w.heap.size ≤ A ∧ w'.ownsRow w.heap.size 9 1 (.slice (some ⟨A, 0, none⟩) L.length L.length) L.length (L.flatMap encS) ∧ Below w.heap.size w w'
theorem flat_str (L : List (List UInt8)) : (L.map mkS).map Value.string = L.flatMap encS := by
  induction L with
  | nil => rfl
  | cons a L ih => simp only [List.map_cons, List.flatMap_cons, ih]; rfl
set_option maxHeartbeats 400000 in
theorem tokens_any (l : List UInt8) (w : World) (h : ascii l) (hl : l.length ≤ 1000000) :
    Calls Tryz.prog 135 #[strV l] w (StrsPost (toks l) w) := by
  have hsz : (mkS l).size = l.length := by simp [mkS, ByteArray.size]
  have hc := Lib.hid (Tryz.strings_FieldsFunc 158 #[] (enters_of Tryz.func158 (by kernel_rfl) rfl) isSp (mkS l) w (by omega) (tok_pred w))
  go_enter Tryz.func135, Tryz.ntmps135
  go_wp2_with fail
  refine hc.out.mono ?_
  rintro e w1 ⟨A, rfl, hA, ho, hb⟩
  rw [fields_toks l h, List.length_map] at *
  have HO := Lib.hid ho; clear ho
  go_wp2_with fail
  go_ret
  exact ⟨A, rfl, hA, by rw [← flat_str]; exact HO.out, hb⟩
set_option maxHeartbeats 400000 in
/-- the texts of a slice, joined by single spaces -/
theorem join_any (S : Nat → Prop) (v : Value) (L : List (List UInt8)) (w : World) (h : Vec w S 1 encS v L) (hn : L.length ≤ 1000000) (hj : (joinL L).length ≤ 1000000000) :
    Calls Tryz.prog 67 #[v] w fun e w' => e = .returned (strV (joinL L)) ∧ Below w.heap.size w w' := by
  obtain ⟨a, cap, rfl, hcap, h0⟩ := h
  have hjj : Lib.join ((L.map mkS).map (·.data.toList)) [32] = joinL L := by
    rw [List.map_map, ← join_toks]; congr 1; conv => rhs; rw [← List.map_id L]
    exact List.map_congr_left fun x _ => by simp [mkS]
  have key : Calls Tryz.prog 102 #[.slice a L.length cap, .string ⟨#[32]⟩] w fun e w' => e = .returned (strV (joinL L)) ∧ Below w.heap.size w w' := by
    by_cases hz : L = []
    · subst hz
      exact (Tryz.strings_Join_none a cap ⟨#[32]⟩ w).mono fun e w' ⟨he, hw⟩ => ⟨he, by rw [hw]; exact Below.refl _ _⟩
    · obtain ⟨b, off, rfl, _, hb, hc⟩ := h0 (List.length_pos_iff.2 hz)
      have := Tryz.strings_Join b off cap (L.map mkS) ⟨#[32]⟩ w (fun j x hx => by
        rw [List.getElem?_map] at hx
        obtain ⟨y, hy, rfl⟩ := Option.map_eq_some_iff.1 hx
        have := hc j y hy 0 _ rfl
        simpa [mkS] using this) hb (by simp; omega) (by simpa using hcap) (by rw [show (⟨#[32]⟩ : ByteArray).data.toList = [32] from rfl, hjj]; omega)
      rw [show (⟨#[32]⟩ : ByteArray).data.toList = [32] from rfl, hjj, List.length_map] at this
      exact this
  have KEY := Lib.hid key
  clear key hjj h0
  go_enter Tryz.func67, Tryz.ntmps67
  go_wp2_with fail
  refine KEY.out.mono ?_
  rintro e w1 ⟨rfl, hb⟩
  go_wp2_with fail
  go_ret
  exact ⟨rfl, hb⟩
end Go.Proofs.YtfgoiojmbphmnaaGreatDoor
end
section
/- text: folding. -/
set_option linter.unusedSimpArgs false
set_option linter.unusedVariables false
set_option maxRecDepth 100000
namespace Go.Proofs.YtfgoiojmbphmnaaGreatDoor
open Go.RowKit
/-- a byte of a folded text -/
def okB (b : UInt8) : Bool := isLow b || isDgt b || b == 32
theorem replT_ok : (replT.all fun x => x.all okB && decide (x.length ≤ 2)) = true := by decide
theorem replB_get (n : Nat) (h : n < 64) : replT[n]? = some (replT.getD n []) := by
  have : n < replT.length := h
  rw [List.getElem?_eq_getElem this]; simp [List.getD, List.getElem?_eq_getElem this]
theorem replB_ok (b : UInt8) : (∀ c ∈ replB b, okB c = true) ∧ (replB b).length ≤ 2 := by
  unfold replB
  by_cases h : b.toNat - 128 < replT.length
  · have hm : replT.getD (b.toNat - 128) [] ∈ replT := by
      simp only [List.getD, List.getElem?_eq_getElem h, Option.getD_some]; exact List.getElem_mem h
    have := List.all_eq_true.1 replT_ok _ hm
    rw [Bool.and_eq_true, List.all_eq_true, decide_eq_true_iff] at this
    exact this
  · have : replT.getD (b.toNat - 128) [] = [] := by simp [List.getD, List.getElem?_eq_none (Nat.le_of_not_lt h)]
    rw [this]; simp
theorem plainB_ok (b : UInt8) : (∀ c ∈ plainB b, okB c = true) ∧ (plainB b).length ≤ 1 := by
  unfold plainB
  split
  · rename_i h
    refine ⟨fun c hc => ?_, by simp⟩
    simp at hc; subst hc
    have : isLow (b + 32) = true := by
      rw [up_iff, decide_eq_true_iff] at h
      rw [low_iff, decide_eq_true_iff]
      have := b.toNat_lt
      have e : (b + 32).toNat = b.toNat + 32 := by rw [UInt8.toNat_add]; simp; omega
      rw [e]; omega
    simp [okB, this]
  · split
    · rename_i h
      refine ⟨fun c hc => ?_, by simp⟩
      simp at hc; subst hc
      simp at h; simp [okB, h]
    · split
      · simp
      · exact ⟨fun c hc => by simp at hc; subst hc; rfl, by simp⟩
theorem raw_ok (l : List UInt8) : (∀ c ∈ rawL l, okB c = true) ∧ (rawL l).length ≤ l.length := by
  induction l using rawL.induct with
  | case1 => simp [rawL]
  | case2 a => simp only [rawL]; exact ⟨(plainB_ok a).1, by simpa using (plainB_ok a).2⟩
  | case3 a b r h ih =>
    simp only [rawL, h, if_true]
    refine ⟨fun c hc => ?_, by have := (replB_ok b).2; simp; omega⟩
    rcases List.mem_append.1 hc with hc | hc
    · exact (replB_ok b).1 c hc
    · exact ih.1 c hc
  | case4 a b r h ih =>
    simp only [rawL, h]
    refine ⟨fun c hc => ?_, by have := (plainB_ok a).2; have := ih.2; simp at *; omega⟩
    simp only [Bool.false_eq_true, if_false] at hc
    rcases List.mem_append.1 hc with hc | hc
    · exact (plainB_ok a).1 c hc
    · exact ih.1 c hc
theorem okB_lt {b : UInt8} (h : okB b = true) : b.toNat < 128 := by
  unfold okB at h
  simp only [Bool.or_eq_true, low_iff, dig_iff, decide_eq_true_iff, beq_iff_eq] at h
  rcases h with (h | h) | h
  · omega
  · omega
  · subst h; decide
theorem raw_ascii (l : List UInt8) : ascii (rawL l) := fun b hb => okB_lt ((raw_ok l).1 b hb)
/-- the bytes of tokens are those of the text, less the spaces -/
theorem toksA_mem (l : List UInt8) : ∀ p, ∀ t ∈ toksA p l, ∀ b ∈ t, b ∈ p ∨ (b ∈ l ∧ b ≠ 32) := by
  induction l with
  | nil =>
    intro p t ht b hb
    simp only [toksA] at ht
    split at ht
    · simp at ht
    · simp at ht; subst ht; exact .inl hb
  | cons c l ih =>
    intro p t ht b hb
    by_cases hc : c = 32
    · subst hc
      by_cases hp : p = []
      · subst hp
        rw [toksA_sp0] at ht
        rcases ih [] t ht b hb with h | h
        · simp at h
        · exact .inr ⟨List.mem_cons_of_mem _ h.1, h.2⟩
      · rw [toksA_sp _ _ hp] at ht
        rcases List.mem_cons.1 ht with rfl | ht
        · exact .inl hb
        · rcases ih [] t ht b hb with h | h
          · simp at h
          · exact .inr ⟨List.mem_cons_of_mem _ h.1, h.2⟩
    · rw [toksA_ch _ _ _ hc] at ht
      rcases ih _ t ht b hb with h | h
      · rcases List.mem_append.1 h with h | h
        · exact .inl h
        · simp at h; subst h; exact .inr ⟨List.mem_cons_self, hc⟩
      · exact .inr ⟨List.mem_cons_of_mem _ h.1, h.2⟩
theorem join_cons_ne (t : List UInt8) (L : List (List UInt8)) (h : L ≠ []) : joinL (t :: L) = t ++ [32] ++ joinL L := by
  cases L with
  | nil => exact absurd rfl h
  | cons b r => rfl
theorem toksA_len (l : List UInt8) : ∀ p, (joinL (toksA p l)).length ≤ p.length + l.length ∧ (toksA p l).length ≤ l.length + 1 ∧ (p = [] → l.length = 0 → toksA p l = []) := by
  induction l with
  | nil =>
    intro p
    simp only [toksA]
    split <;> simp_all [joinL]
  | cons c l ih =>
    intro p
    by_cases hc : c = 32
    · subst hc
      by_cases hp : p = []
      · subst hp
        rw [toksA_sp0]
        have := ih []
        simp at *; omega
      · rw [toksA_sp _ _ hp]
        have := ih []
        by_cases hq : toksA [] l = []
        · rw [hq]; simp [joinL]; try omega
        · rw [join_cons_ne _ _ hq]; simp at *; omega
    · rw [toksA_ch _ _ _ hc]
      have := ih (p ++ [c])
      simp at *; omega
theorem fold_len (l : List UInt8) : (foldL l).length ≤ l.length := by
  have h1 := (toksA_len (rawL l) []).1
  have h2 := (raw_ok l).2
  unfold foldL toks
  simp at h1; omega
end Go.Proofs.YtfgoiojmbphmnaaGreatDoor
end
section
/- text.Fold: what it returns, of every text. -/
set_option linter.unusedSimpArgs false
set_option linter.unusedVariables false
set_option maxRecDepth 100000
namespace Go.Proofs.YtfgoiojmbphmnaaGreatDoor
open Go.RowKit
def foldRes (l : List UInt8) : Value := bif foldV l then .tuple #[strV (foldL l), .int .i64 0] else .tuple #[strV [], .int .i64 3]
theorem tbl_cell {w : World} {b : Nat} (h : w.heap[b]? = some (.cells tblV 144 (0, 0))) (c : UInt8) (n : Nat) (hn : c.toNat = 128 + n) (h64 : n < 64) : w.cell? ⟨b, n, none⟩ = some (strV (replB c)) := by
  rw [cell_of_row w b n tblV _ _ h]
  unfold tblV replB
  rw [hn, Nat.add_sub_cancel_left, List.getElem?_toArray, List.getElem?_map, replB_get n h64]
  rfl
theorem pairAt_snd (s : ByteArray) (i : Nat) (hi : i + 1 < s.size) (h : pairAt (s.data.toList.drop i) = true) : ∃ n : Nat, s[i + 1].toNat = 128 + n ∧ n < 64 := by
  rw [drop_two s i hi] at h
  simp only [pairAt, pair_iff, decide_eq_true_iff] at h
  exact ⟨s[i + 1].toNat - 128, by omega, by omega⟩
theorem mk_size (l : List UInt8) : (⟨l.toArray⟩ : ByteArray).size = l.length := by simp [ByteArray.size]
theorem put_len {acc x : List UInt8} {n : Nat} (h : acc.length ≤ n) (hn : n ≤ 1000000) (hx : x.length ≤ 2) : (Lib.byteCells acc).length + (⟨x.toArray⟩ : ByteArray).size ≤ 140737488355328 := by
  rw [Lib.byteCells_length, mk_size]; omega
/-- what the loop of Fold holds -/
def FoldAt (w w1 : World) (l : List UInt8) (k : Nat) (wr : World) : Prop := ∃ acc : List UInt8, acc ++ rawL (l.drop k) = rawL l ∧
  Lib.IsBuilder 94 5 (w1.heap.size + 1) (w1.heap.size + 1) (Lib.byteCells acc) wr ∧ wr.heap[w1.heap.size]? = some (.cells tblV 144 (0, 0)) ∧ Below w.heap.size w wr ∧ w1.heap.size + 1 ≤ wr.heap.size
theorem FoldAt.len {w w1 : World} {l : List UInt8} {k : Nat} {wr : World} {acc : List UInt8} (h : acc ++ rawL (l.drop k) = rawL l) : acc.length ≤ l.length := by
  have := congrArg List.length h
  have h2 := (raw_ok l).2
  simp at this; omega
theorem FoldAt.step {w w1 wr w2 : World} {l acc x : List UInt8} {k k' : Nat} (hacc : acc ++ rawL (l.drop k) = rawL l) (hx : rawL (l.drop k) = x ++ rawL (l.drop k')) (ht : wr.heap[w1.heap.size]? = some (.cells tblV 144 (0, 0))) (hbw : Below w.heap.size w wr) (hz : w1.heap.size + 1 ≤ wr.heap.size) (hz1 : w.heap.size ≤ w1.heap.size)
    (hB : Lib.BuilderAt 94 5 (w1.heap.size + 1) (w1.heap.size + 1) (.pointer (some ⟨w1.heap.size + 1, 0, none⟩)) (Lib.byteCells acc ++ Lib.strCells ⟨x.toArray⟩) w2) (hb2 : Below (w1.heap.size + 1) wr w2) : FoldAt w w1 l k' w2 := by
  refine ⟨acc ++ x, by rw [List.append_assoc, ← hx]; exact hacc, .inr ?_, (hb2.block _ (by omega)).trans ht, hbw.trans (hb2.mono (by omega)), Nat.le_trans hz hb2.size⟩
  rw [Lib.byteCells_append]
  exact hB
set_option maxHeartbeats 4000000 in
theorem fold_yes (s : ByteArray) (w : World) (hs : s.size ≤ 100000) (hv : foldV s.data.toList = true) :
    Calls Tryz.prog 134 #[.string s] w fun e w' => e = .returned (.tuple #[strV (foldL s.data.toList), .int .i64 0]) ∧ Below w.heap.size w w' := by
  have hl : s.data.toList.length = s.size := by simp
  have HL := Lib.hid hl; clear hl
  have HV := Lib.hid hv; clear hv
  go_enter Tryz.func134, Tryz.ntmps134
  go_wp2_with fail
  refine (tvalid_any s _ (by omega)).mono ?_; rw [HV.out]; rintro e w' ⟨rfl, rfl⟩
  go_wp2_with fail
  refine (repl_any _).mono ?_; rintro e w1 ⟨rfl, hb1⟩
  have HB1 := Lib.hid hb1; clear hb1
  go_wp2_with (refine wpList_store_row rfl 144 (.tmp 4) (.tmp 10) rfl w1.heap.size tblV rfl rfl 144 _ (heap_alloc_new w1 _) (by kernel_rfl) (by kernel_rfl) (by kernel_rfl) ?_; rw [World.setRow_alloc_new])
  have hbz : w.heap.size ≤ w1.heap.size := HB1.out.size
  go_loopw [6] (fun i wr => ∃ k : Nat, k ≤ s.size ∧ i = .int .i64 k ∧ FoldAt w w1 s.data.toList k wr) (fun i _ => s.size - (intOf i).toNat)
  case atStart =>
    refine ⟨0, by omega, rfl, [], rfl, .inl ⟨Nat.le_refl _, _, by rw [show w1.heap.size + 1 = (w1.alloc (.cells tblV 144)).heap.size by simp]; exact heap_alloc_new _ _, ⟨rfl, .inl ⟨rfl, rfl⟩⟩, by simp [Value.ownBlock]⟩, blk_old (blk_new rfl), (HB1.out.alloc hbz _).alloc (by simp; omega) _, by simp⟩
  case round =>
    obtain ⟨k, hk, rfl, HF⟩ := hrel
    have HF' := Lib.hid HF; clear HF
    by_cases hlt : k < s.size
    · have hq : decide ((k : Int) < s.size) = true := by simp; omega
      go_wp2_with fail
      refine (pair_any s k _ hlt (by omega)).mono ?_; rintro e w' ⟨rfl, rfl⟩
      cases hp : pairAt (s.data.toList.drop k)
      · have HR := Lib.hid (raw_one s k hlt hp)
        clear hp
        obtain ⟨acc, hacc, hB, ht, hbw, hz⟩ := HF'.out
        have hal := FoldAt.len (w := w) (w1 := w1) (wr := wr) hacc
        have HA := Lib.hid hacc; have HT := Lib.hid ht; have HW := Lib.hid hbw; have HB := Lib.hid hB
        clear hacc ht hbw hB HF'
        go_wp2_with fail
        refine (plain_any s[k] _).mono ?_; rintro e w' ⟨rfl, rfl⟩
        have hpl := (plainB_ok s[k]).2
        go_wp2_with fail
        refine (wstr_any (w1.heap.size + 1) (w1.heap.size + 1) (Lib.byteCells acc) ⟨(plainB s[k]).toArray⟩ _ HB.out (put_len hal (by rw [HL.out]; omega) (by omega)) hz).mono ?_
        rintro e w2 ⟨rfl, hB2, hb2⟩
        have HF2 := Lib.hid (FoldAt.step HA.out HR.out HT.out HW.out hz hbz hB2 hb2)
        clear hB2 hb2
        go_wp2_with fail
        go_roundw
        case rel => exact ⟨k + 1, by omega, by go_num, HF2.out⟩
        case measure => simp [intOf]; omega
      · have h2 := pairAt_lt s k hlt hp
        have HR := Lib.hid (raw_two s k h2 hp)
        obtain ⟨n, hn, hn64⟩ := pairAt_snd s k h2 hp
        clear hp
        obtain ⟨acc, hacc, hB, ht, hbw, hz⟩ := HF'.out
        have hal := FoldAt.len (w := w) (w1 := w1) (wr := wr) hacc
        have hcell := tbl_cell ht s[k + 1] n hn hn64
        have hn' : (s[k + 1].toNat : Int) = 128 + (n : Int) := by omega
        have HA := Lib.hid hacc; have HT := Lib.hid ht; have HW := Lib.hid hbw; have HB := Lib.hid hB
        clear hacc ht hbw hB HF' hn
        go_wp2_with fail
        have hpl := (replB_ok s[k + 1]).2
        refine (wstr_any (w1.heap.size + 1) (w1.heap.size + 1) (Lib.byteCells acc) ⟨(replB s[k + 1]).toArray⟩ _ HB.out (put_len hal (by rw [HL.out]; omega) hpl) hz).mono ?_
        rintro e w2 ⟨rfl, hB2, hb2⟩
        have HF2 := Lib.hid (FoldAt.step HA.out HR.out HT.out HW.out hz hbz hB2 hb2)
        clear hB2 hb2
        go_wp2_with fail
        go_roundw
        case rel => exact ⟨k + 2, by omega, by go_num, HF2.out⟩
        case measure => simp [intOf]; omega
    · have hq : decide ((k : Int) < s.size) = false := by simp; omega
      obtain ⟨acc, hacc, hB, ht, hbw, hz⟩ := HF'.out
      rw [List.drop_eq_nil_of_le (by rw [HL.out]; omega)] at hacc
      have hacc' : acc = rawL s.data.toList := by simpa [rawL] using hacc
      subst hacc'
      have HW := Lib.hid hbw; have HB := Lib.hid hB
      clear hacc ht hbw hB HF'
      go_wp2_with fail
      refine (bstr_any (w1.heap.size + 1) (w1.heap.size + 1) _ _ HB.out hz).mono ?_
      rintro e w2 ⟨rfl, hb2⟩
      have HW2 := Lib.hid (HW.out.trans (hb2.mono (by omega))); clear hb2
      go_wp2_with fail
      have hrl := (raw_ok s.data.toList).2
      refine (tokens_any (rawL s.data.toList) _ (raw_ascii _) (by rw [HL.out] at hrl; omega)).mono ?_
      rintro e w3 ⟨A, rfl, hA, ho, hb3⟩
      have hV := Lib.hid (Vec.owns (S := Any1) (k := 1) (enc := encS) (fun _ => rfl) ho (fun _ _ _ => trivial))
      have HW3 := Lib.hid (HW2.out.trans (hb3.mono HW2.out.size)); clear hb3 ho
      go_wp2_with fail
      refine (join_any Any1 _ (toks (rawL s.data.toList)) _ hV.out (by have := (toksA_len (rawL s.data.toList) []).2.1; unfold toks; rw [HL.out] at hrl; omega) (by have := fold_len s.data.toList; unfold foldL at this; rw [HL.out] at this; omega)).mono ?_
      rintro e w4 ⟨rfl, hb4⟩
      have HW4 := Lib.hid (HW3.out.trans (hb4.mono HW3.out.size)); clear hb4
      go_wp2_with fail
      go_ret2
      exact ⟨rfl, HW4.out⟩
set_option maxHeartbeats 400000 in
theorem fold_no (s : ByteArray) (w : World) (hs : s.size ≤ 9223372036854775000) (hv : foldV s.data.toList = false) :
    Calls Tryz.prog 134 #[.string s] w fun e w' => e = .returned (.tuple #[strV [], .int .i64 3]) ∧ Below w.heap.size w w' := by
  have HV := Lib.hid hv; clear hv
  go_enter Tryz.func134, Tryz.ntmps134
  go_wp2_with fail
  refine (tvalid_any s _ (by omega)).mono ?_; rw [HV.out]; rintro e w' ⟨rfl, rfl⟩
  go_wp2_with fail
  go_ret2
  exact ⟨rfl, Below.refl _ _⟩
theorem fold_any (s : ByteArray) (w : World) (hs : s.size ≤ 9223372036854775000) :
    Calls Tryz.prog 134 #[.string s] w fun e w' => e = .returned (foldRes s.data.toList) ∧ Below w.heap.size w w' := by
  unfold foldRes
  cases hv : foldV s.data.toList with
  | false => exact fold_no s w hs hv
  | true =>
    have h := hv
    unfold foldV at h
    simp only [Bool.and_eq_true, decide_eq_true_iff] at h
    exact fold_yes s w (by have : s.data.toList.length = s.size := by simp
                           omega) hv
end Go.Proofs.YtfgoiojmbphmnaaGreatDoor
end
section
/- name: tokens, titles, the first rule, of all texts. -/
set_option linter.unusedSimpArgs false
set_option linter.unusedVariables false
set_option maxRecDepth 100000
namespace Go.Proofs.YtfgoiojmbphmnaaGreatDoor
open Go.RowKit
@[local go_sem] theorem toList_mk (l : List UInt8) : (⟨l.toArray⟩ : ByteArray).toList = l := by
  rw [Lib.toList_data]
attribute [local go_sem] mk_size
def tokenB (l : List UInt8) : Bool := bif l.isEmpty then false else bif decide (l.length ≤ 64) then lettersL l == l else false
theorem dec_len (l : List UInt8) (n : Nat) : decide ((l.length : Int) ≤ (n : Int)) = decide (l.length ≤ n) := by
  rw [Bool.eq_iff_iff]; simp
set_option maxHeartbeats 400000 in
theorem token_any (l : List UInt8) (w : World) :
    Calls Tryz.prog 125 #[strV l] w fun e w' => e = .returned (.bool (tokenB l)) ∧ Below w.heap.size w w' := by
  unfold tokenB
  by_cases h0 : l = []
  · subst h0
    go_enter Tryz.func125, Tryz.ntmps125
    go_wp2
    go_ret
    exact ⟨rfl, Below.refl _ _⟩
  · have h1 : l.isEmpty = false := by simpa using h0
    have h2 : (l == []) = false := by simpa using h0
    rw [h1]
    by_cases h3 : l.length ≤ 64
    · have h4 : decide (l.length ≤ 64) = true := by simpa using h3
      have h5 : decide ((l.length : Int) ≤ 64) = true := by simp; omega
      rw [h4]
      clear h0 h4
      go_enter Tryz.func125, Tryz.ntmps125
      go_wp2_with fail
      refine (letters_any ⟨l.toArray⟩ _ (by rw [mk_size]; omega)).mono ?_
      rintro e w1 ⟨rfl, hb⟩
      go_wp2_with fail
      go_ret
      exact ⟨rfl, hb⟩
    · have h4 : decide (l.length ≤ 64) = false := by simpa using h3
      have h5 : decide ((l.length : Int) ≤ 64) = false := by simp; omega
      rw [h4]
      clear h0 h4
      go_enter Tryz.func125, Tryz.ntmps125
      go_wp2_with fail
      go_ret
      exact ⟨rfl, Below.refl _ _⟩
end Go.Proofs.YtfgoiojmbphmnaaGreatDoor
end
section
/- name: the first rule for a token, the rules' tests. -/
set_option linter.unusedSimpArgs false
set_option linter.unusedVariables false
set_option maxRecDepth 100000
namespace Go.Proofs.YtfgoiojmbphmnaaGreatDoor
open Go.RowKit
attribute [local go_sem] toList_mk mk_size
abbrev P2 := List UInt8 × List UInt8
/-- the two cells of a rule -/
def encP (x : P2) : List Value := [strV x.1, strV x.2]
theorem pred_find (s : List UInt8) (B : Nat) (w : World) (hB : B < w.heap.size) (hcell : w.cell? ⟨B, 0, none⟩ = some (strV s)) :
    PredBelow Tryz.prog 151 #[.pointer (some ⟨B, 0, none⟩)] (fun x => .agg (encP x).toArray) (fun x => x.1 == s) w := fun W x hb => by
  have hc : W.cell? ⟨B, 0, none⟩ = some (strV s) := (hb.cell (p := ⟨B, 0, none⟩) hB).trans hcell
  have hBW : B < W.heap.size := Nat.lt_of_lt_of_le hB hb.size
  have hne : B ≠ W.heap.size := by omega
  have HBb := Lib.hid hb; clear hb hcell
  show Calls Tryz.prog 151 #[.agg #[strV x.1, strV x.2], .pointer (some ⟨B, 0, none⟩)] W _
  go_enter Tryz.func151, Tryz.ntmps151
  go_wp2
  go_ret
  exact ⟨rfl, HBb.out.alloc HBb.out.size _⟩
set_option maxHeartbeats 400000 in
theorem idxP_nil (a : Option Addr) (c : Nat) (f : Value) (w : World) :
    Calls Tryz.prog 127 #[.slice a 0 c, f] w fun e w' => e = .returned (.int .i64 (-1)) ∧ w = w' := by
  go_enter Tryz.func127, Tryz.ntmps127
  go_wp2
  refine wp_loop_rounds 1 ?_; rw [rounds_succ]
  go_wp2
  go_ret
  exact ⟨rfl, rfl⟩
def findI (L : List P2) (s : List UInt8) : Int := Lib.idxBy (fun _ (y : P2) => y.1 == s) L default
set_option maxHeartbeats 1000000 in
theorem find_any (S : Nat → Prop) (v : Value) (L : List P2) (s : List UInt8) (w : World) (h : Vec w S 2 encP v L) (hn : L.length ≤ 1000000) :
    Calls Tryz.prog 126 #[v, strV s] w fun e w' => e = .returned (.int .i64 (findI L s)) ∧ Below w.heap.size w w' := by
  obtain ⟨a, cap, rfl, hcap, h0⟩ := h
  by_cases hz : L = []
  · subst hz
    clear h0
    go_enter Tryz.func126, Tryz.ntmps126
    go_wp2_with fail
    refine (idxP_nil a cap _ _).mono ?_
    rintro e w1 ⟨rfl, rfl⟩
    go_wp2_with fail
    go_ret
    exact ⟨rfl, (Below.refl _ _).alloc (Nat.le_refl _) _⟩
  · obtain ⟨b, off, rfl, _, hb, hc⟩ := h0 (List.length_pos_iff.2 hz)
    have eg : ∀ args w, (callFunc 151 args).run Tryz.prog w = .ok (.enter 151 args) w := enters_of Tryz.func151 (by kernel_rfl) rfl
    have hcon := AnyQ.slices_IndexFunc Tryz.laysIP 2 Tryz.isAgg83 Tryz.sizeOf83 encP (fun _ => rfl) (fun x => x.1 == s) 151 #[.pointer (some ⟨w.heap.size, 0, none⟩)] eg b off L.length cap L (w.alloc (.cells #[strV s] 9))
      (pred_find s w.heap.size _ (by simp) (by simp)) (Nat.le_refl _) (by omega) (by simp; omega) (fun j hj i u hi => by
        refine Lib.cell?_alloc_some _ ?_
        have e : L[j]? = some L[j]! := by rw [List.getElem?_eq_getElem hj, getElem!_pos L j hj]
        exact hc j _ e i u hi)
    rw [List.take_of_length_le (Nat.le_refl _)] at hcon
    have HC := Lib.hid hcon
    clear hcon hc h0
    go_enter Tryz.func126, Tryz.ntmps126
    go_wp2_with fail
    refine HC.out.mono ?_
    rintro e w1 ⟨rfl, hb1⟩
    go_wp2_with fail
    go_ret
    exact ⟨rfl, ((Below.refl _ w).alloc (Nat.le_refl _) _).trans (hb1.mono (by simp))⟩
end Go.Proofs.YtfgoiojmbphmnaaGreatDoor
end
section
/- name: titles; pairs. -/
set_option linter.unusedSimpArgs false
set_option linter.unusedVariables false
set_option maxRecDepth 100000
namespace Go.Proofs.YtfgoiojmbphmnaaGreatDoor
open Go.RowKit
attribute [local go_sem] toList_mk mk_size
def ltB (a b : List UInt8) : Bool := Op.bytesLess a b
/-- entry j is right, and greater than the one before -/
def titleAt (L : List (List UInt8)) (j : Nat) : Bool := tokenB (L.getD j []) && (decide (j = 0) || ltB (L.getD (j - 1) []) (L.getD j []))
def titlesB (L : List (List UInt8)) : Bool := (List.range L.length).all (titleAt L)
def pairAtB (L : List P2) (j : Nat) : Bool := tokenB (L.getD j default).1 && tokenB (L.getD j default).2 && (decide (j = 0) || ltB (L.getD (j - 1) default).1 (L.getD j default).1) && decide (findI L (L.getD j default).2 < 0)
def pairsB (L : List P2) : Bool := (List.range L.length).all (pairAtB L)
theorem all_false {n : Nat} {p : Nat → Bool} {k : Nat} (hk : k < n) (h : p k = false) : (List.range n).all p = false := by
  rw [List.all_eq_false]; exact ⟨k, List.mem_range.2 hk, by simp [h]⟩
theorem all_true {n : Nat} {p : Nat → Bool} (h : ∀ j, j < n → p j = true) : (List.range n).all p = true := by
  rw [List.all_eq_true]; intro j hj; exact h j (List.mem_range.1 hj)
theorem vec_cell1 {w : World} {S : Nat → Prop} {a : Option Addr} {n cap : Nat} {L : List (List UInt8)} (h : Vec w S 1 encS (.slice a n cap) L) (h0 : 0 < L.length) : ∃ b off, a = some ⟨b, off, none⟩ ∧ S b ∧ b < w.heap.size ∧ ∀ j, j < L.length → w.cell? ⟨b, off + j, none⟩ = some (strV (L.getD j [])) := by
  obtain ⟨a', cap', h1, h2, h3⟩ := h
  cases h1
  obtain ⟨b, off, h4, hS, h5, h6⟩ := h3 h0
  refine ⟨b, off, h4, hS, h5, fun j hj => ?_⟩
  have := h6 j L[j] (List.getElem?_eq_getElem hj) 0 _ rfl
  rw [List.getD, List.getElem?_eq_getElem hj]
  simpa using this
set_option maxHeartbeats 1000000 in
theorem titles_any (S : Nat → Prop) (v : Value) (L : List (List UInt8)) (w : World) (h : Vec w S 1 encS v L) (hn : L.length ≤ 1000000) :
    Calls Tryz.prog 82 #[v] w fun e w' => e = .returned (.bool (titlesB L)) ∧ Below w.heap.size w w' := by
  obtain ⟨a, cap, rfl⟩ := h.slice
  by_cases hz : L = []
  · subst hz
    clear h
    go_enter Tryz.func82, Tryz.ntmps82
    go_wp2
    refine wp_loop_rounds 1 ?_; rw [rounds_succ]
    go_wp2
    go_ret
    exact ⟨rfl, Below.refl _ _⟩
  · obtain ⟨b, off, rfl, _, hb, hc⟩ := vec_cell1 h (List.length_pos_iff.2 hz)
    have HC := Lib.hid hc; clear hc h hz
    go_enter Tryz.func82, Tryz.ntmps82
    go_wp2_with fail
    go_loopw [7] (fun i wr => ∃ k : Nat, k ≤ L.length ∧ i = .int .i64 k ∧ Below w.heap.size w wr ∧ ∀ j, j < k → titleAt L j = true) (fun i _ => L.length - (intOf i).toNat)
    case atStart => exact ⟨0, by omega, rfl, Below.refl _ _, fun j hj => by omega⟩
    case round =>
      obtain ⟨k, hk, rfl, hbw, ha⟩ := hrel
      have HA := Lib.hid ha; clear ha
      by_cases hlt : k < L.length
      · have hq : decide ((k : Int) < L.length) = true := by simp; omega
        have hi : (k : Int) < (L.length : Int) := by omega
        have c1 : wr.cell? ⟨b, off + k, none⟩ = some (strV (L.getD k [])) := (hbw.cell (p := ⟨b, off + k, none⟩) hb).trans (HC.out k hlt)
        have HW := Lib.hid hbw; clear hbw
        obtain ⟨x, hx⟩ : ∃ x, L.getD k [] = x := ⟨_, rfl⟩
        rw [hx] at c1
        have HX := Lib.hid hx; clear hx
        go_wp2_with fail
        refine (token_any x _).mono ?_
        rintro e w2 ⟨rfl, hb2⟩
        have HW2 := Lib.hid (HW.out.trans (hb2.mono HW.out.size)); clear hb2 HW c1
        cases ht : tokenB x
        · have HT := Lib.hid (show titleAt L k = false by simp only [titleAt]; rw [HX.out, ht]; rfl); clear ht
          go_wp2_with fail
          go_ret
          exact ⟨ret_bool (by rw [titlesB, all_false hlt HT.out]), HW2.out⟩
        · by_cases hk0 : k = 0
          · subst hk0
            have HT := Lib.hid (show titleAt L 0 = true by simp only [titleAt]; rw [HX.out, ht]; rfl)
            clear ht
            go_wp2_with fail
            go_roundw
            case rel => exact ⟨1, by omega, by go_num, HW2.out, fun j hj => by (obtain rfl : j = 0 := by omega); exact HT.out⟩
            case measure => simp [intOf]; omega
          · obtain ⟨m, rfl⟩ : ∃ m, k = m + 1 := ⟨k - 1, by omega⟩
            have c2 : w2.cell? ⟨b, off + m, none⟩ = some (strV (L.getD m [])) := (HW2.out.cell (p := ⟨b, off + m, none⟩) hb).trans (HC.out m (by omega))
            obtain ⟨y, hy⟩ : ∃ y, L.getD m [] = y := ⟨_, rfl⟩
            rw [hy] at c2
            have HT := Lib.hid (show titleAt L (m + 1) = Op.bytesLess y x by simp only [titleAt, Nat.add_sub_cancel]; rw [HX.out, hy, ht]; simp [ltB])
            clear ht hy hk0
            cases hl : Op.bytesLess y x
            · rw [hl] at HT
              go_wp2_with fail
              go_ret
              exact ⟨ret_bool (by rw [titlesB, all_false hlt HT.out]), HW2.out⟩
            · rw [hl] at HT
              go_wp2_with fail
              go_roundw
              case rel => exact ⟨m + 2, by omega, by go_num, HW2.out, fun j hj => by
                by_cases e : j = m + 1
                · subst e; exact HT.out
                · exact HA.out j (by omega)⟩
              case measure => simp [intOf]; omega
      · have hq : decide ((k : Int) < L.length) = false := by simp; omega
        have HW := Lib.hid hbw; clear hbw
        go_wp2_with fail
        go_ret
        exact ⟨ret_bool (by rw [titlesB, all_true fun j hj => HA.out j (by omega)]), HW.out⟩
theorem vec_cell2 {α : Type} [Inhabited α] {enc : α → List Value} {w : World} {S : Nat → Prop} {a : Option Addr} {n cap : Nat} {L : List α} (h : Vec w S 2 enc (.slice a n cap) L) (h0 : 0 < L.length) : ∃ b off, a = some ⟨b, off, none⟩ ∧ S b ∧ b < w.heap.size ∧ ∀ j, j < L.length → ∀ i u, (enc (L.getD j default))[i]? = some u → w.cell? ⟨b, off + j * 2 + i, none⟩ = some u := by
  obtain ⟨a', cap', h1, h2, h3⟩ := h
  cases h1
  obtain ⟨b, off, h4, hS, h5, h6⟩ := h3 h0
  refine ⟨b, off, h4, hS, h5, fun j hj i u hu => ?_⟩
  rw [List.getD, List.getElem?_eq_getElem hj] at hu
  exact h6 j L[j] (List.getElem?_eq_getElem hj) i u hu
/-- a contract that makes memory alone, in whatever world behind w -/
theorem in_regrown {P : Program} {f : FuncId} {args : Array Value} {v : Value} (w : World) (h : ∀ W, Below w.heap.size w W → Calls P f args W fun e w' => e = .returned v ∧ Below W.heap.size W w') :
    ∀ d os, Calls P f args (Sort.grow (redrawn w d) os) fun e w'' => e = .returned v ∧ ∃ p : Regrown, w'' = Sort.grow (redrawn w p.d) p.os := fun d os => Calls.regrown_of (h _ (below_regrown w d os))
theorem find_in (v : Value) (L : List P2) (s : List UInt8) (w : World) (h : Vec w Any1 2 encP v L) (hn : L.length ≤ 1000000) (W : World) (hb : Below w.heap.size w W) : Calls Tryz.prog 126 #[v, strV s] W fun e w' => e = .returned (.int .i64 (findI L s)) ∧ Below W.heap.size W w' :=
  find_any Any1 v L s W (h.below hb) hn
set_option maxHeartbeats 4000000 in
theorem pairs_any (S : Nat → Prop) (v : Value) (L : List P2) (w : World) (h : Vec w S 2 encP v L) (hn : L.length ≤ 1000000) :
    Calls Tryz.prog 83 #[v] w fun e w' => e = .returned (.bool (pairsB L)) ∧ Below w.heap.size w w' := by
  obtain ⟨a, cap, rfl⟩ := h.slice
  by_cases hz : L = []
  · subst hz
    clear h
    go_enter Tryz.func83, Tryz.ntmps83
    go_wp2
    refine wp_loop_rounds 1 ?_; rw [rounds_succ]
    go_wp2
    go_ret
    exact ⟨rfl, Below.refl _ _⟩
  · have HV := Lib.hid h.any
    obtain ⟨b, off, rfl, _, hb, hc⟩ := vec_cell2 h (List.length_pos_iff.2 hz)
    have HC := Lib.hid hc; clear hc h hz
    go_enter Tryz.func83, Tryz.ntmps83
    go_wp2_with fail
    go_loopw [7] (fun i wr => ∃ k : Nat, k ≤ L.length ∧ i = .int .i64 k ∧ Below w.heap.size w wr ∧ ∀ j, j < k → pairAtB L j = true) (fun i _ => L.length - (intOf i).toNat)
    case atStart => exact ⟨0, by omega, rfl, Below.refl _ _, fun j hj => by omega⟩
    case round =>
      obtain ⟨k, hk, rfl, hbw, ha⟩ := hrel
      have HA := Lib.hid ha; clear ha
      by_cases hlt : k < L.length
      · have hq : decide ((k : Int) < L.length) = true := by simp; omega
        have hi : (k : Int) < (L.length : Int) := by omega
        obtain ⟨x, hx⟩ : ∃ x, L.getD k default = x := ⟨_, rfl⟩
        have hc := HC.out k hlt
        rw [hx] at hc
        have c0 : wr.cell? ⟨b, off + k * 2, none⟩ = some (strV x.1) := (hbw.cell (p := ⟨b, off + k * 2, none⟩) hb).trans (hc 0 _ rfl)
        have c1 : wr.cell? ⟨b, off + k * 2 + 1, none⟩ = some (strV x.2) := (hbw.cell (p := ⟨b, off + k * 2 + 1, none⟩) hb).trans (hc 1 _ rfl)
        have HX := Lib.hid hx; clear hx hc
        have HW := Lib.hid hbw; clear hbw
        go_wp2_with fail
        refine wp_world (fun wS hS => ?_)
        obtain ⟨xf, xt⟩ := x
        have bS : Below wr.heap.size wr wS := by rw [hS]; exact (Below.refl _ _).alloc (Nat.le_refl _) _
        have k0 := cell_regrown (show wS.cell? ⟨wr.heap.size, 0, none⟩ = some (strV xf) by rw [hS]; simp)
        have k1 := cell_regrown (show wS.cell? ⟨wr.heap.size, 1, none⟩ = some (strV xt) by rw [hS]; simp)
        have HWS := Lib.hid (HW.out.trans (bS.mono HW.out.size))
        clear bS hS c0 c1 HW
        have cT1 := in_regrown wS (fun W _ => token_any xf W)
        have cT2 := in_regrown wS (fun W _ => token_any xt W)
        have cF := in_regrown wS (find_in _ L xt wS (HV.out.below HWS.out) hn)
        have hpa : pairAtB L k = (tokenB xf && tokenB xt && (decide (k = 0) || ltB (L.getD (k - 1) default).1 xf) && decide (findI L xt < 0)) := by simp only [pairAtB]; rw [HX.out]
        generalize findI L xt = n at *
        cases ht1 : tokenB xf
        · rw [ht1] at cT1 hpa
          have HF := Lib.hid (show pairAtB L k = false by rw [hpa]; rfl)
          clear ht1 hpa
          go_wp2_with fail
          refine wp_region_quiet_below (by kernel_rfl) (by kernel_rfl) ?_
          repeat (go_big_quiet_step (first | with_reducible exact cT1 _ _ | with_reducible exact cT2 _ _ | with_reducible exact cF _ _))
          refine wpQuiet_nil ?_
          intro _ hw'
          obtain ⟨⟨dq, osq⟩, hw''⟩ := hw'
          subst hw''
          have HW3 := Lib.hid (HWS.out.trans ((below_regrown wS dq osq).mono HWS.out.size))
          go_wp2_with fail
          go_ret
          exact ⟨ret_bool (by rw [pairsB, all_false hlt HF.out]), HW3.out⟩
        · rw [ht1] at cT1 hpa
          clear ht1
          cases ht2 : tokenB xt
          · rw [ht2] at cT2 hpa
            have HF := Lib.hid (show pairAtB L k = false by rw [hpa]; rfl)
            clear ht2 hpa
            go_wp2_with fail
            refine wp_region_quiet_below (by kernel_rfl) (by kernel_rfl) ?_
            repeat (go_big_quiet_step (first | with_reducible exact cT1 _ _ | with_reducible exact cT2 _ _ | with_reducible exact cF _ _))
            refine wpQuiet_nil ?_
            intro _ hw'
            obtain ⟨⟨dq, osq⟩, hw''⟩ := hw'
            subst hw''
            have HW3 := Lib.hid (HWS.out.trans ((below_regrown wS dq osq).mono HWS.out.size))
            go_wp2_with fail
            go_ret
            exact ⟨ret_bool (by rw [pairsB, all_false hlt HF.out]), HW3.out⟩
          · rw [ht2] at cT2 hpa
            clear ht2
            by_cases hk0 : k = 0
            · subst hk0
              by_cases hneg : n < 0
              · have HF := Lib.hid (show pairAtB L 0 = true by rw [hpa]; simp [hneg])
                clear hpa
                go_wp2_with fail
                refine wp_region_quiet_below (by kernel_rfl) (by kernel_rfl) ?_
                repeat (go_big_quiet_step (first | with_reducible exact cT1 _ _ | with_reducible exact cT2 _ _ | with_reducible exact cF _ _))
                refine wpQuiet_nil ?_
                intro _ hw'
                obtain ⟨⟨dq, osq⟩, hw''⟩ := hw'
                subst hw''
                have HW3 := Lib.hid (HWS.out.trans ((below_regrown wS dq osq).mono HWS.out.size))
                go_wp2_with fail
                go_roundw
                case rel => exact ⟨1, by omega, by go_num, HW3.out, fun j hj => by
                  by_cases e : j = 0
                  · subst e; exact HF.out
                  · exact HA.out j (by omega)⟩
                case measure => simp [intOf]; omega
              · have HF := Lib.hid (show pairAtB L 0 = false by rw [hpa]; simp [hneg])
                have hnn : 0 ≤ n := by omega
                clear hpa
                go_wp2_with fail
                refine wp_region_quiet_below (by kernel_rfl) (by kernel_rfl) ?_
                repeat (go_big_quiet_step (first | with_reducible exact cT1 _ _ | with_reducible exact cT2 _ _ | with_reducible exact cF _ _))
                refine wpQuiet_nil ?_
                intro _ hw'
                obtain ⟨⟨dq, osq⟩, hw''⟩ := hw'
                subst hw''
                have HW3 := Lib.hid (HWS.out.trans ((below_regrown wS dq osq).mono HWS.out.size))
                go_wp2_with fail
                go_ret
                exact ⟨ret_bool (by rw [pairsB, all_false hlt HF.out]), HW3.out⟩
            · obtain ⟨m, rfl⟩ : ∃ m, k = m + 1 := ⟨k - 1, by omega⟩
              obtain ⟨y, hy⟩ : ∃ y, L.getD m default = y := ⟨_, rfl⟩
              have hcy := HC.out m (by omega)
              rw [hy] at hcy
              have k2 := cell_regrown (show wS.cell? ⟨b, off + m * 2, none⟩ = some (strV y.1) from (HWS.out.cell (p := ⟨b, off + m * 2, none⟩) hb).trans (hcy 0 _ rfl))
              rw [Nat.add_sub_cancel, hy] at hpa
              clear hcy hy hk0
              obtain ⟨yf, yt⟩ := y
              dsimp only at k2 hpa
              unfold ltB at hpa
              cases hl : Op.bytesLess yf xf
              · rw [hl] at hpa
                have HF := Lib.hid (show pairAtB L (m + 1) = false by rw [hpa]; simp)
                clear hpa
                go_wp2_with fail
                refine wp_region_quiet_below (by kernel_rfl) (by kernel_rfl) ?_
                repeat (go_big_quiet_step (first | with_reducible exact cT1 _ _ | with_reducible exact cT2 _ _ | with_reducible exact cF _ _))
                refine wpQuiet_nil ?_
                intro _ hw'
                obtain ⟨⟨dq, osq⟩, hw''⟩ := hw'
                subst hw''
                have HW3 := Lib.hid (HWS.out.trans ((below_regrown wS dq osq).mono HWS.out.size))
                go_wp2_with fail
                go_ret
                exact ⟨ret_bool (by rw [pairsB, all_false hlt HF.out]), HW3.out⟩
              · rw [hl] at hpa
                by_cases hneg : n < 0
                · have HF := Lib.hid (show pairAtB L (m + 1) = true by rw [hpa]; simp [hneg])
                  clear hpa
                  go_wp2_with fail
                  refine wp_region_quiet_below (by kernel_rfl) (by kernel_rfl) ?_
                  repeat (go_big_quiet_step (first | with_reducible exact cT1 _ _ | with_reducible exact cT2 _ _ | with_reducible exact cF _ _))
                  refine wpQuiet_nil ?_
                  intro _ hw'
                  obtain ⟨⟨dq, osq⟩, hw''⟩ := hw'
                  subst hw''
                  have HW3 := Lib.hid (HWS.out.trans ((below_regrown wS dq osq).mono HWS.out.size))
                  go_wp2_with fail
                  go_roundw
                  case rel => exact ⟨m + 2, by omega, by go_num, HW3.out, fun j hj => by
                    by_cases e : j = m + 1
                    · subst e; exact HF.out
                    · exact HA.out j (by omega)⟩
                  case measure => simp [intOf]; omega
                · have HF := Lib.hid (show pairAtB L (m + 1) = false by rw [hpa]; simp [hneg])
                  have hnn : 0 ≤ n := by omega
                  clear hpa
                  go_wp2_with fail
                  refine wp_region_quiet_below (by kernel_rfl) (by kernel_rfl) ?_
                  repeat (go_big_quiet_step (first | with_reducible exact cT1 _ _ | with_reducible exact cT2 _ _ | with_reducible exact cF _ _))
                  refine wpQuiet_nil ?_
                  intro _ hw'
                  obtain ⟨⟨dq, osq⟩, hw''⟩ := hw'
                  subst hw''
                  have HW3 := Lib.hid (HWS.out.trans ((below_regrown wS dq osq).mono HWS.out.size))
                  go_wp2_with fail
                  go_ret
                  exact ⟨ret_bool (by rw [pairsB, all_false hlt HF.out]), HW3.out⟩
      · have hq : decide ((k : Int) < L.length) = false := by simp; omega
        have HW := Lib.hid hbw; clear hbw
        go_wp2_with fail
        go_ret
        exact ⟨ret_bool (by rw [pairsB, all_true fun j hj => HA.out j (by omega)]), HW.out⟩
end Go.Proofs.YtfgoiojmbphmnaaGreatDoor
end
section
/- name: Dropped, Canonical, Check. -/
set_option linter.unusedSimpArgs false
set_option linter.unusedVariables false
set_option maxRecDepth 100000
namespace Go.Proofs.YtfgoiojmbphmnaaGreatDoor
open Go.RowKit
attribute [local go_sem] toList_mk mk_size
structure RulesL where
  titles : List (List UInt8)
  nicks : List P2
  streets : List P2
def RulesAt (w : World) (S : Nat → Prop) (vt vn vs : Value) (r : RulesL) : Prop := Vec w S 1 encS vt r.titles ∧ Vec w S 2 encP vn r.nicks ∧ Vec w S 2 encP vs r.streets
theorem RulesAt.below {w w' : World} {S : Nat → Prop} {vt vn vs : Value} {r : RulesL} (h : RulesAt w S vt vn vs r) (hb : Below w.heap.size w w') : RulesAt w' S vt vn vs r := ⟨h.1.below hb, h.2.1.below hb, h.2.2.below hb⟩
theorem RulesAt.any {w : World} {S : Nat → Prop} {vt vn vs : Value} {r : RulesL} (h : RulesAt w S vt vn vs r) : RulesAt w Any1 vt vn vs r := ⟨h.1.any, h.2.1.any, h.2.2.any⟩
def hasB (L : List (List UInt8)) (s : List UInt8) : Bool := L.any fun x => x == s
theorem mkS_inj {a b : List UInt8} (h : mkS a = mkS b) : a = b := by
  have := congrArg (fun s : ByteArray => s.data.toList) h
  simpa [mkS] using this
theorem contains_has (L : List (List UInt8)) (s : List UInt8) : Lib.containsS (L.map mkS) (mkS s) = hasB L s := by
  rw [Bool.eq_iff_iff, Lib.containsS_iff]
  unfold hasB
  rw [List.any_eq_true]
  constructor
  · intro h
    obtain ⟨x, hx, he⟩ := List.mem_map.1 h
    have : x = s := mkS_inj he
    subst this
    exact ⟨x, hx, by simp⟩
  · rintro ⟨x, hx, he⟩
    have : x = s := by simpa using he
    subst this
    exact List.mem_map.2 ⟨x, hx, rfl⟩
theorem contains_any (S : Nat → Prop) (v : Value) (L : List (List UInt8)) (s : List UInt8) (w : World) (h : Vec w S 1 encS v L) (hn : L.length ≤ 1000000) :
    Calls Tryz.prog 118 #[v, strV s] w fun e w' => e = .returned (.bool (hasB L s)) ∧ w = w' := by
  obtain ⟨a, cap, rfl⟩ := h.slice
  by_cases hz : L = []
  · subst hz
    exact (Tryz.slices_Contains_string_empty a cap (mkS s) w).mono fun e w' ⟨he, hw⟩ => ⟨he, hw.symm⟩
  · obtain ⟨b, off, rfl, _, hb, hc⟩ := vec_cell1 h (List.length_pos_iff.2 hz)
    have := Tryz.slices_Contains_string b off L.length cap (L.map mkS) (mkS s) w (by simp) (by omega) (fun j hj => by
      have hj' : j < L.length := by simpa using hj
      rw [hc j hj', List.getD, List.getD, List.getElem?_map, List.getElem?_eq_getElem hj']; rfl)
    rw [List.take_of_length_le (by simp), contains_has] at this
    exact this.mono fun e w' ⟨he, hw⟩ => ⟨he, hw.symm⟩
set_option maxHeartbeats 400000 in
theorem dropped_any (S : Nat → Prop) (vt vn vs : Value) (L : List (List UInt8)) (s : List UInt8) (w : World) (h : Vec w S 1 encS vt L) (hn : L.length ≤ 1000000) :
    Calls Tryz.prog 86 #[.agg #[vt, vn, vs], strV s] w fun e w' => e = .returned (.bool (hasB L s)) ∧ Below w.heap.size w w' := by
  have HV := Lib.hid h; clear h
  go_enter Tryz.func86, Tryz.ntmps86
  go_wp2_with fail
  refine (contains_any S vt L s _ (HV.out.below ((Below.refl _ _).alloc (Nat.le_refl _) _)) hn).mono ?_
  rintro e w1 ⟨rfl, rfl⟩
  go_wp2_with fail
  go_ret
  exact ⟨rfl, (Below.refl _ _).alloc (Nat.le_refl _) _⟩
theorem pred_check (vt vn vs : Value) (L : List (List UInt8)) (B : Nat) (w : World) (hL : Vec w Any1 1 encS vt L) (hn : L.length ≤ 1000000) (hB : B < w.heap.size) (h0 : w.cell? ⟨B, 0, none⟩ = some vt) (h1 : w.cell? ⟨B, 1, none⟩ = some vn) (h2 : w.cell? ⟨B, 2, none⟩ = some vs) :
    PredBelow Tryz.prog 85 #[.pointer (some ⟨B, 0, none⟩)] (fun x => .agg (encP x).toArray) (fun x => hasB L x.2) w := fun W x hb => by
  have c0 : W.cell? ⟨B, 0, none⟩ = some vt := (hb.cell (p := ⟨B, 0, none⟩) hB).trans h0
  have c1 : W.cell? ⟨B, 1, none⟩ = some vn := (hb.cell (p := ⟨B, 1, none⟩) hB).trans h1
  have c2 : W.cell? ⟨B, 2, none⟩ = some vs := (hb.cell (p := ⟨B, 2, none⟩) hB).trans h2
  have hBW : B < W.heap.size := Nat.lt_of_lt_of_le hB hb.size
  have hne : B ≠ W.heap.size := by omega
  have HV := Lib.hid (hL.below hb)
  have HBb := Lib.hid hb; clear hb h0 h1 h2 hL
  obtain ⟨xf, xt⟩ := x
  show Calls Tryz.prog 85 #[.agg #[strV xf, strV xt], .pointer (some ⟨B, 0, none⟩)] W _
  go_enter Tryz.func85, Tryz.ntmps85
  go_wp2_with fail
  refine (dropped_any Any1 vt vn vs L xt _ (HV.out.below ((Below.refl _ _).alloc (Nat.le_refl _) _)) hn).mono ?_
  rintro e w1 ⟨rfl, hb1⟩
  go_wp2_with fail
  go_ret
  exact ⟨rfl, (HBb.out.alloc HBb.out.size _).trans (hb1.mono (by have := HBb.out.size; simp; omega))⟩
set_option maxHeartbeats 400000 in
theorem contP_nil (a : Option Addr) (c : Nat) (f : Value) (w : World) :
    Calls Tryz.prog 84 #[.slice a 0 c, f] w fun e w' => e = .returned (.bool false) ∧ w = w' := by
  go_enter Tryz.func84, Tryz.ntmps84
  go_wp2_with fail
  refine (idxP_nil a c _ _).mono ?_
  rintro e w1 ⟨rfl, rfl⟩
  go_wp2_with fail
  go_ret
  exact ⟨rfl, rfl⟩
theorem contP_any (p : P2 → Bool) (g : Nat) (lb : Array Value) (eg : ∀ args w, (callFunc g args).run Tryz.prog w = .ok (.enter g args) w) (S : Nat → Prop) (v : Value) (L : List P2) (w : World) (h : Vec w S 2 encP v L) (hn : L.length ≤ 1000000) (hp : PredBelow Tryz.prog g lb (fun x => .agg (encP x).toArray) p w) :
    Calls Tryz.prog 84 #[v, .func (.func g) #[] lb] w fun e w' => e = .returned (.bool (L.any p)) ∧ Below w.heap.size w w' := by
  obtain ⟨a, cap, rfl, hcap, h0⟩ := h
  by_cases hz : L = []
  · subst hz
    exact (contP_nil a cap _ w).mono fun e w' ⟨he, hw⟩ => ⟨he, by rw [← hw]; exact Below.refl _ _⟩
  · obtain ⟨b, off, rfl, _, hb, hc⟩ := h0 (List.length_pos_iff.2 hz)
    have hcon := AnyQ.slices_ContainsFunc Tryz.laysCP 2 Tryz.isAgg83 Tryz.sizeOf83 encP (fun _ => rfl) p g lb eg b off L.length cap L w hp (Nat.le_refl _) (by omega) hb (fun j hj i u hi => by
        have e : L[j]? = some L[j]! := by rw [List.getElem?_eq_getElem hj, getElem!_pos L j hj]
        exact hc j _ e i u hi)
    rw [List.take_of_length_le (Nat.le_refl _)] at hcon
    exact hcon
def checkR (r : RulesL) : Int :=
  if 32 < r.titles.length ∨ 32 < r.nicks.length ∨ 32 < r.streets.length then 1
  else if titlesB r.titles = true ∧ pairsB r.nicks = true ∧ pairsB r.streets = true then (if (r.nicks.any fun x => hasB r.titles x.2) = true then 5 else 0) else 5
set_option maxHeartbeats 2000000 in
theorem rcheck_any (S : Nat → Prop) (vt vn vs : Value) (r : RulesL) (w : World) (h : RulesAt w S vt vn vs r) :
    Calls Tryz.prog 52 #[.agg #[vt, vn, vs]] w fun e w' => e = .returned (.int .i64 (checkR r)) ∧ Below w.heap.size w w' := by
  obtain ⟨lt, ln, ls⟩ := r
  obtain ⟨h1, h2, h3⟩ := h
  dsimp only at h1 h2 h3
  obtain ⟨at1, ct, rfl⟩ := h1.slice
  obtain ⟨an, cn, rfl⟩ := h2.slice
  obtain ⟨as', cs, rfl⟩ := h3.slice
  have H1 := Lib.hid h1.any; have H2 := Lib.hid h2.any; have H3 := Lib.hid h3.any
  clear h1 h2 h3
  have hfin : ∀ n : Int, checkR ⟨lt, ln, ls⟩ = n → Ending.returned (.int .i64 n) = .returned (.int .i64 (checkR ⟨lt, ln, ls⟩)) := fun n h => by rw [h]
  have HF := Lib.hid hfin; clear hfin
  by_cases g1 : 32 < lt.length
  · have e1 : decide ((32 : Int) < lt.length) = true := by simp; omega
    go_enter Tryz.func52, Tryz.ntmps52
    go_wp2_with fail
    go_ret
    exact ⟨HF.out 1 (by unfold checkR; rw [if_pos (.inl g1)]), (Below.refl _ _).alloc (Nat.le_refl _) _⟩
  · have e1 : decide ((32 : Int) < lt.length) = false := by simp; omega
    by_cases g2 : 32 < ln.length
    · have e2 : decide ((32 : Int) < ln.length) = true := by simp; omega
      go_enter Tryz.func52, Tryz.ntmps52
      go_wp2_with fail
      go_ret
      exact ⟨HF.out 1 (by unfold checkR; rw [if_pos (.inr (.inl g2))]), (Below.refl _ _).alloc (Nat.le_refl _) _⟩
    · have e2 : decide ((32 : Int) < ln.length) = false := by simp; omega
      by_cases g3 : 32 < ls.length
      · have e3 : decide ((32 : Int) < ls.length) = true := by simp; omega
        go_enter Tryz.func52, Tryz.ntmps52
        go_wp2_with fail
        go_ret
        exact ⟨HF.out 1 (by unfold checkR; rw [if_pos (.inr (.inr g3))]), (Below.refl _ _).alloc (Nat.le_refl _) _⟩
      · have e3 : decide ((32 : Int) < ls.length) = false := by simp; omega
        go_enter Tryz.func52, Tryz.ntmps52
        go_wp2_with fail
        clear e1 e2 e3
        refine (titles_any Any1 _ lt _ (H1.out.below ((Below.refl _ _).alloc (Nat.le_refl _) _)) (by omega)).mono ?_
        rintro e w1 ⟨rfl, hb1⟩
        have X1 : w1.heap[w.heap.size]? = some (.cells #[.slice at1 lt.length ct, .slice an ln.length cn, .slice as' ls.length cs] 31 (0, 0)) := blk_below hb1 (by simp) (blk_new rfl)
        obtain ⟨p0, p1, p2⟩ := cells3 X1
        have z1 := lt_of_blk X1
        have HB1 := Lib.hid (((Below.refl w.heap.size w).alloc (Nat.le_refl _) _).trans (hb1.mono (by simp)))
        have HX1 := Lib.hid X1; clear X1 hb1
        cases ht : titlesB lt
        · have HT := Lib.hid ht; clear ht
          go_wp2_with fail
          go_ret
          exact ⟨HF.out 5 (by unfold checkR; rw [if_neg (show ¬ (32 < lt.length ∨ 32 < ln.length ∨ 32 < ls.length) by omega), HT.out]; simp), HB1.out⟩
        · have HT := Lib.hid ht; clear ht
          go_wp2_with fail
          refine (pairs_any Any1 _ ln _ (H2.out.below HB1.out) (by omega)).mono ?_
          rintro e w2 ⟨rfl, hb2⟩
          clear p0 p1 p2
          have X2 := blk_below hb2 z1 HX1.out
          obtain ⟨p0, p1, p2⟩ := cells3 X2
          have z2 := lt_of_blk X2
          have HB2 := Lib.hid (HB1.out.trans (hb2.mono HB1.out.size))
          have HX2 := Lib.hid X2; clear X2 hb2 HX1 HB1
          cases hp : pairsB ln
          · have HP := Lib.hid hp; clear hp
            go_wp2_with fail
            go_ret
            exact ⟨HF.out 5 (by unfold checkR; rw [if_neg (show ¬ (32 < lt.length ∨ 32 < ln.length ∨ 32 < ls.length) by omega), HP.out]; simp), HB2.out⟩
          · have HP := Lib.hid hp; clear hp
            go_wp2_with fail
            refine (pairs_any Any1 _ ls _ (H3.out.below HB2.out) (by omega)).mono ?_
            rintro e w3 ⟨rfl, hb3⟩
            clear p0 p1 p2
            have X3 := blk_below hb3 z2 HX2.out
            obtain ⟨p0, p1, p2⟩ := cells3 X3
            have z3 := lt_of_blk X3
            have HB3 := Lib.hid (HB2.out.trans (hb3.mono HB2.out.size))
            have HX3 := Lib.hid X3; clear X3 hb3 HX2 HB2
            cases hq : pairsB ls
            · have HQ := Lib.hid hq; clear hq
              go_wp2_with fail
              go_ret
              exact ⟨HF.out 5 (by unfold checkR; rw [if_neg (show ¬ (32 < lt.length ∨ 32 < ln.length ∨ 32 < ls.length) by omega), HQ.out]; simp), HB3.out⟩
            · have HQ := Lib.hid hq; clear hq
              go_wp2_with fail
              have eg : ∀ args w, (callFunc 85 args).run Tryz.prog w = .ok (.enter 85 args) w := enters_of Tryz.func85 (by kernel_rfl) rfl
              refine (contP_any (fun x => hasB lt x.2) 85 #[.pointer (some ⟨w.heap.size, 0, none⟩)] eg Any1 _ ln _ (H2.out.below HB3.out) (by omega) (pred_check _ _ _ lt w.heap.size _ (H1.out.below HB3.out) (by omega) z3 p0 p1 p2)).mono ?_
              rintro e w4 ⟨rfl, hb4⟩
              have HB4 := Lib.hid (HB3.out.trans (hb4.mono HB3.out.size))
              clear hb4 eg p0 p1 p2
              cases hr : ln.any fun x => hasB lt x.2
              · have HR := Lib.hid hr; clear hr
                go_wp2_with fail
                go_ret
                exact ⟨HF.out 0 (by unfold checkR; rw [if_neg (show ¬ (32 < lt.length ∨ 32 < ln.length ∨ 32 < ls.length) by omega), if_pos ⟨HT.out, HP.out, HQ.out⟩, if_neg (by rw [HR.out]; simp)]), HB4.out⟩
              · have HR := Lib.hid hr; clear hr
                go_wp2_with fail
                go_ret
                exact ⟨HF.out 5 (by unfold checkR; rw [if_neg (show ¬ (32 < lt.length ∨ 32 < ln.length ∨ 32 < ls.length) by omega), if_pos ⟨HT.out, HP.out, HQ.out⟩, if_pos HR.out]), HB4.out⟩
end Go.Proofs.YtfgoiojmbphmnaaGreatDoor
end
section
/- name: Canonical, Normalise, Normal. -/
set_option linter.unusedSimpArgs false
set_option linter.unusedVariables false
set_option maxRecDepth 100000
namespace Go.Proofs.YtfgoiojmbphmnaaGreatDoor
open Go.RowKit
attribute [local go_sem] toList_mk mk_size
/-- what a token becomes by rules -/
def canonL : List P2 → List UInt8 → List UInt8
  | [], s => s
  | p :: L, s => if p.1 == s then p.2 else canonL L s
theorem canon_from (s : List UInt8) : ∀ (L : List P2) (i : Nat), (Lib.idxByFrom (fun _ (y : P2) => y.1 == s) default L i < 0 ∧ canonL L s = s) ∨ (∃ k, k < L.length ∧ Lib.idxByFrom (fun _ (y : P2) => y.1 == s) default L i = ((i + k : Nat) : Int) ∧ (L.getD k default).2 = canonL L s) := by
  intro L
  induction L with
  | nil => intro i; left; simp [Lib.idxByFrom, canonL]
  | cons p L ih =>
    intro i
    cases h : p.1 == s
    · simp only [Lib.idxByFrom, canonL, h]
      rcases ih (i + 1) with ⟨h1, h2⟩ | ⟨k, h1, h2, h3⟩
      · left; exact ⟨by simpa using h1, by simpa using h2⟩
      · right
        refine ⟨k + 1, by simp; omega, ?_, by simpa using h3⟩
        simp only [Bool.false_eq_true, if_false]
        rw [h2]; congr 1; omega
    · right
      exact ⟨0, by simp, by simp [Lib.idxByFrom, h], by simp [canonL, h]⟩
theorem canon_find (L : List P2) (s : List UInt8) : (findI L s < 0 ∧ canonL L s = s) ∨ (∃ k, k < L.length ∧ findI L s = (k : Int) ∧ (L.getD k default).2 = canonL L s) := by
  have := canon_from s L 0
  simpa [findI, Lib.idxBy] using this
set_option maxHeartbeats 1000000 in
theorem canonical_any (S : Nat → Prop) (vt vn vs : Value) (L : List P2) (s : List UInt8) (w : World) (h : Vec w S 2 encP vn L) (hn : L.length ≤ 1000000) :
    Calls Tryz.prog 136 #[.agg #[vt, vn, vs], strV s] w fun e w' => e = .returned (strV (canonL L s)) ∧ Below w.heap.size w w' := by
  obtain ⟨an, cn, rfl⟩ := h.slice
  have HV := Lib.hid h; clear h
  have hcf := canon_find L s
  go_enter Tryz.func136, Tryz.ntmps136
  go_wp2_with fail
  refine (find_any S _ L s _ (HV.out.below ((Below.refl _ _).alloc (Nat.le_refl _) _)) hn).mono ?_
  rintro e w1 ⟨rfl, hb1⟩
  have X1 : w1.heap[w.heap.size]? = some (.cells #[vt, .slice an L.length cn, vs] 31 (0, 0)) := blk_below hb1 (by simp) (blk_new rfl)
  obtain ⟨p0, p1, p2⟩ := cells3 X1
  have HB1 := Lib.hid (((Below.refl w.heap.size w).alloc (Nat.le_refl _) _).trans (hb1.mono (by simp)))
  clear X1 hb1
  rcases hcf with ⟨h1, h2⟩ | ⟨k, hk, h1, h2⟩
  · have H2 := Lib.hid h2; clear h2
    generalize findI L s = n at *
    go_wp2_with fail
    go_ret
    exact ⟨by rw [H2.out]; rfl, HB1.out⟩
  · rw [h1]
    obtain ⟨b, off, rfl, _, hb, hc⟩ := vec_cell2 HV.out (by omega)
    have hc1 := hc k hk 1 _ rfl
    rw [h2] at hc1
    have c1 : w1.cell? ⟨b, off + k * 2 + 1, none⟩ = some (strV (canonL L s)) := (HB1.out.cell (p := ⟨b, off + k * 2 + 1, none⟩) hb).trans hc1
    clear hc hc1 h1 h2
    have hk' : (k : Int) < (L.length : Int) := by omega
    obtain ⟨y, hy⟩ : ∃ y, canonL L s = y := ⟨_, rfl⟩
    rw [hy] at c1
    have HY := Lib.hid hy; clear hy
    go_wp2_with fail
    go_ret
    exact ⟨by rw [HY.out]; rfl, HB1.out⟩
theorem infoS : (Tryz.prog.info? 9).map (fun i => (i.zero, i.size, i.bytes)) = some (some (.string ⟨#[]⟩), 1, 16) := by kernel_rfl
/-- what becomes of a token: nothing, or one -/
def normTok (r : RulesL) (t : List UInt8) : List (List UInt8) := if (lettersL t).isEmpty || hasB r.titles (lettersL t) then [] else [canonL r.nicks (lettersL t)]
def nameToks (r : RulesL) (L : List (List UInt8)) : List (List UInt8) := L.flatMap (normTok r)
/-- the normal form of a name, and the error -/
def nameN (r : RulesL) (l : List UInt8) : List UInt8 × Int :=
  if checkR r = 0 then (if foldV l = true then (if 6 < (nameToks r (toks (foldL l))).length ∨ 64 < (joinL (nameToks r (toks (foldL l)))).length then ([], 1) else (joinL (nameToks r (toks (foldL l))), 0)) else ([], 3)) else ([], checkR r)
def pairV (p : List UInt8 × Int) : Value := .tuple #[strV p.1, .int .i64 p.2]
theorem nameToks_snoc (r : RulesL) (L : List (List UInt8)) (t : List UInt8) : nameToks r (L ++ [t]) = nameToks r L ++ normTok r t := by simp [nameToks]
theorem normTok_len (r : RulesL) (t : List UInt8) : (normTok r t).length ≤ 1 := by unfold normTok; split <;> simp
theorem nameToks_len (r : RulesL) (L : List (List UInt8)) : (nameToks r L).length ≤ L.length := by
  induction L with
  | nil => simp [nameToks]
  | cons t L ih =>
    have := normTok_len r t
    simp only [nameToks, List.flatMap_cons, List.length_append, List.length_cons] at *
    omega
theorem check_zero {r : RulesL} (h : checkR r = 0) : (r.titles.length ≤ 32 ∧ r.nicks.length ≤ 32 ∧ r.streets.length ≤ 32) ∧ titlesB r.titles = true ∧ pairsB r.nicks = true ∧ pairsB r.streets = true ∧ (r.nicks.any fun x => hasB r.titles x.2) = false := by
  unfold checkR at h
  split at h
  · omega
  · split at h
    · rename_i h1 h2
      split at h
      · omega
      · rename_i h3
        exact ⟨by omega, h2.1, h2.2.1, h2.2.2, by simpa using h3⟩
    · omega
theorem pairs_at {L : List P2} (h : pairsB L = true) (j : Nat) (hj : j < L.length) : pairAtB L j = true := List.all_eq_true.1 h j (List.mem_range.2 hj)
theorem token_len {t : List UInt8} (h : tokenB t = true) : t.length ≤ 64 := by
  unfold tokenB at h
  cases h1 : t.isEmpty <;> simp [h1] at h
  exact h.1
theorem canon_len {L : List P2} (h : pairsB L = true) (s : List UInt8) (hs : s.length ≤ 64) : (canonL L s).length ≤ 64 := by
  rcases canon_find L s with ⟨_, h2⟩ | ⟨k, hk, _, h3⟩
  · rw [h2]; exact hs
  · rw [← h3]
    have := pairs_at h k hk
    unfold pairAtB at this
    simp only [Bool.and_eq_true] at this
    exact token_len this.1.1.2
theorem join_le {m : Nat} : ∀ (L : List (List UInt8)), (∀ t ∈ L, t.length ≤ m) → (joinL L).length ≤ L.length * (m + 1) := by
  intro L
  induction L with
  | nil => intro _; simp [joinL]
  | cons t L ih =>
    intro h
    have h1 := ih fun t ht => h t (List.mem_cons_of_mem _ ht)
    have h2 := h t List.mem_cons_self
    by_cases hL : L = []
    · subst hL; simp [joinL]; omega
    · rw [join_cons_ne _ _ hL]
      simp only [List.length_append, List.length_cons, List.length_nil, Nat.succ_mul] at *
      omega
theorem toks_le (l : List UInt8) : ∀ p, ∀ t ∈ toksA p l, t.length ≤ p.length + l.length := by
  induction l with
  | nil =>
    intro p t ht
    simp only [toksA] at ht
    split at ht
    · simp at ht
    · simp at ht; subst ht; simp
  | cons c l ih =>
    intro p t ht
    by_cases hc : c = 32
    · subst hc
      by_cases hp : p = []
      · subst hp
        rw [toksA_sp0] at ht
        have := ih [] t ht
        simp at *; omega
      · rw [toksA_sp _ _ hp] at ht
        rcases List.mem_cons.1 ht with rfl | ht
        · simp
        · have := ih [] t ht
          simp at *; omega
    · rw [toksA_ch _ _ _ hc] at ht
      have := ih _ t ht
      simp at *; omega
theorem nameToks_le {r : RulesL} (h : pairsB r.nicks = true) {L : List (List UInt8)} (hL : ∀ t ∈ L, t.length ≤ 64) : ∀ t ∈ nameToks r L, t.length ≤ 64 := by
  intro t ht
  obtain ⟨x, hx, ht⟩ := List.mem_flatMap.1 ht
  unfold normTok at ht
  split at ht
  · simp at ht
  · simp at ht; subst ht
    exact canon_len h _ (Nat.le_trans (letters_len x) (hL x hx))
end Go.Proofs.YtfgoiojmbphmnaaGreatDoor
end
