/- Parts of one proof: TextC, Read, Vec, Shelf, TextD, TextE, TextF, NameA. -/
import Derived.Test.YtfgoiojmbphmnaaGreatDoorPartSchemaForms1
import Derived.Lib.FieldsP
import Derived.Lib.Join
import Derived.Shelf.Strings.Builder1
import Derived.Shelf.Strings.Builder2
import Derived.Shelf.Strings.OnBuilder
import Derived.Shelf.Strings.Trim
import Derived.Shelf.Small.Utf8
import Derived.Shelf.Small.Bits
import Derived.Shelf.Small.Strs
import Derived.Shelf.Strings.BuilderF
import Derived.Shelf.Strings.BuilderK
import Derived.Shelf.Strconv.Itoa0
import Derived.Shelf.Strings.Search1
import Derived.Shelf.Strings.Search2
import Derived.Shelf.Strings.Search3
import Derived.Shelf.Strings.Cut
import Derived.Shelf.Strings.Count
import Derived.Shelf.LaysM
import Derived.Shelf.Strings.Shaped
import Derived.Shelf.Strings.Split
import Derived.Shelf.Strings.SplitShaped
import Derived.Shelf.Unicode.Decode
import Derived.Shelf.Strings.Runes
import Derived.Shelf.Strings.RuneCount
import Derived.Shelf.Strings.AsciiSet
import Derived.Shelf.Strings.Explode
import Derived.Shelf.Unicode.DecodeSlow
import Derived.Shelf.Strings.FieldsFuncAny
import Derived.Shelf.Slices.Turned
import Derived.Shelf.Slices.In.SortNone
import Derived.Ground.SlgfProg
import Derived.Shelf.SlicesE.IndexFunc
import Derived.Test.YtfgoiojmbphmnaaGreatDoorProg
import Derived.Shelf.SlicesQ.IndexFunc
import Derived.Deep.WholeRow
import Derived.Deep.CutBlock
import Derived.Great.BuildSlice
import Derived.WalkLawsBesides
section
/- text: strings.FieldsFunc at a space, on ASCII bytes, gives the tokens; strings.Join gives them joined. Plain. -/
set_option linter.unusedSimpArgs false
set_option linter.unusedVariables false
namespace Go.Proofs.YtfgoiojmbphmnaaGreatDoor
open Go.RowKit
def ascii (l : List UInt8) : Prop := ∀ b ∈ l, b.toNat < 128
theorem decode_ascii (l : List UInt8) (h : ascii l) (pos : Nat) (hp : pos < l.length) : Utf8.decode ⟨l.toArray⟩ pos = (l[pos].toNat, 1) := by
  have hb := h _ (List.getElem_mem hp)
  have e : (ByteArray.get! ⟨l.toArray⟩ (pos + 0)) = l[pos] := by
    show l.toArray[pos]! = _
    rw [getElem!_pos l.toArray pos (by simpa using hp)]; simp
  unfold Utf8.decode
  simp only [e]
  rw [if_pos (by simpa using hb)]
def isSp (r : Nat) : Bool := r == 32
def curL (l : List UInt8) : Option Nat → Nat → List UInt8
  | none, _ => []
  | some a, pos => (l.take pos).drop a
def mkS (l : List UInt8) : ByteArray := ⟨l.toArray⟩
theorem ext_mk (l : List UInt8) (a b : Nat) (hb : b ≤ l.length) : (mkS l).extract a b = mkS ((l.take b).drop a) := by
  apply ByteArray.ext
  simp [mkS, ByteArray.data_extract, List.drop_take]
theorem toksA_end (p : List UInt8) (h : p ≠ []) : toksA p [] = [p] := by simp [toksA, h]
theorem toksA_sp0 (r : List UInt8) : toksA [] (32 :: r) = toksA [] r := by simp [toksA]
theorem toksA_sp (p r : List UInt8) (h : p ≠ []) : toksA p (32 :: r) = p :: toksA [] r := by simp [toksA, h]
theorem toksA_ch (p r : List UInt8) (c : UInt8) (h : c ≠ 32) : toksA p (c :: r) = toksA (p ++ [c]) r := by simp [toksA, h]
theorem cur_ne {l : List UInt8} {a pos : Nat} (h : a < pos) (h2 : pos ≤ l.length) : (l.take pos).drop a ≠ [] := by
  intro e; have := congrArg List.length e; simp at this; omega
theorem fields_aux (l : List UInt8) (h : ascii l) : ∀ f pos st acc, l.length ≤ pos + f → pos ≤ l.length → (∀ a, st = some a → a < pos) →
    ((Lib.closeSpans (mkS l) (Lib.spansFromP isSp (mkS l) f pos st acc)).map fun x => (mkS l).extract x.1 x.2) = (acc.map fun x => (mkS l).extract x.1 x.2) ++ (toksA (curL l st pos) (l.drop pos)).map mkS := by
  have hsz : (mkS l).size = l.length := by simp [mkS, ByteArray.size]
  have hfin : ∀ pos st (acc : List (Nat × Nat)), l.length ≤ pos → pos ≤ l.length → (∀ a, st = some a → a < pos) →
      ((Lib.closeSpans (mkS l) (acc, st)).map fun x => (mkS l).extract x.1 x.2) = (acc.map fun x => (mkS l).extract x.1 x.2) ++ (toksA (curL l st pos) (l.drop pos)).map mkS := by
    intro pos st acc h1 h2 h3
    rw [List.drop_eq_nil_of_le h1]
    cases st with
    | none => simp [Lib.closeSpans, curL, toksA]
    | some a =>
      have hn := cur_ne (l := l) (h3 a rfl) h2
      simp only [Lib.closeSpans, curL, toksA_end _ hn, List.map_append, List.map_cons, List.map_nil, hsz]
      rw [ext_mk l _ _ (Nat.le_refl _), List.take_of_length_le (Nat.le_refl _), List.take_of_length_le h1]
  intro f
  induction f with
  | zero =>
    intro pos st acc h1 h2 h3
    exact hfin pos st acc h1 h2 h3
  | succ f ih =>
    intro pos st acc h1 h2 h3
    by_cases hlt : pos < l.length
    · obtain ⟨c, hd, hdr, htk⟩ : ∃ c : UInt8, Utf8.decode (mkS l) pos = (c.toNat, 1) ∧ l.drop pos = c :: l.drop (pos + 1) ∧ l.take (pos + 1) = l.take pos ++ [c] :=
        ⟨l[pos], decode_ascii l h pos hlt, List.drop_eq_getElem_cons hlt, List.take_succ_eq_append_getElem hlt⟩
      have hlt' : pos < (mkS l).size := by rw [hsz]; exact hlt
      rw [hdr]
      by_cases hc : c = 32
      · have hp : isSp c.toNat = true := by rw [hc]; rfl
        cases st with
        | none =>
          simp only [Lib.spansFromP, hlt', if_true, hd]
          rw [if_pos hp]
          rw [ih (pos + 1) none acc (by omega) (by omega) (by simp), hc]
          simp only [curL, toksA_sp0]
        | some a =>
          have hn := cur_ne (l := l) (h3 a rfl) h2
          simp only [Lib.spansFromP, hlt', if_true, hd]
          rw [if_pos hp]
          rw [ih (pos + 1) none _ (by omega) (by omega) (by simp), hc]
          simp only [curL, toksA_sp _ _ hn, List.map_append, List.map_cons, List.map_nil, List.append_assoc, List.cons_append, List.nil_append]
          rw [ext_mk l _ _ (by omega)]
      · have hp : isSp c.toNat = false := by
          cases e : isSp c.toNat
          · rfl
          · exfalso; apply hc; unfold isSp at e; rw [← UInt8.toNat_inj]; simpa using e
        cases st with
        | none =>
          simp only [Lib.spansFromP, hlt', if_true, hd]
          rw [if_neg (by rw [hp]; exact Bool.false_ne_true)]
          rw [ih (pos + 1) (some pos) acc (by omega) (by omega) (by simp)]
          congr 2
          simp only [curL, toksA_ch _ _ _ hc, List.nil_append]
          rw [htk, List.drop_append_of_le_length (by simp; omega), List.drop_eq_nil_of_le (by simp; omega)]
          rfl
        | some a =>
          have hap := h3 a rfl
          simp only [Lib.spansFromP, hlt', if_true, hd]
          rw [if_neg (by rw [hp]; exact Bool.false_ne_true)]
          rw [ih (pos + 1) (some a) acc (by omega) (by omega) (by intro b hb; cases hb; omega)]
          congr 2
          simp only [curL, toksA_ch _ _ _ hc]
          rw [htk, List.drop_append_of_le_length (by simp; omega)]
    · rw [Lib.spansFromP_end _ _ _ _ _ _ (by rw [hsz]; exact hlt)]
      exact hfin pos st acc (by omega) h2 h3
theorem fields_toks (l : List UInt8) (h : ascii l) : Lib.goFieldsP isSp (mkS l) = (toks l).map mkS := by
  have hsz : (mkS l).size = l.length := by simp [mkS, ByteArray.size]
  have := fields_aux l h l.length 0 none [] (by omega) (by omega) (by simp)
  unfold Lib.goFieldsP Lib.spansOfP
  rw [hsz]
  exact this
theorem join_toks (L : List (List UInt8)) : Lib.join L [32] = joinL L := by
  induction L with
  | nil => rfl
  | cons a L ih =>
    cases L with
    | nil => rw [Lib.join_one]; rfl
    | cons b L =>
      rw [Lib.join_cons] at *
      simp only [Lib.joinTail, List.map_cons, List.flatten_cons, joinL] at *
      rw [← ih]
      simp
end Go.Proofs.YtfgoiojmbphmnaaGreatDoor
end
section
/- Rows of cells behind a slice value: what can be read, in blocks of a set S; handed on over whatever leaves these blocks as they are. -/
set_option linter.unusedSimpArgs false
set_option linter.unusedVariables false
namespace Go.Proofs.YtfgoiojmbphmnaaGreatDoor
open Go.RowKit
/-- v is a slice of n elements of size cells each; its cells are xs, in a block of S -/
def Row (w : World) (S : Nat → Prop) (size : Nat) (v : Value) (n : Nat) (xs : List Value) : Prop :=
  ∃ a cap, v = .slice a n cap ∧ xs.length = n * size ∧ (0 < xs.length → ∃ b off, a = some ⟨b, off, none⟩ ∧ S b ∧ ∀ j, j < xs.length → w.cell? ⟨b, off + j, none⟩ = xs[j]?)
/-- all blocks that are there -/
def All (w : World) (b : Nat) : Prop := b < w.heap.size
theorem Row.move {w w' : World} {S S' : Nat → Prop} {size : Nat} {v : Value} {n : Nat} {xs : List Value} (h : Row w S size v n xs) (hS : ∀ b, b < w.heap.size → S b → w'.heap[b]? = w.heap[b]? ∧ S' b) : Row w' S' size v n xs := by
  obtain ⟨a, cap, h1, h2, h3⟩ := h
  refine ⟨a, cap, h1, h2, fun h0 => ?_⟩
  obtain ⟨b, off, h4, h5, h6⟩ := h3 h0
  have hb : b < w.heap.size := by
    have := h6 0 h0
    rw [List.getElem?_eq_getElem h0] at this
    exact World.block_lt_of_cell? _ _ this
  obtain ⟨e1, e2⟩ := hS b hb h5
  exact ⟨b, off, h4, e2, fun j hj => (World.cell?_of_block (w := w) (a := ⟨b, off + j, none⟩) e1).trans (h6 j hj)⟩
theorem Row.below {w w' : World} {size : Nat} {v : Value} {n : Nat} {xs : List Value} (h : Row w (All w) size v n xs) (hb : Below w.heap.size w w') : Row w' (All w') size v n xs :=
  h.move fun b hb' _ => ⟨hb.block b hb', Nat.lt_of_lt_of_le hb' hb.size⟩
theorem Row.nil (w : World) (S : Nat → Prop) (size : Nat) : Row w S size (.slice none 0 0) 0 [] := ⟨none, 0, rfl, by simp, by simp⟩
theorem Row.slice {w : World} {S : Nat → Prop} {size : Nat} {v : Value} {n : Nat} {xs : List Value} (h : Row w S size v n xs) : ∃ a cap, v = .slice a n cap := by
  obtain ⟨a, cap, h1, _⟩ := h; exact ⟨a, cap, h1⟩
/-- a row that the call owns can be read -/
theorem Row.owns {w : World} {B : Nat} {e : TypeId} {size : Nat} {v : Value} {n : Nat} {xs : List Value} (h : w.ownsRow B e size v n xs) {S : Nat → Prop} (hS : ∀ b, B ≤ b → b < w.heap.size → S b) : Row w S size v n xs := by
  obtain ⟨hl, h⟩ := h
  rcases h with ⟨rfl, rfl⟩ | ⟨g, cap, cur, rfl, hg, hh, hn, hc, hsz, ht⟩
  · have : xs = [] := List.length_eq_zero_iff.1 (by omega)
    subst this
    exact Row.nil w S size
  · refine ⟨_, cap, rfl, hl, fun h0 => ⟨g, 0, rfl, hS g hg (lt_of_blk hh), fun j hj => ?_⟩⟩
    rw [cell_of_row w g (0 + j) cur e (0, 0) hh, Nat.zero_add, ← ht, List.getElem?_take, if_pos (by omega), Array.getElem?_toList]
/-- cells of element k, five cells each -/
theorem Row.five {w : World} {S : Nat → Prop} {n : Nat} {xs : List Value} {a : Option Addr} {cap : Nat} (h : Row w S 5 (.slice a n cap) n xs) (k : Nat) (hk : k < n) (x0 x1 x2 x3 x4 : Value) (e : (xs.drop (k * 5)).take 5 = [x0, x1, x2, x3, x4]) :
    ∃ b off, a = some ⟨b, off, none⟩ ∧ b < w.heap.size ∧ w.cell? ⟨b, off + k * 5, none⟩ = some x0 ∧ w.cell? ⟨b, off + k * 5 + 1, none⟩ = some x1 ∧ w.cell? ⟨b, off + k * 5 + 2, none⟩ = some x2 ∧ w.cell? ⟨b, off + k * 5 + 3, none⟩ = some x3 ∧ w.cell? ⟨b, off + k * 5 + 4, none⟩ = some x4 := by
  obtain ⟨a', cap', h1, h2, h3⟩ := h
  have hlen : k * 5 + 5 ≤ xs.length := by rw [h2]; omega
  obtain ⟨b, off, h4, h5, h6⟩ := h3 (by omega)
  cases h1
  have g : ∀ i, (hi : i < 5) → xs[k * 5 + i]? = [x0, x1, x2, x3, x4][i]? := by
    intro i hi
    rw [← e, List.getElem?_take, if_pos hi, List.getElem?_drop]
  have c : ∀ i, (hi : i < 5) → w.cell? ⟨b, off + k * 5 + i, none⟩ = [x0, x1, x2, x3, x4][i]? := by
    intro i hi
    rw [Nat.add_assoc, h6 _ (by omega), g i hi]
  have c0 := c 0 (by omega)
  exact ⟨b, off, h4, World.block_lt_of_cell? _ ⟨b, off + k * 5 + 0, none⟩ c0, c0, c 1 (by omega), c 2 (by omega), c 3 (by omega), c 4 (by omega)⟩
end Go.Proofs.YtfgoiojmbphmnaaGreatDoor
end
section
/- Slices of elements of k cells each that read as a list; handed on over whatever leaves their blocks as they are. -/
set_option linter.unusedSimpArgs false
set_option linter.unusedVariables false
namespace Go.Proofs.YtfgoiojmbphmnaaGreatDoor
open Go.RowKit
variable {α : Type}
def Vec (w : World) (S : Nat → Prop) (k : Nat) (enc : α → List Value) (v : Value) (L : List α) : Prop :=
  ∃ a cap, v = .slice a L.length cap ∧ L.length ≤ cap ∧ (0 < L.length → ∃ b off, a = some ⟨b, off, none⟩ ∧ S b ∧ b < w.heap.size ∧ ∀ j x, L[j]? = some x → ∀ i u, (enc x)[i]? = some u → w.cell? ⟨b, off + j * k + i, none⟩ = some u)
theorem Vec.move {w w' : World} {S S' : Nat → Prop} {k : Nat} {enc : α → List Value} {v : Value} {L : List α} (h : Vec w S k enc v L) (hz : w.heap.size ≤ w'.heap.size) (hS : ∀ b, b < w.heap.size → S b → w'.heap[b]? = w.heap[b]? ∧ S' b) : Vec w' S' k enc v L := by
  obtain ⟨a, cap, h1, h2, h3⟩ := h
  refine ⟨a, cap, h1, h2, fun h0 => ?_⟩
  obtain ⟨b, off, h4, h5, h5', h6⟩ := h3 h0
  obtain ⟨e1, e2⟩ := hS b h5' h5
  exact ⟨b, off, h4, e2, by omega, fun j x hj i u hu => (World.cell?_of_block (w := w) (a := ⟨b, off + j * k + i, none⟩) e1).trans (h6 j x hj i u hu)⟩
/-- any block -/
def Any1 (b : Nat) : Prop := True
theorem Vec.below {w w' : World} {S : Nat → Prop} {k : Nat} {enc : α → List Value} {v : Value} {L : List α} (h : Vec w S k enc v L) (hb : Below w.heap.size w w') : Vec w' S k enc v L :=
  h.move hb.size fun b hb' h => ⟨hb.block b hb', h⟩
theorem Vec.any {w : World} {S : Nat → Prop} {k : Nat} {enc : α → List Value} {v : Value} {L : List α} (h : Vec w S k enc v L) : Vec w Any1 k enc v L :=
  h.move (Nat.le_refl _) fun b hb' h => ⟨rfl, trivial⟩
theorem Vec.nil (w : World) (S : Nat → Prop) (k : Nat) (enc : α → List Value) : Vec w S k enc (.slice none 0 0) [] := ⟨none, 0, rfl, by simp, by simp⟩
theorem Vec.slice {w : World} {S : Nat → Prop} {k : Nat} {enc : α → List Value} {v : Value} {L : List α} (h : Vec w S k enc v L) : ∃ a cap, v = .slice a L.length cap := by
  obtain ⟨a, cap, h1, _⟩ := h; exact ⟨a, cap, h1⟩
theorem flat_get {k : Nat} {enc : α → List Value} (hk : ∀ x, (enc x).length = k) : ∀ (L : List α) (j : Nat) (x : α), L[j]? = some x → ∀ i, i < k → (L.flatMap enc)[j * k + i]? = (enc x)[i]? := by
  intro L
  induction L with
  | nil => intro j x h; simp at h
  | cons y L ih =>
    intro j x h i hi
    rw [List.flatMap_cons]
    cases j with
    | zero =>
      simp at h; subst h
      rw [List.getElem?_append_left (by rw [hk]; omega)]; simp
    | succ j =>
      rw [List.getElem?_append_right (by rw [hk, Nat.succ_mul]; omega), hk]
      rw [show (j + 1) * k + i - k = j * k + i by rw [Nat.succ_mul]; omega]
      exact ih j x (by simpa using h) i hi
theorem flat_len {k : Nat} {enc : α → List Value} (hk : ∀ x, (enc x).length = k) (L : List α) : (L.flatMap enc).length = L.length * k := by
  induction L with
  | nil => simp
  | cons y L ih => rw [List.flatMap_cons, List.length_append, hk, ih, List.length_cons, Nat.succ_mul]; omega
/-- a row that the call owns reads as its list -/
theorem Vec.owns {w : World} {B : Nat} {e : TypeId} {k : Nat} {enc : α → List Value} (hk : ∀ x, (enc x).length = k) {v : Value} {L : List α} (h : w.ownsRow B e k v L.length (L.flatMap enc)) {S : Nat → Prop} (hS : ∀ b, B ≤ b → b < w.heap.size → S b) : Vec w S k enc v L := by
  obtain ⟨hl, h⟩ := h
  rcases h with ⟨rfl, h0⟩ | ⟨g, cap, cur, rfl, hg, hh, hn, hc, hsz, ht⟩
  · have : L = [] := List.length_eq_zero_iff.1 h0
    subst this
    exact Vec.nil w S k enc
  · refine ⟨_, cap, rfl, hn, fun h0 => ⟨g, 0, rfl, hS g hg (lt_of_blk hh), lt_of_blk hh, fun j x hj i u hu => ?_⟩⟩
    have hi : i < k := by rw [← hk x]; exact (List.getElem?_eq_some_iff.1 hu).1
    rw [cell_of_row w g (0 + j * k + i) cur e (0, 0) hh, Nat.zero_add]
    have hx := flat_get hk L j x hj i hi
    rw [hu, ← ht, List.getElem?_take] at hx
    split at hx
    · rw [← Array.getElem?_toList]; exact hx
    · cases hx
/-- element j of a row -/
theorem Vec.get {w : World} {S : Nat → Prop} {k : Nat} {enc : α → List Value} {a : Option Addr} {n cap : Nat} {L : List α} (h : Vec w S k enc (.slice a n cap) L) (j : Nat) (hj : j < L.length) :
    ∃ b off, a = some ⟨b, off, none⟩ ∧ b < w.heap.size ∧ ∀ i u, (enc L[j])[i]? = some u → w.cell? ⟨b, off + j * k + i, none⟩ = some u := by
  obtain ⟨a', cap', h1, h2, h3⟩ := h
  cases h1
  obtain ⟨b, off, h4, h5, h5', h6⟩ := h3 (by omega)
  exact ⟨b, off, h4, h5', fun i u hu => h6 j _ (List.getElem?_eq_getElem hj) i u hu⟩
theorem Vec.len {w : World} {S : Nat → Prop} {k : Nat} {enc : α → List Value} {a : Option Addr} {n cap : Nat} {L : List α} (h : Vec w S k enc (.slice a n cap) L) : n = L.length ∧ n ≤ cap := by
  obtain ⟨a', cap', h1, h2, h3⟩ := h
  cases h1; exact ⟨rfl, h2⟩
end Go.Proofs.YtfgoiojmbphmnaaGreatDoor
end
section
/-
  DERIVED: THE SHELF's CONTRACTS AT THIS DUMP, IN PLAIN WORDS (tools/lay-plain.mjs out of 'TryzShelf.lean', which tools/lay-shelf.mjs wrote): THE SAME DECLARATIONS UNDER THE SAME NAMES: 'import', 'namespace', 'open', 'def', 'theorem' AND NOTHING ELSE: no command of the shelf's: FOR A HAND-IN. Each laying: the table of numbers ('.._ren') and one theorem, a field a fact of the dump's own or the kernel's comparison; each contract: ONE APPLICATION.
-/
namespace Go.Proofs
open Go.Shelf
def Tryz.lays169_ren : Go.Shelf.Ren := ⟨fun | 169 => 70 | n => n, fun | 70 => 92 | 9 => 9 | 0 => 0 | 72 => 94 | 37 => 66 | 127 => 124 | 3 => 3 | 5 => 5 | n => n, fun | n => n⟩
theorem Tryz.lays169 : Go.Proofs.Lays.n169 Tryz.prog Tryz.lays169_ren := {
  mixed := by kernel_rfl
  f169 := Tryz.func70.trans (congrArg some (by kernel_rfl))
  t0 := Tryz.underlying0
  a0 := Tryz.isAgg0
  z0 := Tryz.sizeOf0
  v0 := Tryz.zeroValue0
  t3 := Tryz.underlying3
  a3 := Tryz.isAgg3
  z3 := Tryz.sizeOf3
  v3 := Tryz.zeroValue3
  t9 := Tryz.underlying9
  a9 := Tryz.isAgg9
  z9 := Tryz.sizeOf9
  v9 := Tryz.zeroValue9
  t37 := Tryz.underlying66
  a37 := Tryz.isAgg66
  z37 := Tryz.sizeOf66
  v37 := Tryz.zeroValue66
  t70 := Tryz.underlying92
  a70 := Tryz.isAgg92
  z70 := Tryz.sizeOf92
  v70 := Tryz.zeroValue92
  t72 := Tryz.underlying94
  a72 := Tryz.isAgg94
  z72 := Tryz.sizeOf94
  v72 := Tryz.zeroValue94
  t127 := Tryz.underlying124
  a127 := Tryz.isAgg124
  z127 := Tryz.sizeOf124
  v127 := Tryz.zeroValue124 }
theorem Tryz.Builder_Extra_169 : Builder.Extra Tryz.prog Tryz.lays169_ren := {
  sizeBuilder := by kernel_rfl
  liesBuilder := by kernel_rfl
  t5 := Tryz.underlying5
  a5 := Tryz.isAgg5
  z5 := Tryz.sizeOf5
  v5 := Tryz.zeroValue5
  infoByte := by kernel_rfl
  cellsByte := by kernel_rfl
  sizeByte := by kernel_rfl
  neB5 := by decide }
open Go.RowKit in
/-- (*strings.Builder).String: "String returns the accumulated string.": WHATEVER THE BUILDER HOLDS. (LAID: no walk: one application.) -/
theorem Tryz.Builder_String_any (B b : Nat) (l : List UInt8) (w : World) (h : Lib.IsBuilder 94 5 B b (Lib.byteCells l) w) (hBw : B ≤ w.heap.size) :
    Calls Tryz.prog 70 #[.pointer (some ⟨b, 0, none⟩)] w fun e w' => e = .returned (.string ⟨l.toArray⟩) ∧ Below B w w' := Any.Builder_String_any Tryz.lays169 Tryz.Builder_Extra_169 B b l w h hBw
def Tryz.lays156_ren : Go.Shelf.Ren := ⟨fun | 156 => 102 | 165 => 133 | 166 => 66 | 169 => 70 | 240 => 101 | 241 => 152 | 276 => 132 | 277 => 173 | n => n, fun | 31 => 28 | 9 => 9 | 3 => 3 | 4 => 4 | 0 => 0 | 20 => 20 | 72 => 94 | 76 => 97 | 70 => 92 | 37 => 66 | 75 => 96 | 127 => 124 | 164 => 135 | 5 => 5 | 80 => 43 | n => n, fun | n => n⟩
theorem Tryz.lays156 : Go.Proofs.Lays.n156 Tryz.prog Tryz.lays156_ren := {
  mixed := by kernel_rfl
  f156 := Tryz.func102.trans (congrArg some (by kernel_rfl))
  f165 := Tryz.func133.trans (congrArg some (by kernel_rfl))
  f166 := Tryz.func66.trans (congrArg some (by kernel_rfl))
  f169 := Tryz.func70.trans (congrArg some (by kernel_rfl))
  f240 := Tryz.func101.trans (congrArg some (by kernel_rfl))
  f241 := Tryz.func152.trans (congrArg some (by kernel_rfl))
  f276 := Tryz.func132.trans (congrArg some (by kernel_rfl))
  f277 := Tryz.func173.trans (congrArg some (by kernel_rfl))
  t0 := Tryz.underlying0
  a0 := Tryz.isAgg0
  z0 := Tryz.sizeOf0
  v0 := Tryz.zeroValue0
  t3 := Tryz.underlying3
  a3 := Tryz.isAgg3
  z3 := Tryz.sizeOf3
  v3 := Tryz.zeroValue3
  t4 := Tryz.underlying4
  a4 := Tryz.isAgg4
  z4 := Tryz.sizeOf4
  v4 := Tryz.zeroValue4
  t9 := Tryz.underlying9
  a9 := Tryz.isAgg9
  z9 := Tryz.sizeOf9
  v9 := Tryz.zeroValue9
  t20 := Tryz.underlying20
  a20 := Tryz.isAgg20
  z20 := Tryz.sizeOf20
  v20 := Tryz.zeroValue20
  t31 := Tryz.underlying28
  a31 := Tryz.isAgg28
  z31 := Tryz.sizeOf28
  v31 := Tryz.zeroValue28
  t37 := Tryz.underlying66
  a37 := Tryz.isAgg66
  z37 := Tryz.sizeOf66
  v37 := Tryz.zeroValue66
  t70 := Tryz.underlying92
  a70 := Tryz.isAgg92
  z70 := Tryz.sizeOf92
  v70 := Tryz.zeroValue92
  t72 := Tryz.underlying94
  a72 := Tryz.isAgg94
  z72 := Tryz.sizeOf94
  v72 := Tryz.zeroValue94
  t75 := Tryz.underlying96
  a75 := Tryz.isAgg96
  z75 := Tryz.sizeOf96
  v75 := Tryz.zeroValue96
  t76 := Tryz.underlying97
  a76 := Tryz.isAgg97
  z76 := Tryz.sizeOf97
  v76 := Tryz.zeroValue97
  t127 := Tryz.underlying124
  a127 := Tryz.isAgg124
  z127 := Tryz.sizeOf124
  v127 := Tryz.zeroValue124
  t164 := Tryz.underlying135
  a164 := Tryz.isAgg135
  z164 := Tryz.sizeOf135
  v164 := Tryz.zeroValue135 }
theorem Tryz.Builder_Extra_156 : Builder.Extra Tryz.prog Tryz.lays156_ren := {
  sizeBuilder := by kernel_rfl
  liesBuilder := by kernel_rfl
  t5 := Tryz.underlying5
  a5 := Tryz.isAgg5
  z5 := Tryz.sizeOf5
  v5 := Tryz.zeroValue5
  infoByte := by kernel_rfl
  cellsByte := by kernel_rfl
  sizeByte := by kernel_rfl
  neB5 := by decide }
open Go.RowKit in
/-- No element: the empty string; the world is as it was. (Whatever the slice's address and capacity: a nil slice too.) (LAID: no walk: one application.) -/
theorem Tryz.strings_Join_none (a : Option Addr) (c : Nat) (sep : ByteArray) (w : World) :
    Calls Tryz.prog 102 #[.slice a 0 c, .string sep] w fun e w' => e = .returned (.string ⟨#[]⟩) ∧ w' = w := Any.strings_Join_none Tryz.lays156 Tryz.Builder_Extra_156 a c sep w
open Go.RowKit in
/-- strings.Join: "Join concatenates the elements of its first argument to create a single string. The separator string sep is placed between elements in the resulting string.": HOWEVER MANY ELEMENTS. Below the heap's end the world is as it was. (LAID: no walk: one application.) -/
theorem Tryz.strings_Join (bk o c : Nat) (xs : List ByteArray) (sep : ByteArray) (w : World) (hcells : ∀ (j : Nat) x, xs[j]? = some x → w.cell? ⟨bk, o + j, none⟩ = some (.string x)) (hbk : bk < w.heap.size) (hN : xs.length ≤ 140737488355328) (hcap : xs.length ≤ c) (hlen : (Lib.join (xs.map (·.data.toList)) sep.data.toList).length ≤ 140737488355328) :
    Calls Tryz.prog 102 #[.slice (some ⟨bk, o, none⟩) xs.length c, .string sep] w fun e w' => e = .returned (.string ⟨(Lib.join (xs.map (·.data.toList)) sep.data.toList).toArray⟩) ∧ Below w.heap.size w w' := Any.strings_Join Tryz.lays156 Tryz.Builder_Extra_156 bk o c xs sep w hcells hbk hN hcap hlen
def Tryz.lays161_ren : Go.Shelf.Ren := ⟨fun | 161 => 165 | 231 => 178 | 227 => 179 | 233 => 180 | 235 => 181 | 228 => 188 | 197 => 171 | 151 => 189 | 260 => 184 | 152 => 201 | 137 => 208 | 119 => 209 | 224 => 168 | 225 => 167 | 217 => 166 | 266 => 182 | n => n, fun | 9 => 9 | 4 => 4 | 3 => 3 | 5 => 5 | 117 => 168 | 116 => 167 | 0 => 0 | 124 => 171 | 105 => 158 | 21 => 21 | 119 => 179 | 46 => 74 | 139 => 182 | 138 => 181 | n => n, fun | 3 => 1 | 4 => 2 | n => n⟩
theorem Tryz.lays161 : Go.Proofs.Lays.n161 Tryz.prog Tryz.lays161_ren := {
  mixed := by kernel_rfl
  f119 := Tryz.func209.trans (congrArg some (by kernel_rfl))
  f137 := Tryz.func208.trans (congrArg some (by kernel_rfl))
  f151 := Tryz.func189.trans (congrArg some (by kernel_rfl))
  f152 := Tryz.func201.trans (congrArg some (by kernel_rfl))
  f161 := Tryz.func165.trans (congrArg some (by kernel_rfl))
  f197 := Tryz.func171.trans (congrArg some (by kernel_rfl))
  f217 := Tryz.func166.trans (congrArg some (by kernel_rfl))
  f224 := Tryz.func168.trans (congrArg some (by kernel_rfl))
  f225 := Tryz.func167.trans (congrArg some (by kernel_rfl))
  f227 := Tryz.func179.trans (congrArg some (by kernel_rfl))
  f228 := Tryz.func188.trans (congrArg some (by kernel_rfl))
  f231 := Tryz.func178.trans (congrArg some (by kernel_rfl))
  f233 := Tryz.func180.trans (congrArg some (by kernel_rfl))
  f235 := Tryz.func181.trans (congrArg some (by kernel_rfl))
  f260 := Tryz.func184.trans (congrArg some (by kernel_rfl))
  f266 := Tryz.func182.trans (congrArg some (by kernel_rfl))
  t0 := Tryz.underlying0
  a0 := Tryz.isAgg0
  z0 := Tryz.sizeOf0
  v0 := Tryz.zeroValue0
  t3 := Tryz.underlying3
  a3 := Tryz.isAgg3
  z3 := Tryz.sizeOf3
  v3 := Tryz.zeroValue3
  t4 := Tryz.underlying4
  a4 := Tryz.isAgg4
  z4 := Tryz.sizeOf4
  v4 := Tryz.zeroValue4
  t5 := Tryz.underlying5
  a5 := Tryz.isAgg5
  z5 := Tryz.sizeOf5
  v5 := Tryz.zeroValue5
  t9 := Tryz.underlying9
  a9 := Tryz.isAgg9
  z9 := Tryz.sizeOf9
  v9 := Tryz.zeroValue9
  t21 := Tryz.underlying21
  a21 := Tryz.isAgg21
  z21 := Tryz.sizeOf21
  v21 := Tryz.zeroValue21
  t46 := Tryz.underlying74
  a46 := Tryz.isAgg74
  z46 := Tryz.sizeOf74
  v46 := Tryz.zeroValue74
  t105 := Tryz.underlying158
  a105 := Tryz.isAgg158
  z105 := Tryz.sizeOf158
  v105 := Tryz.zeroValue158
  t116 := Tryz.underlying167
  a116 := Tryz.isAgg167
  z116 := Tryz.sizeOf167
  t117 := Tryz.underlying168
  a117 := Tryz.isAgg168
  z117 := Tryz.sizeOf168
  v117 := Tryz.zeroValue168
  t119 := Tryz.underlying179
  a119 := Tryz.isAgg179
  z119 := Tryz.sizeOf179
  t124 := Tryz.underlying171
  a124 := Tryz.isAgg171
  z124 := Tryz.sizeOf171
  v124 := Tryz.zeroValue171
  t138 := Tryz.underlying181
  a138 := Tryz.isAgg181
  z138 := Tryz.sizeOf181
  v138 := Tryz.zeroValue181
  t139 := Tryz.underlying182
  a139 := Tryz.isAgg182
  z139 := Tryz.sizeOf182
  v139 := Tryz.zeroValue182
  g3 := by kernel_rfl
  g4 := by kernel_rfl }
open Go.RowKit in
/-- strings.TrimLeft: "TrimLeft returns a slice of the string s with all leading Unicode code points contained in cutset removed.": AT A cutset OF ONE ASCII BYTE. The world is as it was. (LAID: no walk: one application.) -/
theorem Tryz.strings_TrimLeft_one (s : ByteArray) (c : UInt8) (hc : c.toNat < 128) (w : World) :
    Calls Tryz.prog 165 #[.string s, .string ⟨#[c]⟩] w fun e w' => e = .returned (.string ⟨(Lib.trimLeftB s.data.toList c).toArray⟩) ∧ w' = w := Any.strings_TrimLeft_one Tryz.lays161 s c hc w
def Tryz.lays125_ren : Go.Shelf.Ren := ⟨fun | 125 => 186 | 128 => 199 | 129 => 200 | n => n, fun | 46 => 74 | 3 => 3 | 51 => 172 | 53 => 69 | 4 => 4 | 5 => 5 | 9 => 9 | n => n, fun | n => n⟩
theorem Tryz.lays125 : Go.Proofs.Lays.n125 Tryz.prog Tryz.lays125_ren := {
  mixed := by kernel_rfl
  f125 := Tryz.func186.trans (congrArg some (by kernel_rfl))
  f128 := Tryz.func199.trans (congrArg some (by kernel_rfl))
  f129 := Tryz.func200.trans (congrArg some (by kernel_rfl))
  t3 := Tryz.underlying3
  a3 := Tryz.isAgg3
  z3 := Tryz.sizeOf3
  v3 := Tryz.zeroValue3
  t4 := Tryz.underlying4
  a4 := Tryz.isAgg4
  z4 := Tryz.sizeOf4
  v4 := Tryz.zeroValue4
  t5 := Tryz.underlying5
  a5 := Tryz.isAgg5
  z5 := Tryz.sizeOf5
  v5 := Tryz.zeroValue5
  t9 := Tryz.underlying9
  a9 := Tryz.isAgg9
  z9 := Tryz.sizeOf9
  v9 := Tryz.zeroValue9
  t46 := Tryz.underlying74
  a46 := Tryz.isAgg74
  z46 := Tryz.sizeOf74
  v46 := Tryz.zeroValue74
  t51 := Tryz.underlying172
  a51 := Tryz.isAgg172
  z51 := Tryz.sizeOf172
  v51 := Tryz.zeroValue172
  t53 := Tryz.underlying69
  a53 := Tryz.isAgg69
  z53 := Tryz.sizeOf69
  v53 := Tryz.zeroValue69 }
/-- bits.Len: "Len returns the minimum number of bits required to represent x; the result is 0 for x == 0.": IT RETURNS 'Lib.bitLen x'; the world is as it was. (A uint has 64 bits in the model.) ITS CALLEE bits.Len64 IS MET BY ITS OWN CONTRACT OFF THE SHELF (lay that first). (LAID: no walk: one application.) -/
theorem Tryz.bits_Len (x : Int) (w : World) (h0 : 0 ≤ x) (h1 : x ≤ 18446744073709551615) :
    Calls Tryz.prog 186 #[.int .u64 x] w fun e w' => e = .returned (.int .i64 (Lib.bitLen x.toNat)) ∧ w' = w := Any.bits_Len Tryz.lays125 x w h0 h1
def Tryz.laysM145_ren : Go.Shelf.Ren := ⟨fun | 145 => 72 | 220 => 117 | 219 => 145 | 217 => 166 | 225 => 167 | 224 => 168 | 267 => 169 | 266 => 182 | 314 => 183 | n => n, fun | 9 => 9 | 4 => 4 | 59 => 105 | 3 => 3 | 5 => 5 | 46 => 74 | 146 => 173 | 51 => 172 | n => n, fun | 1 => 0 | n => n⟩
theorem Tryz.laysM145 : Go.Proofs.LaysM.n145 Tryz.prog Tryz.laysM145_ren := {
  mixed := by kernel_rfl
  f145 := Tryz.func72.trans (congrArg some (by kernel_rfl))
  f217 := Tryz.func166.trans (congrArg some (by kernel_rfl))
  f219 := Tryz.func145.trans (congrArg some (by kernel_rfl))
  f220 := Tryz.func117.trans (congrArg some (by kernel_rfl))
  f224 := Tryz.func168.trans (congrArg some (by kernel_rfl))
  f225 := Tryz.func167.trans (congrArg some (by kernel_rfl))
  f266 := Tryz.func182.trans (congrArg some (by kernel_rfl))
  f267 := Tryz.func169.trans (congrArg some (by kernel_rfl))
  f314 := Tryz.func183.trans (congrArg some (by kernel_rfl))
  t3 := Tryz.underlying3
  a3 := Tryz.isAgg3
  z3 := Tryz.sizeOf3
  v3 := Tryz.zeroValue3
  t4 := Tryz.underlying4
  a4 := Tryz.isAgg4
  z4 := Tryz.sizeOf4
  v4 := Tryz.zeroValue4
  t5 := Tryz.underlying5
  a5 := Tryz.isAgg5
  z5 := Tryz.sizeOf5
  v5 := Tryz.zeroValue5
  t9 := Tryz.underlying9
  a9 := Tryz.isAgg9
  z9 := Tryz.sizeOf9
  v9 := Tryz.zeroValue9
  t46 := Tryz.underlying74
  a46 := Tryz.isAgg74
  z46 := Tryz.sizeOf74
  v46 := Tryz.zeroValue74
  t51 := Tryz.underlying172
  a51 := Tryz.isAgg172
  z51 := Tryz.sizeOf172
  v51 := Tryz.zeroValue172
  t59 := Tryz.underlying105
  a59 := Tryz.isAgg105
  z59 := Tryz.sizeOf105
  v59 := Tryz.zeroValue105
  t146 := Tryz.underlying173
  a146 := Tryz.isAgg173
  z146 := Tryz.sizeOf173
  v146 := Tryz.zeroValue173
  g1 := by kernel_rfl
  i3 := by kernel_rfl
  i4 := by kernel_rfl
  i5 := by kernel_rfl
  i9 := by kernel_rfl
  i46 := by kernel_rfl
  i51 := by kernel_rfl
  i59 := by kernel_rfl
  i146 := by kernel_rfl
  m1 := by kernel_rfl
  s1_3 := fun w h => Go.Proofs.cell_of_shapedOpen_int (zero := #[.int .i64 0]) (t := 3) h (of_decide_eq_true (by kernel_rfl)) (by kernel_rfl) rfl (by kernel_rfl) (by kernel_rfl) Tryz.underlying3 }
open Go.RowKit Go.Lib in
theorem Tryz.strings_Cut_shaped (s sep : ByteArray) (w : World) (h : w.ShapedOpen Tryz.prog) (hs : s.size < 4294967281) :
    Calls Tryz.prog 72 #[.string s, .string sep] w fun e w' => e = .returned (.tuple #[.string ⟨(Lib.cut s.data.toList sep.data.toList).1.toArray⟩, .string ⟨(Lib.cut s.data.toList sep.data.toList).2.1.toArray⟩, .bool (Lib.cut s.data.toList sep.data.toList).2.2]) ∧ ∃ n, w' = w.drewN n := Any.strings_Cut_shaped Tryz.laysM145 s sep w h hs
def Tryz.laysM146_ren : Go.Shelf.Ren := ⟨fun | 146 => 74 | 221 => 123 | 268 => 148 | 138 => 149 | 143 => 150 | 195 => 170 | 197 => 171 | 218 => 172 | 219 => 145 | 260 => 184 | 217 => 166 | 225 => 167 | 224 => 168 | 267 => 169 | 266 => 182 | 314 => 183 | n => n, fun | 9 => 9 | 31 => 28 | 3 => 3 | 4 => 4 | 0 => 0 | 105 => 158 | 21 => 21 | 5 => 5 | 46 => 74 | 119 => 179 | 139 => 182 | 138 => 181 | 146 => 173 | 51 => 172 | n => n, fun | 1 => 0 | 3 => 1 | 4 => 2 | n => n⟩
theorem Tryz.laysM146 : Go.Proofs.LaysM.n146 Tryz.prog Tryz.laysM146_ren := {
  mixed := by kernel_rfl
  f138 := Tryz.func149.trans (congrArg some (by kernel_rfl))
  f143 := Tryz.func150.trans (congrArg some (by kernel_rfl))
  f146 := Tryz.func74.trans (congrArg some (by kernel_rfl))
  f195 := Tryz.func170.trans (congrArg some (by kernel_rfl))
  f197 := Tryz.func171.trans (congrArg some (by kernel_rfl))
  f217 := Tryz.func166.trans (congrArg some (by kernel_rfl))
  f218 := Tryz.func172.trans (congrArg some (by kernel_rfl))
  f219 := Tryz.func145.trans (congrArg some (by kernel_rfl))
  f221 := Tryz.func123.trans (congrArg some (by kernel_rfl))
  f224 := Tryz.func168.trans (congrArg some (by kernel_rfl))
  f225 := Tryz.func167.trans (congrArg some (by kernel_rfl))
  f260 := Tryz.func184.trans (congrArg some (by kernel_rfl))
  f266 := Tryz.func182.trans (congrArg some (by kernel_rfl))
  f267 := Tryz.func169.trans (congrArg some (by kernel_rfl))
  f268 := Tryz.func148.trans (congrArg some (by kernel_rfl))
  f314 := Tryz.func183.trans (congrArg some (by kernel_rfl))
  t0 := Tryz.underlying0
  a0 := Tryz.isAgg0
  z0 := Tryz.sizeOf0
  v0 := Tryz.zeroValue0
  t3 := Tryz.underlying3
  a3 := Tryz.isAgg3
  z3 := Tryz.sizeOf3
  v3 := Tryz.zeroValue3
  t4 := Tryz.underlying4
  a4 := Tryz.isAgg4
  z4 := Tryz.sizeOf4
  v4 := Tryz.zeroValue4
  t5 := Tryz.underlying5
  a5 := Tryz.isAgg5
  z5 := Tryz.sizeOf5
  v5 := Tryz.zeroValue5
  t9 := Tryz.underlying9
  a9 := Tryz.isAgg9
  z9 := Tryz.sizeOf9
  v9 := Tryz.zeroValue9
  t21 := Tryz.underlying21
  a21 := Tryz.isAgg21
  z21 := Tryz.sizeOf21
  v21 := Tryz.zeroValue21
  t31 := Tryz.underlying28
  a31 := Tryz.isAgg28
  z31 := Tryz.sizeOf28
  v31 := Tryz.zeroValue28
  t46 := Tryz.underlying74
  a46 := Tryz.isAgg74
  z46 := Tryz.sizeOf74
  v46 := Tryz.zeroValue74
  t51 := Tryz.underlying172
  a51 := Tryz.isAgg172
  z51 := Tryz.sizeOf172
  v51 := Tryz.zeroValue172
  t105 := Tryz.underlying158
  a105 := Tryz.isAgg158
  z105 := Tryz.sizeOf158
  v105 := Tryz.zeroValue158
  t119 := Tryz.underlying179
  a119 := Tryz.isAgg179
  z119 := Tryz.sizeOf179
  t138 := Tryz.underlying181
  a138 := Tryz.isAgg181
  z138 := Tryz.sizeOf181
  v138 := Tryz.zeroValue181
  t139 := Tryz.underlying182
  a139 := Tryz.isAgg182
  z139 := Tryz.sizeOf182
  v139 := Tryz.zeroValue182
  t146 := Tryz.underlying173
  a146 := Tryz.isAgg173
  z146 := Tryz.sizeOf173
  v146 := Tryz.zeroValue173
  g1 := by kernel_rfl
  g3 := by kernel_rfl
  g4 := by kernel_rfl
  i0 := by kernel_rfl
  i3 := by kernel_rfl
  i4 := by kernel_rfl
  i5 := by kernel_rfl
  i9 := by kernel_rfl
  i21 := by kernel_rfl
  i31 := by kernel_rfl
  i46 := by kernel_rfl
  i51 := by kernel_rfl
  i105 := by kernel_rfl
  i138 := by kernel_rfl
  i139 := by kernel_rfl
  i146 := by kernel_rfl
  m1 := by kernel_rfl
  s1_3 := fun w h => Go.Proofs.cell_of_shapedOpen_int (zero := #[.int .i64 0]) (t := 3) h (of_decide_eq_true (by kernel_rfl)) (by kernel_rfl) rfl (by kernel_rfl) (by kernel_rfl) Tryz.underlying3
  m3 := by kernel_rfl
  m4 := by kernel_rfl }
open Go.RowKit Go.Lib in
/-- strings.Split, sep not empty. (LAID: no walk: one application.) -/
theorem Tryz.strings_Split_shaped (s sep : ByteArray) (w : World) (h : w.ShapedOpen Tryz.prog) (hs : s.size < 4294967281) (h1 : 1 ≤ sep.size) :
    Calls Tryz.prog 74 #[.string s, .string sep] w fun e w' =>
      e = .returned (.slice (some ⟨w.heap.size, 0, none⟩) (Lib.countB s sep + 1) (Lib.countB s sep + 1)) ∧ w' = w.alloc (.cells ((Lib.splitB sep 0 (Lib.countB s sep) s).map Value.string).toArray 9) := Any.strings_Split_shaped Tryz.laysM146 s sep w h hs h1
def Tryz.lays229_ren : Go.Shelf.Ren := ⟨fun | 229 => 157 | n => n, fun | 9 => 9 | 40 => 148 | 31 => 28 | 152 => 161 | 3 => 3 | 0 => 0 | 4 => 4 | 21 => 21 | 154 => 163 | n => n, fun | n => n⟩
theorem Tryz.lays229 : Go.Proofs.Lays.n229 Tryz.prog Tryz.lays229_ren := {
  mixed := by kernel_rfl
  f229 := Tryz.func157.trans (congrArg some (by kernel_rfl))
  t0 := Tryz.underlying0
  a0 := Tryz.isAgg0
  z0 := Tryz.sizeOf0
  v0 := Tryz.zeroValue0
  t3 := Tryz.underlying3
  a3 := Tryz.isAgg3
  z3 := Tryz.sizeOf3
  v3 := Tryz.zeroValue3
  t4 := Tryz.underlying4
  a4 := Tryz.isAgg4
  z4 := Tryz.sizeOf4
  v4 := Tryz.zeroValue4
  t9 := Tryz.underlying9
  a9 := Tryz.isAgg9
  z9 := Tryz.sizeOf9
  v9 := Tryz.zeroValue9
  t21 := Tryz.underlying21
  a21 := Tryz.isAgg21
  z21 := Tryz.sizeOf21
  v21 := Tryz.zeroValue21
  t31 := Tryz.underlying28
  a31 := Tryz.isAgg28
  z31 := Tryz.sizeOf28
  v31 := Tryz.zeroValue28
  t40 := Tryz.underlying148
  a40 := Tryz.isAgg148
  z40 := Tryz.sizeOf148
  v40 := Tryz.zeroValue148
  t152 := Tryz.underlying161
  a152 := Tryz.isAgg161
  z152 := Tryz.sizeOf161
  v152 := Tryz.zeroValue161
  t154 := Tryz.underlying163
  a154 := Tryz.isAgg163
  z154 := Tryz.sizeOf163
  v154 := Tryz.zeroValue163 }
open Go.RowKit Go.Lib in
/-- .. over a hand of the authors' house's premise as it stands. (LAID: no walk: one application.) -/
theorem Tryz.strings_FieldsFunc (g : Nat) (lb : Array Value) (eg : ∀ args w, (callFunc g args).run Tryz.prog w = .ok (.enter g args) w) (p : Nat → Bool) (s : ByteArray) (w : World) (hs : s.size ≤ 4294967296) (hp : PredAt Tryz.prog g lb encR p w) :
    Calls Tryz.prog 157 #[.string s, .func (.func g) #[] lb] w fun e w' => ∃ A, e = .returned (.slice (some ⟨A, 0, none⟩) (Lib.goFieldsP p s).length (Lib.goFieldsP p s).length) ∧ w.heap.size ≤ A ∧
      w'.ownsRow w.heap.size 9 1 (.slice (some ⟨A, 0, none⟩) (Lib.goFieldsP p s).length (Lib.goFieldsP p s).length) (Lib.goFieldsP p s).length ((Lib.goFieldsP p s).map Value.string) ∧ Below w.heap.size w w' := Any.strings_FieldsFunc Tryz.lays229 g lb eg p s w hs hp (by kernel_rfl) (by kernel_rfl)
def Tryz.lays110_ren : Go.Shelf.Ren := ⟨fun | 110 => 118 | 109 => 146 | n => n, fun | 31 => 28 | 9 => 9 | 4 => 4 | 3 => 3 | 0 => 0 | n => n, fun | n => n⟩
theorem Tryz.lays110 : Go.Proofs.Lays.n110 Tryz.prog Tryz.lays110_ren := {
  mixed := by kernel_rfl
  f109 := Tryz.func146.trans (congrArg some (by kernel_rfl))
  f110 := Tryz.func118.trans (congrArg some (by kernel_rfl))
  t0 := Tryz.underlying0
  a0 := Tryz.isAgg0
  z0 := Tryz.sizeOf0
  v0 := Tryz.zeroValue0
  t3 := Tryz.underlying3
  a3 := Tryz.isAgg3
  z3 := Tryz.sizeOf3
  v3 := Tryz.zeroValue3
  t4 := Tryz.underlying4
  a4 := Tryz.isAgg4
  z4 := Tryz.sizeOf4
  v4 := Tryz.zeroValue4
  t9 := Tryz.underlying9
  a9 := Tryz.isAgg9
  z9 := Tryz.sizeOf9
  v9 := Tryz.zeroValue9
  t31 := Tryz.underlying28
  a31 := Tryz.isAgg28
  z31 := Tryz.sizeOf28
  v31 := Tryz.zeroValue28 }
open Go.Lib in
/-- slices.Contains at []string: "Contains reports whether v is present in s.": IT RETURNS 'Lib.containsS (the elements) v', which is true just where v is among them ('Lib.containsS_iff'); the world is as it was. ITS CALLEE slices.Index IS MET BY ITS OWN CONTRACT OFF THE SHELF (lay that first): no loop is walked here. (LAID: no walk: one application.) -/
theorem Tryz.slices_Contains_string (b off n c : Nat) (zs : List ByteArray) (x : ByteArray) (w : World) (hz : n ≤ zs.length) (hbig : n ≤ 9223372036854775807) (hc : ∀ j, j < zs.length → w.cell? ⟨b, off + j, none⟩ = some (.string (zs.getD j ByteArray.empty))) :
    Calls Tryz.prog 118 #[.slice (some ⟨b, off, none⟩) n c, .string x] w fun e w' => e = .returned (.bool (Lib.containsS (zs.take n) x)) ∧ w' = w := Any.slices_Contains_string Tryz.lays110 b off n c zs x w hz hbig hc
open Go.Lib in
/-- The same at a slice of length 0, a nil one too. (LAID: no walk: one application.) -/
theorem Tryz.slices_Contains_string_empty (a : Option Addr) (c : Nat) (x : ByteArray) (w : World) :
    Calls Tryz.prog 118 #[.slice a 0 c, .string x] w fun e w' => e = .returned (.bool false) ∧ w' = w := Any.slices_Contains_string_empty Tryz.lays110 a c x w
def Tryz.laysSlH6_f119_ren : Go.Shelf.Ren := ⟨fun | 6 => 119 | n => n, fun | 22 => 28 | 23 => 9 | 25 => 64 | 3 => 3 | 0 => 0 | 4 => 4 | n => n, fun | n => n⟩
theorem Tryz.laysSlH6_f119 : Go.Proofs.SlLaysH.n6 Tryz.prog Tryz.laysSlH6_f119_ren := {
  mixed := by kernel_rfl
  f6 := ⟨Tryz.f119.name, by decide, Tryz.func119.trans (congrArg some (by kernel_rfl))⟩
  t0 := Tryz.underlying0
  a0 := Tryz.isAgg0
  z0 := Tryz.sizeOf0
  v0 := Tryz.zeroValue0
  t3 := Tryz.underlying3
  a3 := Tryz.isAgg3
  z3 := Tryz.sizeOf3
  v3 := Tryz.zeroValue3
  t4 := Tryz.underlying4
  a4 := Tryz.isAgg4
  z4 := Tryz.sizeOf4
  v4 := Tryz.zeroValue4
  t22 := Tryz.underlying28
  a22 := Tryz.isAgg28
  z22 := Tryz.sizeOf28
  v22 := Tryz.zeroValue28
  a23 := Tryz.isAgg9
  z23 := Tryz.sizeOf9
  t25 := Tryz.underlying64
  a25 := Tryz.isAgg64
  z25 := Tryz.sizeOf64
  v25 := Tryz.zeroValue64 }
open Go.RowKit Go.Lib in
/-- slices.IndexFunc: "IndexFunc returns the first index i satisfying f(s[i]), or -1 if none do." (LAID AT THE INSTANCE 'slices.IndexFunc[[]string,string]': no walk: one application.) -/
theorem Tryz.slices_IndexFunc {α : Type} [Inhabited α] (enc : α → Value) (p : α → Bool) (g : Nat) (lb : Array Value) (eg : ∀ args w, (callFunc g args).run Tryz.prog w = .ok (.enter g args) w) (b off n c : Nat) (zs : List α) (w : World) (hp : PredAt Tryz.prog g lb enc p w) (hz : n ≤ zs.length) (hbig : n ≤ 9223372036854775807) (hc : ∀ j, j < zs.length → w.cell? ⟨b, off + j, none⟩ = some (enc zs[j]!)) :
    Calls Tryz.prog 119 #[.slice (some ⟨b, off, none⟩) n c, .func (.func g) #[] lb] w fun e w' => e = .returned (.int .i64 (Lib.idxBy (fun _ y => p y) (zs.take n) default)) ∧ ∃ q, w' = w.drewN q := AnyE.slices_IndexFunc Tryz.laysSlH6_f119 enc p g lb eg b off n c zs w hp hz hbig hc
open Go.RowKit Go.Lib in
/-- The same at a slice of length 0, a nil one too: the predicate is not called: nothing is asked of it. (LAID AT THE INSTANCE 'slices.IndexFunc[[]string,string]': no walk: one application.) -/
theorem Tryz.slices_IndexFunc_empty {α : Type} [Inhabited α] (a : Option Addr) (c : Nat) (fv : Value) (w : World) :
    Calls Tryz.prog 119 #[.slice a 0 c, fv] w fun e w' => e = .returned (.int .i64 (-1)) ∧ w' = w := AnyE.slices_IndexFunc_empty Tryz.laysSlH6_f119 a c fv w
def Tryz.laysCF_ren : Go.Shelf.Ren := ⟨fun | 8 => 50 | 6 => 81 | n => n, fun | 22 => 27 | 23 => 42 | 25 => 86 | 4 => 4 | 3 => 3 | 0 => 0 | n => n, fun | n => n⟩
theorem Tryz.laysCF : Go.Proofs.SlLaysH0.n8 Tryz.prog Tryz.laysCF_ren := {
  mixed := by kernel_rfl
  f6 := ⟨Tryz.f81.name, by decide, Tryz.func81.trans (congrArg some (by kernel_rfl))⟩
  f8 := ⟨Tryz.f50.name, by decide, Tryz.func50.trans (congrArg some (by kernel_rfl))⟩
  t0 := Tryz.underlying0
  a0 := Tryz.isAgg0
  z0 := Tryz.sizeOf0
  v0 := Tryz.zeroValue0
  t3 := Tryz.underlying3
  a3 := Tryz.isAgg3
  z3 := Tryz.sizeOf3
  v3 := Tryz.zeroValue3
  t4 := Tryz.underlying4
  a4 := Tryz.isAgg4
  z4 := Tryz.sizeOf4
  v4 := Tryz.zeroValue4
  t22 := Tryz.underlying27
  a22 := Tryz.isAgg27
  z22 := Tryz.sizeOf27
  v22 := Tryz.zeroValue27
  t25 := Tryz.underlying86
  a25 := Tryz.isAgg86
  z25 := Tryz.sizeOf86
  v25 := Tryz.zeroValue86 }
def Tryz.laysCP_ren : Go.Shelf.Ren := ⟨fun | 8 => 84 | 6 => 127 | n => n, fun | 22 => 29 | 23 => 83 | 25 => 115 | 4 => 4 | 3 => 3 | 0 => 0 | n => n, fun | n => n⟩
theorem Tryz.laysCP : Go.Proofs.SlLaysH0.n8 Tryz.prog Tryz.laysCP_ren := {
  mixed := by kernel_rfl
  f6 := ⟨Tryz.f127.name, by decide, Tryz.func127.trans (congrArg some (by kernel_rfl))⟩
  f8 := ⟨Tryz.f84.name, by decide, Tryz.func84.trans (congrArg some (by kernel_rfl))⟩
  t0 := Tryz.underlying0
  a0 := Tryz.isAgg0
  z0 := Tryz.sizeOf0
  v0 := Tryz.zeroValue0
  t3 := Tryz.underlying3
  a3 := Tryz.isAgg3
  z3 := Tryz.sizeOf3
  v3 := Tryz.zeroValue3
  t4 := Tryz.underlying4
  a4 := Tryz.isAgg4
  z4 := Tryz.sizeOf4
  v4 := Tryz.zeroValue4
  t22 := Tryz.underlying29
  a22 := Tryz.isAgg29
  z22 := Tryz.sizeOf29
  v22 := Tryz.zeroValue29
  t25 := Tryz.underlying115
  a25 := Tryz.isAgg115
  z25 := Tryz.sizeOf115
  v25 := Tryz.zeroValue115 }
def Tryz.laysIP_ren : Go.Shelf.Ren := ⟨fun | 6 => 127 | n => n, fun | 22 => 29 | 23 => 83 | 25 => 115 | 3 => 3 | 0 => 0 | 4 => 4 | n => n, fun | n => n⟩
theorem Tryz.laysIP : Go.Proofs.SlLaysH0.n6 Tryz.prog Tryz.laysIP_ren := {
  mixed := by kernel_rfl
  f6 := ⟨Tryz.f127.name, by decide, Tryz.func127.trans (congrArg some (by kernel_rfl))⟩
  t0 := Tryz.underlying0
  a0 := Tryz.isAgg0
  z0 := Tryz.sizeOf0
  v0 := Tryz.zeroValue0
  t3 := Tryz.underlying3
  a3 := Tryz.isAgg3
  z3 := Tryz.sizeOf3
  v3 := Tryz.zeroValue3
  t4 := Tryz.underlying4
  a4 := Tryz.isAgg4
  z4 := Tryz.sizeOf4
  v4 := Tryz.zeroValue4
  t22 := Tryz.underlying29
  a22 := Tryz.isAgg29
  z22 := Tryz.sizeOf29
  v22 := Tryz.zeroValue29
  t25 := Tryz.underlying115
  a25 := Tryz.isAgg115
  z25 := Tryz.sizeOf115
  v25 := Tryz.zeroValue115 }
end Go.Proofs
end
section
/- text: the table of replacements, the Builder's writes, tokens, joins. -/
set_option linter.unusedSimpArgs false
set_option linter.unusedVariables false
set_option maxRecDepth 100000
namespace Go.Proofs.YtfgoiojmbphmnaaGreatDoor
open Go.RowKit
def tblV : Array Value := (replT.map strV).toArray
set_option maxHeartbeats 1000000 in
theorem repl_any (w : World) :
    Calls Tryz.prog 154 #[] w fun e w' => e = .returned (.agg tblV) ∧ Below w.heap.size w w' := by
  go_enter Tryz.func154, Tryz.ntmps154
  go_upto_region 1 with (fail)
  rename_i hK
  refine wp_region_list ?_
  refine wpList_buildTo rfl 144 _ rfl (some 1) rfl tblV (by kernel_rfl) ?_
  refine wpList_store_row rfl 144 _ _ rfl w.heap.size tblV rfl rfl 144 _ (heap_alloc_new w _) (by kernel_rfl) (by kernel_rfl) (by kernel_rfl) ?_
  refine wpList_nil ?_
  rw [World.setRow_alloc_new]
  refine hK _ _ ?_
  go_wp2_with fail
  exact bodyPost_row1 rfl rfl (heap_alloc_new w _) Tryz.underlying144 rfl (by kernel_rfl) ⟨rfl, (Below.refl _ _).alloc (Nat.le_refl _) _⟩
theorem wstr_any (B b : Nat) (bs : List Value) (s : ByteArray) (w : World) (h : Lib.IsBuilder 94 5 B b bs w) (hlen : bs.length + s.size ≤ 140737488355328) (hBw : B ≤ w.heap.size) :
    Calls Tryz.prog 66 #[.pointer (some ⟨b, 0, none⟩), .string s] w fun e w' => e = .returned (.tuple #[.int .i64 s.size, .nilIface]) ∧ (Lib.BuilderAt 94 5 B b (.pointer (some ⟨b, 0, none⟩)) (bs ++ Lib.strCells s) w' ∧ Below B w w') :=
  Any.Builder_WriteString { Tryz.lays156 with } Tryz.Builder_Extra_156 B b bs s w h hlen hBw
theorem bstr_any (B b : Nat) (l : List UInt8) (w : World) (h : Lib.IsBuilder 94 5 B b (Lib.byteCells l) w) (hBw : B ≤ w.heap.size) :
    Calls Tryz.prog 70 #[.pointer (some ⟨b, 0, none⟩)] w fun e w' => e = .returned (.string ⟨l.toArray⟩) ∧ Below B w w' := Tryz.Builder_String_any B b l w h hBw
theorem tok_pred (w : World) : PredAt Tryz.prog 158 #[] encR isSp w := fun W r _ => by
  unfold FnGives
  have e : isSp r = ((r : Int) == 32) := by unfold isSp; rw [Bool.eq_iff_iff]; simp; omega
  have E := Lib.hid e; clear e
  go_enter Tryz.func158, Tryz.ntmps158
  go_wp2
  go_ret
  exact ⟨ret_bool E.out.symm, 0, rfl⟩
/-- the cells of a text in a slice of texts -/
abbrev encS (l : List UInt8) : List Value := [strV l]
def StrsPost (L : List (List UInt8)) (w : World) (e : Ending) (w' : World) : Prop := ∃ A, e = .returned (.slice (some ⟨A, 0, none⟩) L.length L.length) ∧ w.heap.size ≤ A ∧ w'.ownsRow w.heap.size 9 1 (.slice (some ⟨A, 0, none⟩) L.length L.length) L.length (L.flatMap encS) ∧ Below w.heap.size w w'
theorem flat_str (L : List (List UInt8)) : (L.map mkS).map Value.string = L.flatMap encS := by
  induction L with
  | nil => rfl
  | cons a L ih => simp only [List.map_cons, List.flatMap_cons, ih]; rfl
set_option maxHeartbeats 400000 in
theorem tokens_any (l : List UInt8) (w : World) (h : ascii l) (hl : l.length ≤ 1000000) :
    Calls Tryz.prog 135 #[strV l] w (StrsPost (toks l) w) := by
  have hsz : (mkS l).size = l.length := by simp [mkS, ByteArray.size]
  have hc := Lib.hid (Tryz.strings_FieldsFunc 158 #[] (enters_of Tryz.func158 (by kernel_rfl) rfl) isSp (mkS l) w (by omega) (tok_pred w))
  go_enter Tryz.func135, Tryz.ntmps135
  go_wp2_with fail
  refine hc.out.mono ?_
  rintro e w1 ⟨A, rfl, hA, ho, hb⟩
  rw [fields_toks l h, List.length_map] at *
  have HO := Lib.hid ho; clear ho
  go_wp2_with fail
  go_ret
  exact ⟨A, rfl, hA, by rw [← flat_str]; exact HO.out, hb⟩
set_option maxHeartbeats 400000 in
/-- the texts of a slice, joined by single spaces -/
theorem join_any (S : Nat → Prop) (v : Value) (L : List (List UInt8)) (w : World) (h : Vec w S 1 encS v L) (hn : L.length ≤ 1000000) (hj : (joinL L).length ≤ 1000000000) :
    Calls Tryz.prog 67 #[v] w fun e w' => e = .returned (strV (joinL L)) ∧ Below w.heap.size w w' := by
  obtain ⟨a, cap, rfl, hcap, h0⟩ := h
  have hjj : Lib.join ((L.map mkS).map (·.data.toList)) [32] = joinL L := by
    rw [List.map_map, ← join_toks]; congr 1; conv => rhs; rw [← List.map_id L]
    exact List.map_congr_left fun x _ => by simp [mkS]
  have key : Calls Tryz.prog 102 #[.slice a L.length cap, .string ⟨#[32]⟩] w fun e w' => e = .returned (strV (joinL L)) ∧ Below w.heap.size w w' := by
    by_cases hz : L = []
    · subst hz
      exact (Tryz.strings_Join_none a cap ⟨#[32]⟩ w).mono fun e w' ⟨he, hw⟩ => ⟨he, by rw [hw]; exact Below.refl _ _⟩
    · obtain ⟨b, off, rfl, _, hb, hc⟩ := h0 (List.length_pos_iff.2 hz)
      have := Tryz.strings_Join b off cap (L.map mkS) ⟨#[32]⟩ w (fun j x hx => by
        rw [List.getElem?_map] at hx
        obtain ⟨y, hy, rfl⟩ := Option.map_eq_some_iff.1 hx
        have := hc j y hy 0 _ rfl
        simpa [mkS] using this) hb (by simp; omega) (by simpa using hcap) (by rw [show (⟨#[32]⟩ : ByteArray).data.toList = [32] from rfl, hjj]; omega)
      rw [show (⟨#[32]⟩ : ByteArray).data.toList = [32] from rfl, hjj, List.length_map] at this
      exact this
  have KEY := Lib.hid key
  clear key hjj h0
  go_enter Tryz.func67, Tryz.ntmps67
  go_wp2_with fail
  refine KEY.out.mono ?_
  rintro e w1 ⟨rfl, hb⟩
  go_wp2_with fail
  go_ret
  exact ⟨rfl, hb⟩
end Go.Proofs.YtfgoiojmbphmnaaGreatDoor
end
section
/- text: folding. -/
set_option linter.unusedSimpArgs false
set_option linter.unusedVariables false
set_option maxRecDepth 100000
namespace Go.Proofs.YtfgoiojmbphmnaaGreatDoor
open Go.RowKit
/-- a byte of a folded text -/
def okB (b : UInt8) : Bool := isLow b || isDgt b || b == 32
theorem replT_ok : (replT.all fun x => x.all okB && decide (x.length ≤ 2)) = true := by decide
theorem replB_get (n : Nat) (h : n < 64) : replT[n]? = some (replT.getD n []) := by
  have : n < replT.length := h
  rw [List.getElem?_eq_getElem this]; simp [List.getD, List.getElem?_eq_getElem this]
theorem replB_ok (b : UInt8) : (∀ c ∈ replB b, okB c = true) ∧ (replB b).length ≤ 2 := by
  unfold replB
  by_cases h : b.toNat - 128 < replT.length
  · have hm : replT.getD (b.toNat - 128) [] ∈ replT := by
      simp only [List.getD, List.getElem?_eq_getElem h, Option.getD_some]; exact List.getElem_mem h
    have := List.all_eq_true.1 replT_ok _ hm
    rw [Bool.and_eq_true, List.all_eq_true, decide_eq_true_iff] at this
    exact this
  · have : replT.getD (b.toNat - 128) [] = [] := by simp [List.getD, List.getElem?_eq_none (Nat.le_of_not_lt h)]
    rw [this]; simp
theorem plainB_ok (b : UInt8) : (∀ c ∈ plainB b, okB c = true) ∧ (plainB b).length ≤ 1 := by
  unfold plainB
  split
  · rename_i h
    refine ⟨fun c hc => ?_, by simp⟩
    simp at hc; subst hc
    have : isLow (b + 32) = true := by
      rw [up_iff, decide_eq_true_iff] at h
      rw [low_iff, decide_eq_true_iff]
      have := b.toNat_lt
      have e : (b + 32).toNat = b.toNat + 32 := by rw [UInt8.toNat_add]; simp; omega
      rw [e]; omega
    simp [okB, this]
  · split
    · rename_i h
      refine ⟨fun c hc => ?_, by simp⟩
      simp at hc; subst hc
      simp at h; simp [okB, h]
    · split
      · simp
      · exact ⟨fun c hc => by simp at hc; subst hc; rfl, by simp⟩
theorem raw_ok (l : List UInt8) : (∀ c ∈ rawL l, okB c = true) ∧ (rawL l).length ≤ l.length := by
  induction l using rawL.induct with
  | case1 => simp [rawL]
  | case2 a => simp only [rawL]; exact ⟨(plainB_ok a).1, by simpa using (plainB_ok a).2⟩
  | case3 a b r h ih =>
    simp only [rawL, h, if_true]
    refine ⟨fun c hc => ?_, by have := (replB_ok b).2; simp; omega⟩
    rcases List.mem_append.1 hc with hc | hc
    · exact (replB_ok b).1 c hc
    · exact ih.1 c hc
  | case4 a b r h ih =>
    simp only [rawL, h]
    refine ⟨fun c hc => ?_, by have := (plainB_ok a).2; have := ih.2; simp at *; omega⟩
    simp only [Bool.false_eq_true, if_false] at hc
    rcases List.mem_append.1 hc with hc | hc
    · exact (plainB_ok a).1 c hc
    · exact ih.1 c hc
theorem okB_lt {b : UInt8} (h : okB b = true) : b.toNat < 128 := by
  unfold okB at h
  simp only [Bool.or_eq_true, low_iff, dig_iff, decide_eq_true_iff, beq_iff_eq] at h
  rcases h with (h | h) | h
  · omega
  · omega
  · subst h; decide
theorem raw_ascii (l : List UInt8) : ascii (rawL l) := fun b hb => okB_lt ((raw_ok l).1 b hb)
/-- the bytes of tokens are those of the text, less the spaces -/
theorem toksA_mem (l : List UInt8) : ∀ p, ∀ t ∈ toksA p l, ∀ b ∈ t, b ∈ p ∨ (b ∈ l ∧ b ≠ 32) := by
  induction l with
  | nil =>
    intro p t ht b hb
    simp only [toksA] at ht
    split at ht
    · simp at ht
    · simp at ht; subst ht; exact .inl hb
  | cons c l ih =>
    intro p t ht b hb
    by_cases hc : c = 32
    · subst hc
      by_cases hp : p = []
      · subst hp
        rw [toksA_sp0] at ht
        rcases ih [] t ht b hb with h | h
        · simp at h
        · exact .inr ⟨List.mem_cons_of_mem _ h.1, h.2⟩
      · rw [toksA_sp _ _ hp] at ht
        rcases List.mem_cons.1 ht with rfl | ht
        · exact .inl hb
        · rcases ih [] t ht b hb with h | h
          · simp at h
          · exact .inr ⟨List.mem_cons_of_mem _ h.1, h.2⟩
    · rw [toksA_ch _ _ _ hc] at ht
      rcases ih _ t ht b hb with h | h
      · rcases List.mem_append.1 h with h | h
        · exact .inl h
        · simp at h; subst h; exact .inr ⟨List.mem_cons_self, hc⟩
      · exact .inr ⟨List.mem_cons_of_mem _ h.1, h.2⟩
theorem join_cons_ne (t : List UInt8) (L : List (List UInt8)) (h : L ≠ []) : joinL (t :: L) = t ++ [32] ++ joinL L := by
  cases L with
  | nil => exact absurd rfl h
  | cons b r => rfl
theorem toksA_len (l : List UInt8) : ∀ p, (joinL (toksA p l)).length ≤ p.length + l.length ∧ (toksA p l).length ≤ l.length + 1 ∧ (p = [] → l.length = 0 → toksA p l = []) := by
  induction l with
  | nil =>
    intro p
    simp only [toksA]
    split <;> simp_all [joinL]
  | cons c l ih =>
    intro p
    by_cases hc : c = 32
    · subst hc
      by_cases hp : p = []
      · subst hp
        rw [toksA_sp0]
        have := ih []
        simp at *; omega
      · rw [toksA_sp _ _ hp]
        have := ih []
        by_cases hq : toksA [] l = []
        · rw [hq]; simp [joinL]; try omega
        · rw [join_cons_ne _ _ hq]; simp at *; omega
    · rw [toksA_ch _ _ _ hc]
      have := ih (p ++ [c])
      simp at *; omega
theorem fold_len (l : List UInt8) : (foldL l).length ≤ l.length := by
  have h1 := (toksA_len (rawL l) []).1
  have h2 := (raw_ok l).2
  unfold foldL toks
  simp at h1; omega
end Go.Proofs.YtfgoiojmbphmnaaGreatDoor
end
section
/- text.Fold: what it returns, of every text. -/
set_option linter.unusedSimpArgs false
set_option linter.unusedVariables false
set_option maxRecDepth 100000
namespace Go.Proofs.YtfgoiojmbphmnaaGreatDoor
open Go.RowKit
def foldRes (l : List UInt8) : Value := bif foldV l then .tuple #[strV (foldL l), .int .i64 0] else .tuple #[strV [], .int .i64 3]
theorem tbl_cell {w : World} {b : Nat} (h : w.heap[b]? = some (.cells tblV 144 (0, 0))) (c : UInt8) (n : Nat) (hn : c.toNat = 128 + n) (h64 : n < 64) : w.cell? ⟨b, n, none⟩ = some (strV (replB c)) := by
  rw [cell_of_row w b n tblV _ _ h]
  unfold tblV replB
  rw [hn, Nat.add_sub_cancel_left, List.getElem?_toArray, List.getElem?_map, replB_get n h64]
  rfl
theorem pairAt_snd (s : ByteArray) (i : Nat) (hi : i + 1 < s.size) (h : pairAt (s.data.toList.drop i) = true) : ∃ n : Nat, s[i + 1].toNat = 128 + n ∧ n < 64 := by
  rw [drop_two s i hi] at h
  simp only [pairAt, pair_iff, decide_eq_true_iff] at h
  exact ⟨s[i + 1].toNat - 128, by omega, by omega⟩
theorem mk_size (l : List UInt8) : (⟨l.toArray⟩ : ByteArray).size = l.length := by simp [ByteArray.size]
theorem put_len {acc x : List UInt8} {n : Nat} (h : acc.length ≤ n) (hn : n ≤ 1000000) (hx : x.length ≤ 2) : (Lib.byteCells acc).length + (⟨x.toArray⟩ : ByteArray).size ≤ 140737488355328 := by
  rw [Lib.byteCells_length, mk_size]; omega
/-- what the loop of Fold holds -/
def FoldAt (w w1 : World) (l : List UInt8) (k : Nat) (wr : World) : Prop := ∃ acc : List UInt8, acc ++ rawL (l.drop k) = rawL l ∧
  Lib.IsBuilder 94 5 (w1.heap.size + 1) (w1.heap.size + 1) (Lib.byteCells acc) wr ∧ wr.heap[w1.heap.size]? = some (.cells tblV 144 (0, 0)) ∧ Below w.heap.size w wr ∧ w1.heap.size + 1 ≤ wr.heap.size
theorem FoldAt.len {w w1 : World} {l : List UInt8} {k : Nat} {wr : World} {acc : List UInt8} (h : acc ++ rawL (l.drop k) = rawL l) : acc.length ≤ l.length := by
  have := congrArg List.length h
  have h2 := (raw_ok l).2
  simp at this; omega
theorem FoldAt.step {w w1 wr w2 : World} {l acc x : List UInt8} {k k' : Nat} (hacc : acc ++ rawL (l.drop k) = rawL l) (hx : rawL (l.drop k) = x ++ rawL (l.drop k')) (ht : wr.heap[w1.heap.size]? = some (.cells tblV 144 (0, 0))) (hbw : Below w.heap.size w wr) (hz : w1.heap.size + 1 ≤ wr.heap.size) (hz1 : w.heap.size ≤ w1.heap.size)
    (hB : Lib.BuilderAt 94 5 (w1.heap.size + 1) (w1.heap.size + 1) (.pointer (some ⟨w1.heap.size + 1, 0, none⟩)) (Lib.byteCells acc ++ Lib.strCells ⟨x.toArray⟩) w2) (hb2 : Below (w1.heap.size + 1) wr w2) : FoldAt w w1 l k' w2 := by
  refine ⟨acc ++ x, by rw [List.append_assoc, ← hx]; exact hacc, .inr ?_, (hb2.block _ (by omega)).trans ht, hbw.trans (hb2.mono (by omega)), Nat.le_trans hz hb2.size⟩
  rw [Lib.byteCells_append]
  exact hB
set_option maxHeartbeats 4000000 in
theorem fold_yes (s : ByteArray) (w : World) (hs : s.size ≤ 100000) (hv : foldV s.data.toList = true) :
    Calls Tryz.prog 134 #[.string s] w fun e w' => e = .returned (.tuple #[strV (foldL s.data.toList), .int .i64 0]) ∧ Below w.heap.size w w' := by
  have hl : s.data.toList.length = s.size := by simp
  have HL := Lib.hid hl; clear hl
  have HV := Lib.hid hv; clear hv
  go_enter Tryz.func134, Tryz.ntmps134
  go_wp2_with fail
  refine (tvalid_any s _ (by omega)).mono ?_; rw [HV.out]; rintro e w' ⟨rfl, rfl⟩
  go_wp2_with fail
  refine (repl_any _).mono ?_; rintro e w1 ⟨rfl, hb1⟩
  have HB1 := Lib.hid hb1; clear hb1
  go_wp2_with (refine wpList_store_row rfl 144 (.tmp 4) (.tmp 10) rfl w1.heap.size tblV rfl rfl 144 _ (heap_alloc_new w1 _) (by kernel_rfl) (by kernel_rfl) (by kernel_rfl) ?_; rw [World.setRow_alloc_new])
  have hbz : w.heap.size ≤ w1.heap.size := HB1.out.size
  go_loopw [6] (fun i wr => ∃ k : Nat, k ≤ s.size ∧ i = .int .i64 k ∧ FoldAt w w1 s.data.toList k wr) (fun i _ => s.size - (intOf i).toNat)
  case atStart =>
    refine ⟨0, by omega, rfl, [], rfl, .inl ⟨Nat.le_refl _, _, by rw [show w1.heap.size + 1 = (w1.alloc (.cells tblV 144)).heap.size by simp]; exact heap_alloc_new _ _, ⟨rfl, .inl ⟨rfl, rfl⟩⟩, by simp [Value.ownBlock]⟩, blk_old (blk_new rfl), (HB1.out.alloc hbz _).alloc (by simp; omega) _, by simp⟩
  case round =>
    obtain ⟨k, hk, rfl, HF⟩ := hrel
    have HF' := Lib.hid HF; clear HF
    by_cases hlt : k < s.size
    · have hq : decide ((k : Int) < s.size) = true := by simp; omega
      go_wp2_with fail
      refine (pair_any s k _ hlt (by omega)).mono ?_; rintro e w' ⟨rfl, rfl⟩
      cases hp : pairAt (s.data.toList.drop k)
      · have HR := Lib.hid (raw_one s k hlt hp)
        clear hp
        obtain ⟨acc, hacc, hB, ht, hbw, hz⟩ := HF'.out
        have hal := FoldAt.len (w := w) (w1 := w1) (wr := wr) hacc
        have HA := Lib.hid hacc; have HT := Lib.hid ht; have HW := Lib.hid hbw; have HB := Lib.hid hB
        clear hacc ht hbw hB HF'
        go_wp2_with fail
        refine (plain_any s[k] _).mono ?_; rintro e w' ⟨rfl, rfl⟩
        have hpl := (plainB_ok s[k]).2
        go_wp2_with fail
        refine (wstr_any (w1.heap.size + 1) (w1.heap.size + 1) (Lib.byteCells acc) ⟨(plainB s[k]).toArray⟩ _ HB.out (put_len hal (by rw [HL.out]; omega) (by omega)) hz).mono ?_
        rintro e w2 ⟨rfl, hB2, hb2⟩
        have HF2 := Lib.hid (FoldAt.step HA.out HR.out HT.out HW.out hz hbz hB2 hb2)
        clear hB2 hb2
        go_wp2_with fail
        go_roundw
        case rel => exact ⟨k + 1, by omega, by go_num, HF2.out⟩
        case measure => simp [intOf]; omega
      · have h2 := pairAt_lt s k hlt hp
        have HR := Lib.hid (raw_two s k h2 hp)
        obtain ⟨n, hn, hn64⟩ := pairAt_snd s k h2 hp
        clear hp
        obtain ⟨acc, hacc, hB, ht, hbw, hz⟩ := HF'.out
        have hal := FoldAt.len (w := w) (w1 := w1) (wr := wr) hacc
        have hcell := tbl_cell ht s[k + 1] n hn hn64
        have hn' : (s[k + 1].toNat : Int) = 128 + (n : Int) := by omega
        have HA := Lib.hid hacc; have HT := Lib.hid ht; have HW := Lib.hid hbw; have HB := Lib.hid hB
        clear hacc ht hbw hB HF' hn
        go_wp2_with fail
        have hpl := (replB_ok s[k + 1]).2
        refine (wstr_any (w1.heap.size + 1) (w1.heap.size + 1) (Lib.byteCells acc) ⟨(replB s[k + 1]).toArray⟩ _ HB.out (put_len hal (by rw [HL.out]; omega) hpl) hz).mono ?_
        rintro e w2 ⟨rfl, hB2, hb2⟩
        have HF2 := Lib.hid (FoldAt.step HA.out HR.out HT.out HW.out hz hbz hB2 hb2)
        clear hB2 hb2
        go_wp2_with fail
        go_roundw
        case rel => exact ⟨k + 2, by omega, by go_num, HF2.out⟩
        case measure => simp [intOf]; omega
    · have hq : decide ((k : Int) < s.size) = false := by simp; omega
      obtain ⟨acc, hacc, hB, ht, hbw, hz⟩ := HF'.out
      rw [List.drop_eq_nil_of_le (by rw [HL.out]; omega)] at hacc
      have hacc' : acc = rawL s.data.toList := by simpa [rawL] using hacc
      subst hacc'
      have HW := Lib.hid hbw; have HB := Lib.hid hB
      clear hacc ht hbw hB HF'
      go_wp2_with fail
      refine (bstr_any (w1.heap.size + 1) (w1.heap.size + 1) _ _ HB.out hz).mono ?_
      rintro e w2 ⟨rfl, hb2⟩
      have HW2 := Lib.hid (HW.out.trans (hb2.mono (by omega))); clear hb2
      go_wp2_with fail
      have hrl := (raw_ok s.data.toList).2
      refine (tokens_any (rawL s.data.toList) _ (raw_ascii _) (by rw [HL.out] at hrl; omega)).mono ?_
      rintro e w3 ⟨A, rfl, hA, ho, hb3⟩
      have hV := Lib.hid (Vec.owns (S := Any1) (k := 1) (enc := encS) (fun _ => rfl) ho (fun _ _ _ => trivial))
      have HW3 := Lib.hid (HW2.out.trans (hb3.mono HW2.out.size)); clear hb3 ho
      go_wp2_with fail
      refine (join_any Any1 _ (toks (rawL s.data.toList)) _ hV.out (by have := (toksA_len (rawL s.data.toList) []).2.1; unfold toks; rw [HL.out] at hrl; omega) (by have := fold_len s.data.toList; unfold foldL at this; rw [HL.out] at this; omega)).mono ?_
      rintro e w4 ⟨rfl, hb4⟩
      have HW4 := Lib.hid (HW3.out.trans (hb4.mono HW3.out.size)); clear hb4
      go_wp2_with fail
      go_ret2
      exact ⟨rfl, HW4.out⟩
set_option maxHeartbeats 400000 in
theorem fold_no (s : ByteArray) (w : World) (hs : s.size ≤ 9223372036854775000) (hv : foldV s.data.toList = false) :
    Calls Tryz.prog 134 #[.string s] w fun e w' => e = .returned (.tuple #[strV [], .int .i64 3]) ∧ Below w.heap.size w w' := by
  have HV := Lib.hid hv; clear hv
  go_enter Tryz.func134, Tryz.ntmps134
  go_wp2_with fail
  refine (tvalid_any s _ (by omega)).mono ?_; rw [HV.out]; rintro e w' ⟨rfl, rfl⟩
  go_wp2_with fail
  go_ret2
  exact ⟨rfl, Below.refl _ _⟩
theorem fold_any (s : ByteArray) (w : World) (hs : s.size ≤ 9223372036854775000) :
    Calls Tryz.prog 134 #[.string s] w fun e w' => e = .returned (foldRes s.data.toList) ∧ Below w.heap.size w w' := by
  unfold foldRes
  cases hv : foldV s.data.toList with
  | false => exact fold_no s w hs hv
  | true =>
    have h := hv
    unfold foldV at h
    simp only [Bool.and_eq_true, decide_eq_true_iff] at h
    exact fold_yes s w (by have : s.data.toList.length = s.size := by simp
                           omega) hv
end Go.Proofs.YtfgoiojmbphmnaaGreatDoor
end
section
/- name: tokens, titles, the first rule, of all texts. -/
set_option linter.unusedSimpArgs false
set_option linter.unusedVariables false
set_option maxRecDepth 100000
namespace Go.Proofs.YtfgoiojmbphmnaaGreatDoor
open Go.RowKit
@[local go_sem] theorem toList_mk (l : List UInt8) : (⟨l.toArray⟩ : ByteArray).toList = l := by
  rw [Lib.toList_data]
attribute [local go_sem] mk_size
def tokenB (l : List UInt8) : Bool := bif l.isEmpty then false else bif decide (l.length ≤ 64) then lettersL l == l else false
theorem dec_len (l : List UInt8) (n : Nat) : decide ((l.length : Int) ≤ (n : Int)) = decide (l.length ≤ n) := by
  rw [Bool.eq_iff_iff]; simp
set_option maxHeartbeats 400000 in
theorem token_any (l : List UInt8) (w : World) :
    Calls Tryz.prog 125 #[strV l] w fun e w' => e = .returned (.bool (tokenB l)) ∧ Below w.heap.size w w' := by
  unfold tokenB
  by_cases h0 : l = []
  · subst h0
    go_enter Tryz.func125, Tryz.ntmps125
    go_wp2
    go_ret
    exact ⟨rfl, Below.refl _ _⟩
  · have h1 : l.isEmpty = false := by simpa using h0
    have h2 : (l == []) = false := by simpa using h0
    rw [h1]
    by_cases h3 : l.length ≤ 64
    · have h4 : decide (l.length ≤ 64) = true := by simpa using h3
      have h5 : decide ((l.length : Int) ≤ 64) = true := by simp; omega
      rw [h4]
      clear h0 h4
      go_enter Tryz.func125, Tryz.ntmps125
      go_wp2_with fail
      refine (letters_any ⟨l.toArray⟩ _ (by rw [mk_size]; omega)).mono ?_
      rintro e w1 ⟨rfl, hb⟩
      go_wp2_with fail
      go_ret
      exact ⟨rfl, hb⟩
    · have h4 : decide (l.length ≤ 64) = false := by simpa using h3
      have h5 : decide ((l.length : Int) ≤ 64) = false := by simp; omega
      rw [h4]
      clear h0 h4
      go_enter Tryz.func125, Tryz.ntmps125
      go_wp2_with fail
      go_ret
      exact ⟨rfl, Below.refl _ _⟩
end Go.Proofs.YtfgoiojmbphmnaaGreatDoor
end
