/- Rows of cells behind a slice value: what can be read, in blocks of a set S; handed on over whatever leaves these blocks as they are. -/
import Derived.Test.YtohglcbakepejaaLib2
set_option linter.unusedSimpArgs false
set_option linter.unusedVariables false
namespace Go.Proofs.Ytohglcbakepejaa
open Go.RowKit
/-- v is a slice of n elements of size cells each; its cells are xs, in a block of S -/
def Row (w : World) (S : Nat → Prop) (size : Nat) (v : Value) (n : Nat) (xs : List Value) : Prop :=
  ∃ a cap, v = .slice a n cap ∧ xs.length = n * size ∧ (0 < xs.length → ∃ b off, a = some ⟨b, off, none⟩ ∧ S b ∧ ∀ j, j < xs.length → w.cell? ⟨b, off + j, none⟩ = xs[j]?)
/-- all blocks that are there -/
def All (w : World) (b : Nat) : Prop := b < w.heap.size
theorem Row.move {w w' : World} {S S' : Nat → Prop} {size : Nat} {v : Value} {n : Nat} {xs : List Value} (h : Row w S size v n xs) (hS : ∀ b, b < w.heap.size → S b → w'.heap[b]? = w.heap[b]? ∧ S' b) : Row w' S' size v n xs := by
  obtain ⟨a, cap, h1, h2, h3⟩ := h
  refine ⟨a, cap, h1, h2, fun h0 => ?_⟩
  obtain ⟨b, off, h4, h5, h6⟩ := h3 h0
  have hb : b < w.heap.size := by
    have := h6 0 h0
    rw [List.getElem?_eq_getElem h0] at this
    exact World.block_lt_of_cell? _ _ this
  obtain ⟨e1, e2⟩ := hS b hb h5
  exact ⟨b, off, h4, e2, fun j hj => (World.cell?_of_block (w := w) (a := ⟨b, off + j, none⟩) e1).trans (h6 j hj)⟩
theorem Row.below {w w' : World} {size : Nat} {v : Value} {n : Nat} {xs : List Value} (h : Row w (All w) size v n xs) (hb : Below w.heap.size w w') : Row w' (All w') size v n xs :=
  h.move fun b hb' _ => ⟨hb.block b hb', Nat.lt_of_lt_of_le hb' hb.size⟩
theorem Row.nil (w : World) (S : Nat → Prop) (size : Nat) : Row w S size (.slice none 0 0) 0 [] := ⟨none, 0, rfl, by simp, by simp⟩
theorem Row.slice {w : World} {S : Nat → Prop} {size : Nat} {v : Value} {n : Nat} {xs : List Value} (h : Row w S size v n xs) : ∃ a cap, v = .slice a n cap := by
  obtain ⟨a, cap, h1, _⟩ := h; exact ⟨a, cap, h1⟩
/-- a row that the call owns can be read -/
theorem Row.owns {w : World} {B : Nat} {e : TypeId} {size : Nat} {v : Value} {n : Nat} {xs : List Value} (h : w.ownsRow B e size v n xs) {S : Nat → Prop} (hS : ∀ b, B ≤ b → b < w.heap.size → S b) : Row w S size v n xs := by
  obtain ⟨hl, h⟩ := h
  rcases h with ⟨rfl, rfl⟩ | ⟨g, cap, cur, rfl, hg, hh, hn, hc, hsz, ht⟩
  · have : xs = [] := List.length_eq_zero_iff.1 (by omega)
    subst this
    exact Row.nil w S size
  · refine ⟨_, cap, rfl, hl, fun h0 => ⟨g, 0, rfl, hS g hg (lt_of_blk hh), fun j hj => ?_⟩⟩
    rw [cell_of_row w g (0 + j) cur e (0, 0) hh, Nat.zero_add, ← ht, List.getElem?_take, if_pos (by omega), Array.getElem?_toList]
/-- cells of element k, five cells each -/
theorem Row.five {w : World} {S : Nat → Prop} {n : Nat} {xs : List Value} {a : Option Addr} {cap : Nat} (h : Row w S 5 (.slice a n cap) n xs) (k : Nat) (hk : k < n) (x0 x1 x2 x3 x4 : Value) (e : (xs.drop (k * 5)).take 5 = [x0, x1, x2, x3, x4]) :
    ∃ b off, a = some ⟨b, off, none⟩ ∧ b < w.heap.size ∧ w.cell? ⟨b, off + k * 5, none⟩ = some x0 ∧ w.cell? ⟨b, off + k * 5 + 1, none⟩ = some x1 ∧ w.cell? ⟨b, off + k * 5 + 2, none⟩ = some x2 ∧ w.cell? ⟨b, off + k * 5 + 3, none⟩ = some x3 ∧ w.cell? ⟨b, off + k * 5 + 4, none⟩ = some x4 := by
  obtain ⟨a', cap', h1, h2, h3⟩ := h
  have hlen : k * 5 + 5 ≤ xs.length := by rw [h2]; omega
  obtain ⟨b, off, h4, h5, h6⟩ := h3 (by omega)
  cases h1
  have g : ∀ i, (hi : i < 5) → xs[k * 5 + i]? = [x0, x1, x2, x3, x4][i]? := by
    intro i hi
    rw [← e, List.getElem?_take, if_pos hi, List.getElem?_drop]
  have c : ∀ i, (hi : i < 5) → w.cell? ⟨b, off + k * 5 + i, none⟩ = [x0, x1, x2, x3, x4][i]? := by
    intro i hi
    rw [Nat.add_assoc, h6 _ (by omega), g i hi]
  have c0 := c 0 (by omega)
  exact ⟨b, off, h4, World.block_lt_of_cell? _ ⟨b, off + k * 5 + 0, none⟩ c0, c0, c 1 (by omega), c 2 (by omega), c 3 (by omega), c 4 (by omega)⟩
end Go.Proofs.Ytohglcbakepejaa
