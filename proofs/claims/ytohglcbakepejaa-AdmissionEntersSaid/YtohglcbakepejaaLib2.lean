/- Small laws, the second part: the world under a name of its own; a row of cells, element by element. -/
import Derived.Test.YtohglcbakepejaaLib
set_option linter.unusedSimpArgs false
set_option linter.unusedVariables false
namespace Go.Proofs.Ytohglcbakepejaa
open Go.RowKit
/-- the world under a name of its own -/
theorem wp_world {P : Program} {c : Code} {Q : Exit → Act → World → Prop} {a : Act} {W : World} (h : ∀ w', w' = W → c.wp P Q a w') : c.wp P Q a W := h W rfl
/-- element k of a row of structs of three integers -/
theorem row_three {w : World} {b : Nat} {t : TypeId} {fr : Nat × Nat} {cs : Array Value} (l : List Int) (hcs : cs = (l.map (Value.int .i64)).toArray) (h : w.heap[b]? = some (.cells cs t fr)) (k : Nat) (hk : k * 3 + 2 < l.length) :
    ∃ y m d : Int, w.cell? ⟨b, k * 3, none⟩ = some (.int .i64 y) ∧ w.cell? ⟨b, k * 3 + 1, none⟩ = some (.int .i64 m) ∧ w.cell? ⟨b, k * 3 + 2, none⟩ = some (.int .i64 d) := by
  subst hcs
  refine ⟨l.getD (k * 3) 0, l.getD (k * 3 + 1) 0, l.getD (k * 3 + 2) 0, ?_, ?_, ?_⟩ <;>
  · rw [cell_of_row _ _ _ _ _ _ h]
    simp only [List.getElem?_toArray, List.getElem?_map, List.getD_eq_getElem?_getD]
    rw [List.getElem?_eq_getElem (by omega)]
    rfl
/-- element k of a row of strings -/
theorem row_str {w : World} {b : Nat} {t : TypeId} {fr : Nat × Nat} {cs : Array Value} (l : List ByteArray) (hcs : cs = (l.map Value.string).toArray) (h : w.heap[b]? = some (.cells cs t fr)) (k : Nat) (hk : k < l.length) :
    ∃ s : ByteArray, w.cell? ⟨b, k, none⟩ = some (.string s) := by
  subst hcs
  refine ⟨l[k], ?_⟩
  rw [cell_of_row _ _ _ _ _ _ h]
  simp [hk]
/-- element k of a row of integers -/
theorem row_int {w : World} {b : Nat} {t : TypeId} {fr : Nat × Nat} {cs : Array Value} (l : List Int) (hcs : cs = (l.map (Value.int .i64)).toArray) (h : w.heap[b]? = some (.cells cs t fr)) (k : Nat) (hk : k < l.length) :
    w.cell? ⟨b, k, none⟩ = some (.int .i64 l[k]) := by
  subst hcs
  rw [cell_of_row _ _ _ _ _ _ h]
  simp [hk]
end Go.Proofs.Ytohglcbakepejaa
