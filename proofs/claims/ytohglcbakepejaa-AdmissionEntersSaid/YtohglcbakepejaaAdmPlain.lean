/- Exposures as plain data: which are valid, which are within others, and the greater numbers of two. No program. -/
import Derived.Test.YtohglcbakepejaaLib2
set_option linter.unusedSimpArgs false
set_option linter.unusedVariables false
namespace Go.Proofs.Ytohglcbakepejaa
open Go.RowKit
structure Ex where
  f : Int
  u : Int
  h : Int
  c : Int
  i : Int
def Ex.cells (x : Ex) : List Value := [.int .i64 x.f, .int .i64 x.u, .int .i64 x.h, .int .i64 x.c, .int .i64 x.i]
def Ex.val (x : Ex) : Value := .agg #[.int .i64 x.f, .int .i64 x.u, .int .i64 x.h, .int .i64 x.c, .int .i64 x.i]
def Ex.inB (x : Ex) : Prop := (0 ≤ x.u ∧ x.u ≤ 64) ∧ (0 ≤ x.h ∧ x.h ≤ 64) ∧ (0 ≤ x.c ∧ x.c ≤ 512) ∧ (0 ≤ x.i ∧ x.i ≤ 1000)
def Ex.ok (k : Int) (x : Ex) : Prop := x.f = k ∧ x.inB
instance (x : Ex) : Decidable x.inB := by unfold Ex.inB; infer_instance
instance (k : Int) (x : Ex) : Decidable (x.ok k) := by unfold Ex.ok; infer_instance
def Ex.le (x y : Ex) : Prop := x.u ≤ y.u ∧ x.h ≤ y.h ∧ x.c ≤ y.c ∧ x.i ≤ y.i
instance (x y : Ex) : Decidable (x.le y) := by unfold Ex.le; infer_instance
/-- each is valid at its place, from place k on -/
def okAll : Nat → List Ex → Prop
  | _, [] => True
  | k, x :: l => x.ok k ∧ okAll (k + 1) l
instance okAllDec : (k : Nat) → (l : List Ex) → Decidable (okAll k l)
  | _, [] => isTrue trivial
  | k, x :: l => @instDecidableAnd _ _ _ (okAllDec (k + 1) l)
theorem okAll_iff (l : List Ex) : ∀ k, okAll k l ↔ ∀ j, (h : j < l.length) → (l[j]).ok ((k + j : Nat) : Int) := by
  induction l with
  | nil => intro k; simp [okAll]
  | cons x l ih =>
    intro k
    simp only [okAll, ih, List.length_cons]
    constructor
    · rintro ⟨h1, h2⟩ j hj
      cases j with
      | zero => simpa using h1
      | succ j => have := h2 j (by omega); simpa [Nat.add_assoc, Nat.add_comm 1 j] using this
    · intro h
      refine ⟨by simpa using h 0 (by omega), fun j hj => ?_⟩
      have := h (j + 1) (by omega)
      simpa [Nat.add_assoc, Nat.add_comm 1 j] using this
def chkE (l : List Ex) : Int := if 1 ≤ l.length ∧ l.length ≤ 5 then (if okAll 0 l then 0 else 2) else 8
def leAll : List Ex → List Ex → Prop
  | x :: l, y :: r => x.le y ∧ leAll l r
  | _, _ => True
instance leAllDec : (l r : List Ex) → Decidable (leAll l r)
  | x :: l, y :: r => @instDecidableAnd _ _ _ (leAllDec l r)
  | [], [] => isTrue trivial
  | [], _ :: _ => isTrue trivial
  | _ :: _, [] => isTrue trivial
theorem leAll_iff (l : List Ex) : ∀ r, leAll l r ↔ ∀ j, (h : j < l.length) → (h' : j < r.length) → (l[j]).le r[j] := by
  induction l with
  | nil => intro r; simp [leAll]
  | cons x l ih =>
    intro r
    cases r with
    | nil => simp [leAll]
    | cons y r =>
      simp only [leAll, ih, List.length_cons]
      constructor
      · rintro ⟨h1, h2⟩ j hj hj'
        cases j with
        | zero => simpa using h1
        | succ j => have := h2 j (by omega) (by omega); simpa using this
      · intro h
        refine ⟨by simpa using h 0 (by omega) (by omega), fun j hj hj' => ?_⟩
        have := h (j + 1) (by omega) (by omega)
        simpa using this
def check2 (a b : List Ex) : Int := if chkE a ≠ 0 then chkE a else if chkE b ≠ 0 then chkE b else if a.length ≠ b.length then 8 else 0
def admitE (b l : List Ex) : Int := if check2 b l ≠ 0 then check2 b l else if leAll l b then 0 else 11
def Ex.max2 (k : Int) (x y : Ex) : Ex := ⟨k, max x.u y.u, max x.h y.h, max x.c y.c, max x.i y.i⟩
/-- element by element, the greater numbers -/
def maxAll : Nat → List Ex → List Ex → List Ex
  | k, x :: l, y :: r => Ex.max2 k x y :: maxAll (k + 1) l r
  | _, _, _ => []
theorem maxAll_len (l : List Ex) : ∀ k r, l.length = r.length → (maxAll k l r).length = l.length := by
  induction l with
  | nil => intro k r h; simp [maxAll]
  | cons x l ih =>
    intro k r h
    cases r with
    | nil => simp at h
    | cons y r => simp [maxAll, ih (k + 1) r (by simpa using h)]
theorem maxAll_get (l : List Ex) : ∀ k r, (hl : l.length = r.length) → ∀ j, (h : j < l.length) → (h' : j < r.length) → (h2 : j < (maxAll k l r).length) → (maxAll k l r)[j] = Ex.max2 ((k + j : Nat) : Int) l[j] r[j] := by
  induction l with
  | nil => intro k r hl j h; simp at h
  | cons x l ih =>
    intro k r hl j h h' h2
    cases r with
    | nil => simp at hl
    | cons y r =>
      cases j with
      | zero => simp [maxAll]
      | succ j =>
        simp only [maxAll, List.getElem_cons_succ]
        rw [ih (k + 1) r (by simpa using hl) j (by simpa using h) (by simpa using h')]
        congr 1; omega
/-- what Enter answers: the list, and the code -/
def regE (a l : List Ex) : List Ex := if a.length = 0 then l else a
def enterE (a l : List Ex) : Int := check2 (regE a l) l
end Go.Proofs.Ytohglcbakepejaa
