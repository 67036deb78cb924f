/- Contracts of date.Age and date.Swapped: for all dates. -/
import Derived.Test.YtbibdpoempjcnaaDateB
set_option linter.unusedSimpArgs false
set_option linter.unusedVariables false
namespace Go.Proofs.Ytbibdpoempjcnaa
open Go.RowKit Cal
/-- the age in years, of two valid dates -/
def ageI (y m d y' m' d' : Int) : Int := bif befB m' d' m d then y' - y - 1 else y' - y
def ageV (y m d y' m' d' : Int) : Value :=
  if vldB y m d = true ∧ vldB y' m' d' = true then (if ageI y m d y' m' d' < 0 then .tuple #[.int .i64 0, .int .i64 2] else .tuple #[.int .i64 (ageI y m d y' m' d'), .int .i64 0]) else .tuple #[.int .i64 0, .int .i64 4]
set_option maxHeartbeats 1000000 in
theorem age_yes (y m d y' m' d' : Int) (w : World) (hv : vldB y m d = true) (hv' : vldB y' m' d' = true) :
    Calls Try.prog 21 #[.agg #[.int .i64 y, .int .i64 m, .int .i64 d], .agg #[.int .i64 y', .int .i64 m', .int .i64 d']] w fun e w' => e = .returned (ageV y m d y' m' d') ∧ Below w.heap.size w w' := by
  obtain ⟨b1, b2, b3, b4, b5, b6⟩ := vld_bd hv
  obtain ⟨a1, a2, a3, a4, a5, a6⟩ := vld_bd hv'
  rw [ageV, if_pos ⟨hv, hv'⟩, ageI]
  cases hf : befB m' d' m d
  all_goals
    simp only [cond_true, cond_false]
    have HB : Hid (∀ w, Calls Try.prog 39 #[.agg #[.int .i64 y', .int .i64 m', .int .i64 d'], .agg #[.int .i64 y, .int .i64 m, .int .i64 d]] w fun e w' => e = .returned (.bool (befB m' d' m d)) ∧ Below w.heap.size w w') := fun w => before_any y' m' d' y m d w
    rw [hf] at HB
    clear hf
    go_enter Try.func21, Try.ntmps21
    go_wp2_with fail
    refine (valid_yes _ _ _ _ hv).mono ?_
    rintro e w1 ⟨rfl, hb1⟩
    have g0 : w1.heap[w.heap.size]? = some (.cells #[.int .i64 y, .int .i64 m, .int .i64 d] 28 (0, 0)) := blk_below hb1 (by simp; omega) (heap_alloc2_old _ _ _)
    have g1 : w1.heap[w.heap.size + 1]? = some (.cells #[.int .i64 y', .int .i64 m', .int .i64 d'] 28 (0, 0)) := blk_below hb1 (by simp) (heap_alloc2_new _ _ _)
    have hz1 : w.heap.size + 1 < w1.heap.size := by have := hb1.size; simp at this; omega
    obtain ⟨p0, p1, p2⟩ := cells3 g1
    have G0 := Lib.hid g0; clear g0
    have G1 := Lib.hid g1; clear g1
    go_wp2_with fail
    refine (valid_yes _ _ _ _ hv').mono ?_
    rintro e w2 ⟨rfl, hb2⟩
    clear p0 p1 p2
    obtain ⟨p0, p1, p2⟩ := cells3 (blk_below hb2 (by omega) G1.out)
    obtain ⟨q0, q1, q2⟩ := cells3 (blk_below hb2 (by omega) G0.out)
    go_wp2_with fail
    refine (HB.out _).mono ?_
    rintro e w3 ⟨rfl, hb3⟩
    have hend : Below w.heap.size w w3 := ((((Below.refl _ _).alloc (Nat.le_refl _) _).alloc (by simp) _).trans (hb1.mono (by simp; omega))).trans ((hb2.mono (by omega)).trans (hb3.mono (by have := hb2.size; omega)))
    clear hb1 hb2 hb3 HB hv hv'
    go_wp2
    all_goals go_ret2
  all_goals exact ⟨rfl, hend⟩
set_option maxHeartbeats 1000000 in
theorem age_no1 (y m d y' m' d' : Int) (w : World) (hv : vldB y m d = false) :
    Calls Try.prog 21 #[.agg #[.int .i64 y, .int .i64 m, .int .i64 d], .agg #[.int .i64 y', .int .i64 m', .int .i64 d']] w fun e w' => e = .returned (.tuple #[.int .i64 0, .int .i64 4]) ∧ Below w.heap.size w w' := by
  go_enter Try.func21, Try.ntmps21
  go_wp2_with fail
  refine (valid_no _ _ _ _ hv).mono ?_
  rintro e w1 ⟨rfl, hb1⟩
  go_wp2_with fail
  go_ret2
  exact ⟨rfl, (((Below.refl _ _).alloc (Nat.le_refl _) _).alloc (by simp) _).trans (hb1.mono (by simp; omega))⟩
set_option maxHeartbeats 1000000 in
theorem age_no2 (y m d y' m' d' : Int) (w : World) (hv : vldB y m d = true) (hv' : vldB y' m' d' = false) :
    Calls Try.prog 21 #[.agg #[.int .i64 y, .int .i64 m, .int .i64 d], .agg #[.int .i64 y', .int .i64 m', .int .i64 d']] w fun e w' => e = .returned (.tuple #[.int .i64 0, .int .i64 4]) ∧ Below w.heap.size w w' := by
  go_enter Try.func21, Try.ntmps21
  go_wp2_with fail
  refine (valid_yes _ _ _ _ hv).mono ?_
  rintro e w1 ⟨rfl, hb1⟩
  obtain ⟨p0, p1, p2⟩ := cells3 (show w1.heap[w.heap.size + 1]? = some (.cells #[.int .i64 y', .int .i64 m', .int .i64 d'] 28 (0, 0)) from blk_below hb1 (by simp) (heap_alloc2_new _ _ _))
  have hz1 : w.heap.size + 1 < w1.heap.size := by have := hb1.size; simp at this; omega
  go_wp2_with fail
  refine (valid_no _ _ _ _ hv').mono ?_
  rintro e w2 ⟨rfl, hb2⟩
  go_wp2_with fail
  go_ret2
  exact ⟨rfl, ((((Below.refl _ _).alloc (Nat.le_refl _) _).alloc (by simp) _).trans (hb1.mono (by simp; omega))).trans (hb2.mono (by omega))⟩
theorem age_any (y m d y' m' d' : Int) (w : World) :
    Calls Try.prog 21 #[.agg #[.int .i64 y, .int .i64 m, .int .i64 d], .agg #[.int .i64 y', .int .i64 m', .int .i64 d']] w fun e w' => e = .returned (ageV y m d y' m' d') ∧ Below w.heap.size w w' := by
  cases hv : vldB y m d with
  | false => rw [ageV, if_neg (by simp [hv])]; exact age_no1 y m d y' m' d' w hv
  | true =>
    cases hv' : vldB y' m' d' with
    | false => rw [ageV, if_neg (by simp [hv'])]; exact age_no2 y m d y' m' d' w hv hv'
    | true => exact age_yes y m d y' m' d' w hv hv'

def swV (y m d : Int) : Value :=
  if vldB y m d = true ∧ vldB y d m = true then .tuple #[.agg #[.int .i64 y, .int .i64 d, .int .i64 m], .bool true] else .tuple #[.agg #[.int .i64 0, .int .i64 0, .int .i64 0], .bool false]
set_option maxHeartbeats 1000000 in
theorem swapped_any (y m d : Int) (w : World) :
    Calls Try.prog 19 #[.agg #[.int .i64 y, .int .i64 m, .int .i64 d]] w fun e w' => e = .returned (swV y m d) ∧ Below w.heap.size w w' := by
  cases hv : vldB y m d
  · rw [swV, if_neg (by simp [hv])]
    go_enter Try.func19, Try.ntmps19
    go_wp2_with fail
    refine (valid_no _ _ _ _ hv).mono ?_
    rintro e w1 ⟨rfl, hb1⟩
    obtain ⟨hc1, hf1⟩ := bcell hb1
    have hz1 : w.heap.size + 2 < w1.heap.size := by have := hb1.size; simp at this; omega
    have g1 : w1.heap[w.heap.size + 1]? = some (.cells #[.int .i64 0, .int .i64 0, .int .i64 0] 28 (0, 0)) := blk_below hb1 (by simp) (blk_old (blk_new (by simp)))
    have G1 := Lib.hid g1; clear g1
    go_wp2_with fail
    exact bodyPost_row2 rfl rfl (blk_set (blk_set (blk_set G1.out))) Try.underlying28 rfl rfl ⟨rfl, (((((((Below.refl _ _).alloc (Nat.le_refl _) _).alloc (by simp) _).alloc (by simp; omega) _).trans (hb1.mono (by simp; omega))).setCell (by simp) _).setCell (by simp) _).setCell (by simp) _⟩
  · cases hv' : vldB y d m
    · rw [swV, if_neg (by simp [hv'])]
      go_enter Try.func19, Try.ntmps19
      go_wp2_with fail
      refine (valid_yes _ _ _ _ hv).mono ?_
      rintro e w1 ⟨rfl, hb1⟩
      have g1 : w1.heap[w.heap.size + 1]? = some (.cells #[.int .i64 0, .int .i64 0, .int .i64 0] 28 (0, 0)) := blk_below hb1 (by simp) (blk_old (blk_new (by simp)))
      obtain ⟨p0, p1, p2⟩ := cells3 (show w1.heap[w.heap.size + 2]? = some (.cells #[.int .i64 y, .int .i64 d, .int .i64 m] 28 (0, 0)) from blk_below hb1 (by simp) (blk_new (by simp)))
      have hz1 : w.heap.size + 2 < w1.heap.size := by have := hb1.size; simp at this; omega
      have G1 := Lib.hid g1; clear g1
      go_wp2_with fail
      refine (valid_no _ _ _ _ hv').mono ?_
      rintro e w2 ⟨rfl, hb2⟩
      clear p0 p1 p2
      have g1 := blk_below hb2 (by omega) G1.out
      obtain ⟨q0, q1, q2⟩ := cells3 g1
      have hz2 : w.heap.size + 2 < w2.heap.size := by have := hb2.size; omega
      obtain ⟨r0, r1, r2⟩ := free3 g1
      clear g1
      go_wp2_with fail
      exact bodyPost_row2 rfl rfl (blk_set (blk_set (blk_set (blk_below hb2 (by omega) G1.out)))) Try.underlying28 rfl rfl ⟨rfl, ((((((((Below.refl _ _).alloc (Nat.le_refl _) _).alloc (by simp) _).alloc (by simp; omega) _).trans (hb1.mono (by simp; omega))).trans (hb2.mono (by omega))).setCell (by simp) _).setCell (by simp) _).setCell (by simp) _⟩
    · rw [swV, if_pos ⟨hv, hv'⟩]
      go_enter Try.func19, Try.ntmps19
      go_wp2_with fail
      refine (valid_yes _ _ _ _ hv).mono ?_
      rintro e w1 ⟨rfl, hb1⟩
      have g1 : w1.heap[w.heap.size + 1]? = some (.cells #[.int .i64 0, .int .i64 0, .int .i64 0] 28 (0, 0)) := blk_below hb1 (by simp) (blk_old (blk_new (by simp)))
      have g2 : w1.heap[w.heap.size + 2]? = some (.cells #[.int .i64 y, .int .i64 d, .int .i64 m] 28 (0, 0)) := blk_below hb1 (by simp) (blk_new (by simp))
      have G2 := Lib.hid g2; clear g2
      obtain ⟨p0, p1, p2⟩ := cells3 G2.out
      have hz1 : w.heap.size + 2 < w1.heap.size := by have := hb1.size; simp at this; omega
      have G1 := Lib.hid g1; clear g1
      go_wp2_with fail
      refine (valid_yes _ _ _ _ hv').mono ?_
      rintro e w2 ⟨rfl, hb2⟩
      clear p0 p1 p2
      have g1 := blk_below hb2 (by omega) G1.out
      obtain ⟨p0, p1, p2⟩ := cells3 (blk_below hb2 (by omega) G2.out)
      obtain ⟨q0, q1, q2⟩ := cells3 g1
      have hz2 : w.heap.size + 2 < w2.heap.size := by have := hb2.size; omega
      obtain ⟨r0, r1, r2⟩ := free3 g1
      clear g1
      go_wp2_with fail
      exact bodyPost_row2 rfl rfl (blk_set (blk_set (blk_set (blk_below hb2 (by omega) G1.out)))) Try.underlying28 rfl rfl ⟨rfl, ((((((((Below.refl _ _).alloc (Nat.le_refl _) _).alloc (by simp) _).alloc (by simp; omega) _).trans (hb1.mono (by simp; omega))).trans (hb2.mono (by omega))).setCell (by simp) _).setCell (by simp) _).setCell (by simp) _⟩
end Go.Proofs.Ytbibdpoempjcnaa
