/- The deck deals a date: a year from 1800 to 2199, a month from 0 to 13, a day from 1 to 32. -/
import Derived.Test.YtbibdpoempjcnaaMakeA
set_option linter.unusedSimpArgs false
set_option linter.unusedVariables false
namespace Go.Proofs.Ytbibdpoempjcnaa
open Go.RowKit
def DatePost (D : Nat) (w : World) (e : Ending) (w' : World) : Prop :=
  ∃ y m d : Int, e = .returned (.agg #[.int .i64 y, .int .i64 m, .int .i64 d]) ∧ (1800 ≤ y ∧ y ≤ 2199 ∧ 0 ≤ m ∧ m ≤ 13 ∧ 1 ≤ d ∧ d ≤ 32) ∧ Moved D w w'
set_option maxHeartbeats 4000000 in
theorem date_any (D : Nat) (w : World) (h : DeckAt w D) :
    Calls Try.prog 12 #[.pointer (some ⟨D, 0, none⟩)] w (DatePost D w) := by
  have hlt := h.lt
  have M0 := Lib.hid ((Moved.start h).alloc (.cells #[.int .i64 0, .int .i64 0, .int .i64 0] 28))
  clear h
  go_enter Try.func12, Try.ntmps12
  go_wp2_with fail
  refine (next_any D _ _ M0.out.deck (by omega) (by omega)).mono ?_
  rintro e w1 ⟨y, rfl, y0, y1, m1⟩
  have R1 := Lib.hid (m1.blk (by omega) (blk_new rfl)); have M1 := Lib.hid (M0.out.trans m1); clear m1 M0
  go_wp2_with fail
  refine (next_any D _ _ M1.out.deck (by omega) (by omega)).mono ?_
  rintro e w2 ⟨m, rfl, m0, m1, m2⟩
  have R2 := Lib.hid (m2.blk (by omega) R1.out); have M2 := Lib.hid (M1.out.trans m2); clear m2 M1 R1
  go_wp2_with fail
  refine (next_any D _ _ M2.out.deck (by omega) (by omega)).mono ?_
  rintro e w3 ⟨d, rfl, d0, d1, m3⟩
  have R3 := Lib.hid (m3.blk (by omega) R2.out); have M3 := Lib.hid ((M2.out.trans m3).alloc (.cells #[.int .i64 (1900 + y), .int .i64 (1 + m), .int .i64 (1 + d)] 28))
  have l3 := m3.deck.lt
  have hz3 : w.heap.size < w3.heap.size := lt_of_blk R3.out
  clear m3 M2 R2
  go_wp2_with fail
  refine (next_any D _ _ M3.out.deck (by omega) (by omega)).mono ?_
  rintro e w4 ⟨k, rfl, k0, k1, m4⟩
  have R4 := Lib.hid (m4.blk (by omega) (blk_old R3.out)); have X4 := Lib.hid (m4.blk (by omega) (blk_new rfl)); have M4 := Lib.hid (M3.out.trans m4)
  have hz4 : w3.heap.size < w4.heap.size := lt_of_blk X4.out
  clear m4 M3 R3
  have neX : w.heap.size ≠ w3.heap.size := by omega
  obtain ⟨x0, x1, x2⟩ := cells3 X4.out
  obtain ⟨u0, u1, u2⟩ := free3 X4.out
  obtain ⟨r0, r1, r2⟩ := cells3 R4.out
  obtain ⟨v0, v1, v2⟩ := free3 R4.out
  go_wp2_with fail
  · refine (next_any D _ _ M4.out.deck (by omega) (by omega)).mono ?_
    rintro e w5 ⟨j, rfl, j0, j1, m5⟩
    clear x0 x1 x2 u0 u1 u2 r0 r1 r2 v0 v1 v2
    have R5 := Lib.hid (m5.blk (by omega) R4.out); have X5 := Lib.hid (m5.blk (by omega) X4.out); have M5 := Lib.hid (M4.out.trans m5)
    clear m5
    obtain ⟨x0, x1, x2⟩ := cells3 X5.out
    obtain ⟨u0, u1, u2⟩ := free3 X5.out
    obtain ⟨r0, r1, r2⟩ := cells3 R5.out
    obtain ⟨v0, v1, v2⟩ := free3 R5.out
    go_wp2_with fail
    exact bodyPost_row1 rfl rfl (blk_set (blk_set (blk_set (blk_far (blk_far R5.out (by simp; omega)) (by simp; omega))))) Try.underlying28 rfl rfl
      ⟨_, _, _, rfl, by omega, ((((M5.out.set (by simp; omega) _).set (by simp; omega) _).set (by simp) _).set (by simp) _).set (by simp) _⟩
  · refine (next_any D _ _ (M4.out.alloc _).deck (by omega) (by omega)).mono ?_
    rintro e w5 ⟨j, rfl, j0, j1, m5⟩
    clear x0 x1 x2 u0 u1 u2 r0 r1 r2 v0 v1 v2
    have R5 := Lib.hid (m5.blk (by omega) (blk_old R4.out)); have X5 := Lib.hid (m5.blk (by omega) (blk_old X4.out)); have M5 := Lib.hid ((M4.out.alloc _).trans m5)
    have C5 := m5.blk (k := w4.heap.size) (by omega) (blk_new rfl)
    clear m5
    obtain ⟨x0, x1, x2⟩ := cells3 X5.out
    obtain ⟨u0, u1, u2⟩ := free3 X5.out
    obtain ⟨r0, r1, r2⟩ := cells3 R5.out
    obtain ⟨v0, v1, v2⟩ := free3 R5.out
    have hc : ∃ q : Int, w5.cell? ⟨w4.heap.size, j.toNat, none⟩ = some (.int .i64 q) ∧ 1800 ≤ q ∧ q ≤ 2199 := by
      have : j = 0 ∨ j = 1 ∨ j = 2 ∨ j = 3 := by omega
      rcases this with rfl | rfl | rfl | rfl <;> exact ⟨_, (cell_of_row _ _ _ _ _ _ C5).trans rfl, by omega, by omega⟩
    clear C5
    obtain ⟨q, hc, q0, q1⟩ := hc
    go_wp2_with fail
    exact bodyPost_row1 rfl rfl (blk_set (blk_set (blk_set (blk_far R5.out (by simp; omega))))) Try.underlying28 rfl rfl
      ⟨_, _, _, rfl, by omega, (((M5.out.set (by simp; omega) _).set (by simp) _).set (by simp) _).set (by simp) _⟩
  · refine (next_any D _ _ M4.out.deck (by omega) (by omega)).mono ?_
    rintro e w5 ⟨j, rfl, j0, j1, m5⟩
    clear x0 x1 x2 u0 u1 u2 r0 r1 r2 v0 v1 v2
    have R5 := Lib.hid (m5.blk (by omega) R4.out); have X5 := Lib.hid (m5.blk (by omega) X4.out); have M5 := Lib.hid (M4.out.trans m5)
    clear m5
    obtain ⟨x0, x1, x2⟩ := cells3 X5.out
    obtain ⟨u0, u1, u2⟩ := free3 X5.out
    obtain ⟨r0, r1, r2⟩ := cells3 R5.out
    obtain ⟨v0, v1, v2⟩ := free3 R5.out
    go_wp2_with fail
    exact bodyPost_row1 rfl rfl (blk_set (blk_set (blk_set (blk_far R5.out (by simp; omega))))) Try.underlying28 rfl rfl
      ⟨_, _, _, rfl, by omega, (((M5.out.set (by simp; omega) _).set (by simp) _).set (by simp) _).set (by simp) _⟩
  · refine (next_any D _ _ M4.out.deck (by omega) (by omega)).mono ?_
    rintro e w5 ⟨j, rfl, j0, j1, m5⟩
    clear x0 x1 x2 u0 u1 u2 r0 r1 r2 v0 v1 v2
    have R5 := Lib.hid (m5.blk (by omega) R4.out); have X5 := Lib.hid (m5.blk (by omega) X4.out); have M5 := Lib.hid (M4.out.trans m5)
    clear m5
    obtain ⟨x0, x1, x2⟩ := cells3 X5.out
    obtain ⟨u0, u1, u2⟩ := free3 X5.out
    obtain ⟨r0, r1, r2⟩ := cells3 R5.out
    obtain ⟨v0, v1, v2⟩ := free3 R5.out
    go_wp2_with fail
    exact bodyPost_row1 rfl rfl (blk_set (blk_set (blk_set (blk_far R5.out (by simp; omega))))) Try.underlying28 rfl rfl
      ⟨_, _, _, rfl, by omega, (((M5.out.set (by simp; omega) _).set (by simp) _).set (by simp) _).set (by simp) _⟩
  · exact bodyPost_row1 rfl rfl (blk_set (blk_set (blk_set R4.out))) Try.underlying28 rfl rfl
      ⟨_, _, _, rfl, by omega, ((M4.out.set (by simp) _).set (by simp) _).set (by simp) _⟩
theorem deck_law {w w1 : World} {a : Option Addr} {n cap : Nat} {zs : List Int} (hn : n ≤ 400) (hr : IsRow .i64 w a n cap zs) (hb : Below w.heap.size w w1) :
    DeckAt (w1.alloc (.cells #[.slice a n cap, .int .i64 0, .int .u64 11400714819323198485] 55)) w1.heap.size :=
  deck_new hn fun h0 => by
    obtain ⟨b, off, e1, e2, e3⟩ := hr.read h0
    exact ⟨b, off, e1, Nat.lt_of_lt_of_le e2 hb.size, fun i hi => by obtain ⟨x, hx⟩ := e3 i hi; exact ⟨x, (hb.cell (p := ⟨b, off + i, none⟩) e2).trans hx⟩⟩
end Go.Proofs.Ytbibdpoempjcnaa
