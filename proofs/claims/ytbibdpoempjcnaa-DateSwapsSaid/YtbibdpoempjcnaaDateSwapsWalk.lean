/- The law DateSwaps, walked: for every list of numbers it returns true and leaves what was there. -/
import Derived.Test.YtbibdpoempjcnaaDateAwake
import Derived.Test.YtbibdpoempjcnaaDateE
import Derived.Test.YtbibdpoempjcnaaMakeB
set_option linter.unusedSimpArgs false
set_option linter.unusedVariables false
namespace Go.Proofs.Ytbibdpoempjcnaa
open Go.RowKit Cal
theorem sw_no {y m d : Int} (h : ¬ (vldB y m d = true ∧ d ≤ 12)) : swV y m d = .tuple #[.agg #[.int .i64 0, .int .i64 0, .int .i64 0], .bool false] := by
  unfold swV; rw [if_neg]
  rintro ⟨h1, h2⟩
  exact h ⟨h1, by have := (vld_iff _ _ _).1 h2; omega⟩
theorem sw_vld {y m d : Int} (h : vldB y m d = true) (h' : d ≤ 12) : vldB y d m = true := by
  have := (vld_iff _ _ _).1 h; have := dim_lo y d; exact (vld_iff _ _ _).2 (by omega)
theorem sw_yes {y m d : Int} (h : vldB y m d = true ∧ d ≤ 12) : swV y m d = .tuple #[.agg #[.int .i64 y, .int .i64 d, .int .i64 m], .bool true] := by
  unfold swV; rw [if_pos ⟨h.1, sw_vld h.1 h.2⟩]
set_option maxHeartbeats 4000000 in
theorem swaps_walk (a : Option Addr) (n cap : Nat) (zs : List Int) (w : World) (hr : IsRow .i64 w a n cap zs) :
    Calls Try.prog 5 #[.slice a n cap] w fun e w' => e = .returned (.bool true) ∧ Below w.heap.size w w' := by
  by_cases hn : n ≤ 400
  · have hd : decide (n ≤ 400) = true := by simpa using hn
    have HR := Lib.hid hr; clear hr
    go_enter Try.func5, Try.ntmps5
    go_wp2_with fail
    refine (awake_any _).mono ?_; rintro e w1 ⟨rfl, hb1⟩
    go_wp2_with fail
    refine (few_any a n cap _).mono ?_; rintro e w' ⟨rfl, rfl⟩
    go_wp2_with fail
    refine (new_any a n cap _).mono ?_; rintro e w' ⟨rfl, rfl⟩
    have hdk : DeckAt _ w1.heap.size := deck_new (cap := cap) hn fun h0 => by
      obtain ⟨b, off, e1, e2, e3⟩ := HR.out.read h0
      exact ⟨b, off, e1, Nat.lt_of_lt_of_le e2 hb1.size, fun i hi => by obtain ⟨x, hx⟩ := e3 i hi; exact ⟨x, (hb1.cell (p := ⟨b, off + i, none⟩) e2).trans hx⟩⟩
    have Hdk := Lib.hid hdk; clear hdk
    go_wp2_with fail
    refine (date_any _ _ Hdk.out).mono ?_
    rintro e w2 ⟨y, m, d, rfl, bd, mv⟩
    have HB := Lib.hid (mv.base ((hb1.alloc hb1.size _)) hb1.size)
    clear mv Hdk HR hb1
    have hB2 := HB.out.size
    by_cases hc : vldB y m d = true ∧ d ≤ 12
    · have hc' : vldB y d m = true ∧ m ≤ 12 := ⟨sw_vld hc.1 hc.2, by have := vld_bd hc.1; omega⟩
      have K1 := fun w => Lib.hid (swapped_any y m d w); simp only [sw_yes hc] at K1
      have K2 := fun w => Lib.hid (swapped_any y d m w); simp only [sw_yes hc'] at K2
      have K3 := fun w => Lib.hid (valid_yes y m d w hc.1)
      have hd12 : d ≤ 12 := hc.2
      clear hc hc'
      go_wp2_with fail
      refine (K1 _).out.mono ?_; rintro e w3 ⟨rfl, hb3⟩
      have X3 := Lib.hid (blk_below hb3 (by simp) (blk_new rfl)); have z3 := lt_of_blk X3.out
      obtain ⟨c0, c1, c2⟩ := cells3 X3.out
      go_wp2_with fail
      refine (K3 _).out.mono ?_; rintro e w4 ⟨rfl, hb4⟩
      clear c0 c1 c2
      have X4 := Lib.hid (blk_below hb4 (by simp; omega) (blk_old X3.out)); have Y4 := Lib.hid (blk_below hb4 (by simp) (blk_new rfl)); have z4 := lt_of_blk Y4.out
      obtain ⟨c0, c1, c2⟩ := cells3 X4.out
      obtain ⟨d0, d1, d2⟩ := cells3 Y4.out
      go_wp2_with fail
      refine (K2 _).out.mono ?_; rintro e w5 ⟨rfl, hb5⟩
      clear c0 c1 c2 d0 d1 d2
      obtain ⟨c0, c1, c2⟩ := cells3 (blk_below hb5 (by omega) X4.out)
      obtain ⟨d0, d1, d2⟩ := cells3 (blk_below hb5 (by omega) Y4.out)
      have z5 := hb5.size; have q1 : w2.heap.size < w5.heap.size := by omega
      have q2 : w3.heap.size < w5.heap.size := by omega
      go_wp2_with fail
      go_ret
      exact ⟨by simp, (((((HB.out.alloc hB2 _).trans (hb3.mono (by simp; omega))).alloc (by omega) _).trans (hb4.mono (by simp; omega))).trans (hb5.mono (by omega))).alloc (by omega) _⟩
    · have K1 := fun w => Lib.hid (swapped_any y m d w); simp only [sw_no hc] at K1
      have K2 := fun w => Lib.hid (swapped_any 0 0 0 w); simp only [sw_no (y := 0) (m := 0) (d := 0) (by decide)] at K2
      have hc2 : vldB y m d = false ∨ (vldB y m d = true ∧ 12 < d) := by
        cases h : vldB y m d with
        | false => exact .inl rfl
        | true => refine .inr ⟨rfl, ?_⟩; have : ¬ d ≤ 12 := fun h' => hc ⟨h, h'⟩; omega
      clear hc
      rcases hc2 with hv | ⟨hv, hd12⟩
      all_goals
        first | have K3 := fun w => Lib.hid (valid_no y m d w hv) | have K3 := fun w => Lib.hid (valid_yes y m d w hv)
        clear hv
        go_wp2_with fail
        refine (K1 _).out.mono ?_; rintro e w3 ⟨rfl, hb3⟩
        have X3 := Lib.hid (blk_below hb3 (by simp) (blk_new rfl)); have z3 := lt_of_blk X3.out
        obtain ⟨c0, c1, c2⟩ := cells3 X3.out
        go_wp2_with fail
        refine (K3 _).out.mono ?_; rintro e w4 ⟨rfl, hb4⟩
        clear c0 c1 c2
        have X4 := Lib.hid (blk_below hb4 (by simp; omega) (blk_old X3.out)); have Y4 := Lib.hid (blk_below hb4 (by simp) (blk_new rfl)); have z4 := lt_of_blk Y4.out
        obtain ⟨c0, c1, c2⟩ := cells3 X4.out
        obtain ⟨d0, d1, d2⟩ := cells3 Y4.out
        go_wp2_with fail
        refine (K2 _).out.mono ?_; rintro e w5 ⟨rfl, hb5⟩
        clear c0 c1 c2 d0 d1 d2
        obtain ⟨c0, c1, c2⟩ := cells3 (blk_below hb5 (by omega) X4.out)
        obtain ⟨d0, d1, d2⟩ := cells3 (blk_below hb5 (by omega) Y4.out)
        have z5 := hb5.size; have q1 : w2.heap.size < w5.heap.size := by omega
        have q2 : w3.heap.size < w5.heap.size := by omega
        go_wp2_with fail
        go_ret
        exact ⟨by simp, (((((HB.out.alloc hB2 _).trans (hb3.mono (by simp; omega))).alloc (by omega) _).trans (hb4.mono (by simp; omega))).trans (hb5.mono (by omega))).alloc (by omega) _⟩
  · have hd : decide (n ≤ 400) = false := by simpa using hn
    clear hr hn
    go_enter Try.func5, Try.ntmps5
    go_wp2_with fail
    refine (awake_any _).mono ?_; rintro e w1 ⟨rfl, hb1⟩
    go_wp2_with fail
    refine (few_any a n cap _).mono ?_; rintro e w' ⟨rfl, rfl⟩
    go_wp2_with fail
    refine (awake_any _).mono ?_; rintro e w2 ⟨rfl, hb2⟩
    go_wp2_with fail
    go_ret
    exact ⟨rfl, hb1.trans (hb2.mono hb1.size)⟩
end Go.Proofs.Ytbibdpoempjcnaa
