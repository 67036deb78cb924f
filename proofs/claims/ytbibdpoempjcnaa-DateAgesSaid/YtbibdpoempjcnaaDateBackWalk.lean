/- The law DateBack, walked: for every number it returns true and leaves what was there. -/
import Derived.Test.YtbibdpoempjcnaaDateAwake
set_option linter.unusedSimpArgs false
set_option linter.unusedVariables false
namespace Go.Proofs.Ytbibdpoempjcnaa
open Go.RowKit Cal
/-- the day behind a day -/
theorem next_day {y m d y' m' d' : Int} (h : vldB y m d = true) (h' : vldB y' m' d' = true) (hn : num y' m' d' = num y m d + 1) :
    (y' = y ∧ m' = m ∧ d' = d + 1) ∨ (d' = 1 ∧ vldB y m (d + 1) = false ∧ ((y' = y ∧ m' = m + 1) ∨ (m = 12 ∧ m' = 1 ∧ y' = y + 1))) := by
  have a := (vld_iff _ _ _).1 h
  cases hv : vldB y m (d + 1) with
  | true =>
    left
    exact (num_inj _ _ _ _ _ _ h' hv).1 (by rw [hn]; unfold num; omega)
  | false =>
    right
    have hd : d = dim y m := by
      have : ¬ (vldB y m (d + 1) = true) := by rw [hv]; decide
      rw [vld_iff] at this; omega
    by_cases hm : m < 12
    · have hv2 : vldB y (m + 1) 1 = true := by rw [vld_iff]; have := dim_lo y (m + 1); omega
      have := (num_inj _ _ _ _ _ _ h' hv2).1 (by rw [hn]; have := cum_succ y m (by omega) (by omega); unfold num; omega)
      exact ⟨this.2.2, rfl, .inl ⟨this.1, this.2.1⟩⟩
    · obtain rfl : m = 12 := by omega
      have e1 : num y 12 d + 1 = dby (y + 1) := by
        have := cum_succ y 12 (by omega) (by omega)
        rw [show (12 : Int) + 1 = 13 from rfl, cum_13] at this
        rw [dby_succ]; unfold num; omega
      have b := num_year _ _ _ h'
      have c := (vld_iff _ _ _).1 h'
      have hy : y + 1 ≤ y' := by
        rcases Int.lt_or_le y' (y + 1) with hlt | hle
        · have := dby_mono (y' + 1) (y + 1) (by omega); omega
        · exact hle
      have hv3 : vldB (y + 1) 1 1 = true := by rw [vld_iff]; have := dim_lo (y + 1) 1; omega
      have := (num_inj _ _ _ _ _ _ h' hv3).1 (by rw [hn, e1]; unfold num; rw [cum_one]; omega)
      exact ⟨this.2.2, rfl, .inr ⟨rfl, this.2.1, this.1⟩⟩
theorem last_day {y m d : Int} (h : vldB y m d = true) (hn : num y m d = 146096) : y = 2199 ∧ m = 12 ∧ d = 31 :=
  (num_inj _ _ _ _ _ _ h (by decide)).1 (by rw [hn]; decide)
set_option maxHeartbeats 4000000 in
theorem back_walk (n : Int) (hw : (Lit.int .u32 n).wf = true) (w : World) :
    Calls Try.prog 6 #[.int .u32 n] w fun e w' => e = .returned (.bool true) ∧ Below w.heap.size w w' := by
  have hx : 0 ≤ n ∧ n ≤ 4294967295 := by simpa [Lit.wf, IntKind.min, IntKind.max, IntKind.signed, IntKind.bits] using hw
  obtain ⟨x0, x1⟩ := hx
  clear hw
  have k0 : 0 ≤ n % 150000 ∧ n % 150000 < 150000 := by omega
  obtain ⟨k0, k1⟩ := k0
  have hwr : wrap64 (n % 150000) = n % 150000 := IntWalk.wrap64_in _ ⟨by omega, by omega⟩
  by_cases hk : 146097 ≤ n % 150000
  · go_enter Try.func6, Try.ntmps6
    go_wp2_with fail
    refine (awake_any _).mono ?_; rintro e w1 ⟨rfl, hb1⟩
    go_wp2_with fail
    refine (from_big _ _ hk (by omega)).mono ?_; rintro e w2 ⟨rfl, hb2⟩
    go_wp2_with fail
    go_ret
    exact ⟨by simp, (hb1.trans (hb2.mono hb1.size)).alloc (Nat.le_trans hb1.size hb2.size) _⟩
  · go_enter Try.func6, Try.ntmps6
    go_wp2_with fail
    refine (awake_any _).mono ?_; rintro e w1 ⟨rfl, hb1⟩
    go_wp2_with fail
    refine (from_in _ _ k0 (by omega)).mono ?_; rintro e w2 ⟨⟨y, m, d, rfl, hv, hnum⟩, hb2⟩
    have HV := Lib.hid hv; clear hv
    have HN := Lib.hid hnum; clear hnum
    have HB2 := Lib.hid ((hb1.trans (hb2.mono hb1.size))); clear hb1 hb2
    obtain ⟨b1, b2, b3, b4, b5, b6⟩ := vld_bd HV.out
    have hz := HB2.out.size
    have K3 := fun w => Lib.hid (day_yes y m d w HV.out); simp only [HN.out] at K3
    go_wp2_with fail
    refine (K3 _).out.mono ?_; rintro e w3 ⟨rfl, hb3⟩
    have X3 := Lib.hid (blk_below hb3 (by simp) (blk_new rfl)); have z3 := lt_of_blk X3.out
    have HB3 := Lib.hid ((HB2.out.alloc hz _).trans (hb3.mono (by simp; omega))); clear hb3
    by_cases hl : n % 150000 = 146096
    · have hld := last_day HV.out (HN.out.trans hl)
      obtain ⟨rfl, rfl, rfl⟩ := hld
      have HL := Lib.hid hl; clear hl
      have K4 := fun w => Lib.hid (from_big (n % 150000 + 1) w (by have := HL.out; omega) (by omega))
      obtain ⟨c0, c1, c2⟩ := cells3 X3.out
      go_wp2_with fail
      refine (K4 _).out.mono ?_; rintro e w4 ⟨rfl, hb4⟩
      clear c0 c1 c2
      have X4 := Lib.hid (blk_below hb4 z3 X3.out); have z4 := lt_of_blk X4.out
      have HB4 := Lib.hid (HB3.out.trans (hb4.mono HB3.out.size)); clear hb4
      obtain ⟨c0, c1, c2⟩ := cells3 X4.out
      go_wp2_with fail
      refine (valid_yes _ _ _ _ (by decide)).mono ?_; rintro e w5 ⟨rfl, hb5⟩
      clear c0 c1 c2
      have X5 := Lib.hid (blk_below hb5 (by simp; omega) (blk_old X4.out)); have z5 := lt_of_blk X5.out
      have HB5 := Lib.hid ((HB4.out.alloc HB4.out.size _).trans (hb5.mono (by have := HB4.out.size; simp; omega))); clear hb5
      obtain ⟨c0, c1, c2⟩ := cells3 X5.out
      go_wp2_with fail
      go_ret
      exact ⟨by simp, HB5.out⟩
    · have K4 := fun w => Lib.hid (from_in (n % 150000 + 1) w (by omega) (by omega))
      have Hl := Lib.hid hl; clear hl
      obtain ⟨c0, c1, c2⟩ := cells3 X3.out
      go_wp2_with fail
      refine (K4 _).out.mono ?_; rintro e w4 ⟨⟨y', m', d', rfl, hv', hnum'⟩, hb4⟩
      clear c0 c1 c2
      have hnd := next_day HV.out hv' (by rw [hnum', HN.out])
      obtain ⟨a1, a2, a3, a4, a5, a6⟩ := vld_bd hv'
      clear hv' hnum' K4
      have X4 := Lib.hid (blk_below hb4 z3 X3.out); have z4 := lt_of_blk X4.out
      have HB4 := Lib.hid (HB3.out.trans (hb4.mono HB3.out.size)); clear hb4
      obtain ⟨c0, c1, c2⟩ := cells3 X4.out
      have K5 := fun w => Lib.hid (valid_yes y m d w HV.out)
      rcases hnd with ⟨e1, e2, e3⟩ | ⟨e3, hnv, hnd⟩
      · obtain rfl : y' = y := e1
        obtain rfl : m' = m := e2
        subst e3
        go_wp2_with fail
        refine (K5 _).out.mono ?_; rintro e w5 ⟨rfl, hb5⟩
        clear c0 c1 c2
        have X5 := Lib.hid (blk_below hb5 (by simp; omega) (blk_old X4.out)); have Y5 := Lib.hid (blk_below hb5 (by simp) (blk_new rfl)); have z5 := lt_of_blk X5.out
        have HB5 := Lib.hid ((HB4.out.alloc HB4.out.size _).trans (hb5.mono (by have := HB4.out.size; simp; omega))); clear hb5
        obtain ⟨c0, c1, c2⟩ := cells3 X5.out
        obtain ⟨d0, d1, d2⟩ := cells3 Y5.out
        go_wp2_with fail
        go_ret
        exact ⟨by simp, HB5.out⟩
      · subst e3
        have K6 := fun w => Lib.hid (valid_no y m (d + 1) w hnv)
        clear hnv
        have hd2 : ((1 : Int) == d + 1) = false := by simp; omega
        rcases hnd with ⟨e1, e2⟩ | ⟨e1, e2, e4⟩
        · obtain rfl : y' = y := e1
          subst e2
          go_wp2_with fail
          refine (K5 _).out.mono ?_; rintro e w5 ⟨rfl, hb5⟩
          clear c0 c1 c2
          have X5 := Lib.hid (blk_below hb5 (by simp; omega) (blk_old X4.out)); have Y5 := Lib.hid (blk_below hb5 (by simp) (blk_new rfl)); have z5 := lt_of_blk X5.out
          have HB5 := Lib.hid ((HB4.out.alloc HB4.out.size _).trans (hb5.mono (by have := HB4.out.size; simp; omega))); clear hb5
          have z6 := lt_of_blk Y5.out
          obtain ⟨c0, c1, c2⟩ := cells3 X5.out
          obtain ⟨d0, d1, d2⟩ := cells3 Y5.out
          go_wp2_with fail
          refine (K6 _).out.mono ?_; rintro e w6 ⟨rfl, hb6⟩
          clear c0 c1 c2 d0 d1 d2
          obtain ⟨c0, c1, c2⟩ := cells3 (blk_below hb6 z5 X5.out)
          obtain ⟨d0, d1, d2⟩ := cells3 (blk_below hb6 z6 Y5.out)
          go_wp2_with fail
          go_ret
          exact ⟨by simp, HB5.out.trans (hb6.mono HB5.out.size)⟩
        · subst e1; subst e2; subst e4
          go_wp2_with fail
          refine (K5 _).out.mono ?_; rintro e w5 ⟨rfl, hb5⟩
          clear c0 c1 c2
          have X5 := Lib.hid (blk_below hb5 (by simp; omega) (blk_old X4.out)); have Y5 := Lib.hid (blk_below hb5 (by simp) (blk_new rfl)); have z5 := lt_of_blk X5.out
          have HB5 := Lib.hid ((HB4.out.alloc HB4.out.size _).trans (hb5.mono (by have := HB4.out.size; simp; omega))); clear hb5
          have z6 := lt_of_blk Y5.out
          obtain ⟨c0, c1, c2⟩ := cells3 X5.out
          obtain ⟨d0, d1, d2⟩ := cells3 Y5.out
          go_wp2_with fail
          refine (K6 _).out.mono ?_; rintro e w6 ⟨rfl, hb6⟩
          clear c0 c1 c2 d0 d1 d2
          obtain ⟨c0, c1, c2⟩ := cells3 (blk_below hb6 z5 X5.out)
          obtain ⟨d0, d1, d2⟩ := cells3 (blk_below hb6 z6 Y5.out)
          go_wp2_with fail
          go_ret
          exact ⟨by simp, HB5.out.trans (hb6.mono HB5.out.size)⟩
end Go.Proofs.Ytbibdpoempjcnaa
