/- Contracts of date.Day and date.FromDay: for every date and every number. -/
import Derived.Test.YtbibdpoempjcnaaDateB
set_option linter.unusedSimpArgs false
set_option linter.unusedVariables false
namespace Go.Proofs.Ytbibdpoempjcnaa
open Go.RowKit Cal
set_option maxHeartbeats 1000000 in
theorem day_yes (y m d : Int) (w : World) (hv : vldB y m d = true) :
    Calls Try.prog 13 #[.agg #[.int .i64 y, .int .i64 m, .int .i64 d]] w fun e w' => e = .returned (.tuple #[.int .i64 (num y m d), .int .i64 0]) ∧ Below w.heap.size w w' := by
  obtain ⟨b1, b2, b3, b4, b5, b6⟩ := (vld_iff y m d).1 hv
  have b7 := (dim_lo y m).2
  go_enter Try.func13, Try.ntmps13
  go_wp2_with fail
  refine (valid_yes _ _ _ _ hv).mono ?_
  rintro e w1 ⟨rfl, hb1⟩
  clear hv
  have c0 : w1.cell? ⟨w.heap.size, 0, none⟩ = some (.int .i64 y) := (hb1.cell (by simp)).trans (by simp)
  have c1 : w1.cell? ⟨w.heap.size, 1, none⟩ = some (.int .i64 m) := (hb1.cell (by simp)).trans (by simp)
  have c2 : w1.cell? ⟨w.heap.size, 2, none⟩ = some (.int .i64 d) := (hb1.cell (by simp)).trans (by simp)
  go_wp2_with fail
  go_loop [4, 5] (fun n t => ∃ k : Int, 1800 ≤ k ∧ k ≤ y ∧ t = .int .i64 k ∧ n = .int .i64 (d - 1 + dby k)) (fun _ t => (y - intOf t).toNat)
  case atStart => exact ⟨1800, by omega, b1, rfl, by rw [dby_first]; simp⟩
  case round =>
    obtain ⟨k, hk1, hk2, rfl, rfl⟩ := hrel
    have hdb := dby_bd k hk1 (by omega)
    obtain ⟨hdb1, hdb2⟩ := hdb
    have hyl := ylen_bd k
    obtain ⟨hyl1, hyl2⟩ := hyl
    by_cases hlt : k < y
    · go_wp2_with (go_at_call 34; refine (length_any _ _ (by omega)).mono ?_; rintro e w' ⟨rfl, rfl⟩)
      have hs := dby_succ k
      go_round
      case rel => exact ⟨k + 1, by omega, by omega, rfl, by rw [hs]; go_num⟩
      case measure => simp [intOf]; omega
    · go_wp2_with fail
      obtain rfl : k = y := by omega
      clear hlt hk2 hyl1 hyl2 
      go_loop [4, 6] (fun n t => ∃ j : Int, 1 ≤ j ∧ j ≤ m ∧ t = .int .i64 j ∧ n = .int .i64 (d - 1 + dby k + cum k j)) (fun _ t => (m - intOf t).toNat)
      case atStart => exact ⟨1, by omega, b3, rfl, by rw [cum_one]; simp⟩
      case round =>
        obtain ⟨j, hj1, hj2, rfl, rfl⟩ := hrel
        obtain ⟨hcb1, hcb2⟩ := cum_bd k j hj1 (by omega)
        obtain ⟨hdl1, hdl2⟩ := dim_lo k j
        by_cases hlt : j < m
        · go_wp2_with (go_at_call 35; refine (days_any _ _ _ (by omega) (by omega) (by omega)).mono ?_; rintro e w' ⟨rfl, rfl⟩)
          have hs := cum_succ k j (by omega) (by omega)
          go_round
          case rel => exact ⟨j + 1, by omega, by omega, rfl, by rw [hs]; go_num⟩
          case measure => simp [intOf]; omega
        · obtain rfl : j = m := by omega
          go_wp2
          go_ret2
          refine ⟨?_, ((Below.refl _ _).alloc (Nat.le_refl _) _).trans (hb1.mono (by simp))⟩
          have : d - 1 + dby k + cum k j = num k j d := by unfold num; omega
          rw [← this]; rfl
set_option maxHeartbeats 400000 in
theorem day_no (y m d : Int) (w : World) (hv : vldB y m d = false) :
    Calls Try.prog 13 #[.agg #[.int .i64 y, .int .i64 m, .int .i64 d]] w fun e w' => e = .returned (.tuple #[.int .i64 0, .int .i64 4]) ∧ Below w.heap.size w w' := by
  go_enter Try.func13, Try.ntmps13
  go_wp2_with fail
  refine (valid_no _ _ _ _ hv).mono ?_
  rintro e w1 ⟨rfl, hb1⟩
  go_wp2_with fail
  go_ret2
  exact ⟨rfl, ((Below.refl _ _).alloc (Nat.le_refl _) _).trans (hb1.mono (by simp))⟩
theorem day_any (y m d : Int) (w : World) :
    Calls Try.prog 13 #[.agg #[.int .i64 y, .int .i64 m, .int .i64 d]] w fun e w' => e = .returned (.tuple #[.int .i64 (pk (vldB y m d) (num y m d)), .int .i64 (cd (vldB y m d) 4)]) ∧ Below w.heap.size w w' := by
  cases hv : vldB y m d with
  | true => exact day_yes y m d w hv
  | false => exact day_no y m d w hv

/-! FromDay: the valid date with a number, if there is one. -/
def FromPost (n : Int) (w : World) (e : Ending) (w' : World) : Prop :=
  (∃ y m d : Int, e = .returned (.tuple #[.agg #[.int .i64 y, .int .i64 m, .int .i64 d], .int .i64 0]) ∧ vldB y m d = true ∧ num y m d = n) ∧ Below w.heap.size w w'
set_option maxHeartbeats 400000 in
theorem from_neg (n : Int) (w : World) (h : n < 0) :
    Calls Try.prog 20 #[.int .i64 n] w fun e w' => e = .returned (.tuple #[.agg #[.int .i64 0, .int .i64 0, .int .i64 0], .int .i64 2]) ∧ Below w.heap.size w w' := by
  go_enter Try.func20, Try.ntmps20
  go_wp2
  exact bodyPost_row2 rfl rfl (heap_alloc_new _ _) Try.underlying28 rfl rfl ⟨rfl, ((Below.refl _ _).alloc (Nat.le_refl _) _)⟩
set_option maxHeartbeats 1000000 in
theorem from_big (n : Int) (w : World) (h : 146097 ≤ n) (hm : n ≤ 9223372036854775807) :
    Calls Try.prog 20 #[.int .i64 n] w fun e w' => e = .returned (.tuple #[.agg #[.int .i64 0, .int .i64 0, .int .i64 0], .int .i64 2]) ∧ Below w.heap.size w w' := by
  have h0 : 0 ≤ n := by omega
  go_enter Try.func20, Try.ntmps20
  go_wp2
  go_loop [0, 4] (fun r t => ∃ k : Int, 1800 ≤ k ∧ k ≤ 2200 ∧ t = .int .i64 k ∧ r = .int .i64 (n - dby k)) (fun _ t => (2200 - intOf t).toNat)
  case atStart => exact ⟨1800, by omega, by omega, rfl, by rw [dby_first]; simp⟩
  case round =>
    obtain ⟨k, hk1, hk2, rfl, rfl⟩ := hrel
    obtain ⟨hdb1, hdb2⟩ := dby_bd k hk1 (by omega)
    obtain ⟨hyl1, hyl2⟩ := ylen_bd k
    by_cases hlt : k ≤ 2199
    · have hs := dby_succ k
      have hd2 := (dby_bd (k + 1) (by omega) (by omega)).2
      have hge : ylen k ≤ n - dby k := by omega
      have HS := Lib.hid hs; clear hs hd2
      go_wp2_with (go_at_call 34; refine (length_any _ _ (by omega)).mono ?_; rintro e w' ⟨rfl, rfl⟩)
      go_round
      case rel => exact ⟨k + 1, by omega, by omega, rfl, by rw [HS.out]; go_num⟩
      case measure => simp [intOf]; omega
    · go_wp2
      exact bodyPost_row2 rfl rfl (heap_alloc_new _ _) Try.underlying28 rfl rfl ⟨rfl, ((Below.refl _ _).alloc (Nat.le_refl _) _)⟩
set_option maxHeartbeats 2000000 in
theorem from_in (n : Int) (w : World) (h0 : 0 ≤ n) (h : n < 146097) :
    Calls Try.prog 20 #[.int .i64 n] w (FromPost n w) := by
  go_enter Try.func20, Try.ntmps20
  go_wp2
  go_loop [0, 4] (fun r t => ∃ k : Int, 1800 ≤ k ∧ k ≤ 2199 ∧ t = .int .i64 k ∧ r = .int .i64 (n - dby k) ∧ 0 ≤ n - dby k) (fun _ t => (2200 - intOf t).toNat)
  case atStart => exact ⟨1800, by omega, by omega, rfl, by rw [dby_first]; simp, by rw [dby_first]; omega⟩
  case round =>
    obtain ⟨k, hk1, hk2, rfl, rfl, hr0⟩ := hrel
    obtain ⟨hdb1, hdb2⟩ := dby_bd k hk1 (by omega)
    obtain ⟨hyl1, hyl2⟩ := ylen_bd k
    have HS := Lib.hid (dby_succ k)
    by_cases hge : ylen k ≤ n - dby k
    · have hk3 : k ≤ 2198 := by
        have := HS.out
        have hl := dby_last
        have : k ≠ 2199 := by rintro rfl; rw [show (2199 : Int) + 1 = 2200 from rfl] at this; omega
        omega
      go_wp2_with (go_at_call 34; refine (length_any _ _ (by omega)).mono ?_; rintro e w' ⟨rfl, rfl⟩)
      go_round
      case rel => exact ⟨k + 1, by omega, by omega, rfl, by rw [HS.out]; go_num, by rw [HS.out]; omega⟩
      case measure => simp [intOf]; omega
    · go_wp2_with (go_at_call 34; refine (length_any _ _ (by omega)).mono ?_; rintro e w' ⟨rfl, rfl⟩)
      go_loop [0, 5] (fun r t => ∃ j : Int, 1 ≤ j ∧ j ≤ 12 ∧ t = .int .i64 j ∧ r = .int .i64 (n - dby k - cum k j) ∧ 0 ≤ n - dby k - cum k j) (fun _ t => (12 - intOf t).toNat)
      case atStart => exact ⟨1, by omega, by omega, rfl, by rw [cum_one]; simp, by rw [cum_one]; omega⟩
      case round =>
        obtain ⟨j, hj1, hj2, rfl, rfl, hq0⟩ := hrel
        obtain ⟨hcb1, hcb2⟩ := cum_bd k j hj1 (by omega)
        obtain ⟨hdl1, hdl2⟩ := dim_lo k j
        have HC := Lib.hid (cum_succ k j hj1 hj2)
        by_cases hgj : dim k j ≤ n - dby k - cum k j
        · have hj3 : j ≤ 11 := by
            have := HC.out
            have : j ≠ 12 := by rintro rfl; rw [show (12 : Int) + 1 = 13 from rfl, cum_13] at this; omega
            omega
          go_wp2_with (go_at_call 35; refine (days_any _ _ _ (by omega) (by omega) (by omega)).mono ?_; rintro e w' ⟨rfl, rfl⟩)
          go_round
          case rel => exact ⟨j + 1, by omega, by omega, rfl, by rw [HC.out]; go_num, by rw [HC.out]; omega⟩
          case measure => simp [intOf]; omega
        · go_wp2_with (go_at_call 35; refine (days_any _ _ _ (by omega) (by omega) (by omega)).mono ?_; rintro e w' ⟨rfl, rfl⟩)
          have hv : vldB k j (n - dby k - cum k j + 1) = true := (vld_iff _ _ _).2 (by omega)
          have hn : num k j (n - dby k - cum k j + 1) = n := by unfold num; omega
          exact bodyPost_row2 rfl rfl (heap_alloc_new _ _) Try.underlying28 rfl rfl ⟨⟨_, _, _, rfl, hv, hn⟩, ((Below.refl _ _).alloc (Nat.le_refl _) _)⟩
end Go.Proofs.Ytbibdpoempjcnaa
