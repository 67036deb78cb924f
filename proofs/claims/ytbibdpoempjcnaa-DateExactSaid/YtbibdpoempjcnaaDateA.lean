/- Contracts of the functions of package date that only compute: leap, length, days, before, Valid, number. No condition but the ranges that are written out. -/
import Derived.Test.YtbibdpoempjcnaaLib
import Derived.Test.YtbibdpoempjcnaaDatePlain
set_option linter.unusedSimpArgs false
set_option linter.unusedVariables false
namespace Go.Proofs.Ytbibdpoempjcnaa
open Go.RowKit Cal
theorem sz3 : ∀ w, (Go.sizeOf 3).run Try.prog w = .ok 1 w := fun _ => by kernel_rfl
theorem idx12 {k : Int} {cs : Array Value} {v : Value} (h0 : 0 ≤ k) (h1 : k < 12) (hv : cs[k.toNat]? = some v) (w : World) :
    (Instr.index 64 (.agg cs) (.int .i64 k)).run Try.prog w = .ok v w :=
  run_index_arr Try.underlying64 (by kernel_rfl) sz3 h0 h1 hv w

set_option maxHeartbeats 400000 in
theorem leap_any (y : Int) (w : World) (h : 0 ≤ y) :
    Calls Try.prog 44 #[.int .i64 y] w fun e w' => e = .returned (.bool (leapB y)) ∧ w = w' := by
  go_enter Try.func44, Try.ntmps44
  go_wp2
  all_goals go_ret
  all_goals exact ⟨ret_bool (by simp [leapB, *, Bool.beq_eq_decide_eq]), rfl⟩

theorem leap_yes (y : Int) (w : World) (h : 0 ≤ y) (hl : leapB y = true) :
    Calls Try.prog 44 #[.int .i64 y] w fun e w' => e = .returned (.bool true) ∧ w = w' := by
  have := leap_any y w h; rwa [hl] at this
theorem leap_no (y : Int) (w : World) (h : 0 ≤ y) (hl : leapB y = false) :
    Calls Try.prog 44 #[.int .i64 y] w fun e w' => e = .returned (.bool false) ∧ w = w' := by
  have := leap_any y w h; rwa [hl] at this

set_option maxHeartbeats 400000 in
theorem length_any (y : Int) (w : World) (h : 0 ≤ y) :
    Calls Try.prog 34 #[.int .i64 y] w fun e w' => e = .returned (.int .i64 (ylen y)) ∧ w = w' := by
  cases hl : leapB y with
  | true =>
    have e : ylen y = 366 := by simp [ylen, hl]
    rw [e]; clear e
    go_enter Try.func34, Try.ntmps34
    go_wp2_with (go_at_call 44; refine (leap_yes _ _ h hl).mono ?_; rintro e w' ⟨rfl, rfl⟩)
    go_ret
    exact ⟨rfl, rfl⟩
  | false =>
    have e : ylen y = 365 := by simp [ylen, hl]
    rw [e]; clear e
    go_enter Try.func34, Try.ntmps34
    go_wp2_with (go_at_call 44; refine (leap_no _ _ h hl).mono ?_; rintro e w' ⟨rfl, rfl⟩)
    go_ret
    exact ⟨rfl, rfl⟩

set_option maxHeartbeats 400000 in
theorem days_feb (y : Int) (w : World) (h : 0 ≤ y) :
    Calls Try.prog 35 #[.int .i64 y, .int .i64 2] w fun e w' => e = .returned (.int .i64 (dim y 2)) ∧ w = w' := by
  cases hl : leapB y with
  | true =>
    have e : dim y 2 = 29 := by simp [dim, hl]
    rw [e]; clear e
    have i0 := fun w cs v hv => @idx12 1 cs v (by decide) (by decide) hv w
    go_enter Try.func35, Try.ntmps35
    go_wp2_with (go_at_call 44; refine (leap_yes _ _ h hl).mono ?_; rintro e w' ⟨rfl, rfl⟩)
    go_ret
    exact ⟨rfl, rfl⟩
  | false =>
    have e : dim y 2 = 28 := by simp [dim, hl]
    rw [e]; clear e
    have i0 := fun w cs v hv => @idx12 1 cs v (by decide) (by decide) hv w
    go_enter Try.func35, Try.ntmps35
    go_wp2_with (go_at_call 44; refine (leap_no _ _ h hl).mono ?_; rintro e w' ⟨rfl, rfl⟩)
    go_ret
    exact ⟨rfl, rfl⟩
theorem tbl12 (m : Int) (h1 : 1 ≤ m) (h2 : m ≤ 12) (h : m ≠ 2) (y : Int) (w : World) :
    (Instr.index 64 (.agg #[.int .i64 31, .int .i64 28, .int .i64 31, .int .i64 30, .int .i64 31, .int .i64 30, .int .i64 31, .int .i64 31, .int .i64 30, .int .i64 31, .int .i64 30, .int .i64 31]) (.int .i64 (m - 1))).run Try.prog w = .ok (.int .i64 (dim y m)) w := by
  refine idx12 (by omega) (by omega) ?_ w
  have : m = 1 ∨ m = 3 ∨ m = 4 ∨ m = 5 ∨ m = 6 ∨ m = 7 ∨ m = 8 ∨ m = 9 ∨ m = 10 ∨ m = 11 ∨ m = 12 := by omega
  rcases this with rfl | rfl | rfl | rfl | rfl | rfl | rfl | rfl | rfl | rfl | rfl <;> rfl
set_option maxHeartbeats 1000000 in
theorem days_any (y m : Int) (w : World) (h : 0 ≤ y) (h1 : 1 ≤ m) (h2 : m ≤ 12) :
    Calls Try.prog 35 #[.int .i64 y, .int .i64 m] w fun e w' => e = .returned (.int .i64 (dim y m)) ∧ w = w' := by
  by_cases hm : m = 2
  · subst hm; exact days_feb y w h
  have i0 := fun w => tbl12 m h1 h2 hm y w
  have hb : ((m : Int) == 2) = false := by simpa using hm
  clear hm
  go_enter Try.func35, Try.ntmps35
  go_wp2
  go_ret
  exact ⟨rfl, rfl⟩

def befB (m d m' d' : Int) : Bool := decide (m < m' ∨ (m = m' ∧ d < d'))

set_option maxHeartbeats 400000 in
theorem before_any (y m d y' m' d' : Int) (w : World) :
    Calls Try.prog 39 #[.agg #[.int .i64 y, .int .i64 m, .int .i64 d], .agg #[.int .i64 y', .int .i64 m', .int .i64 d']] w fun e w' => e = .returned (.bool (befB m d m' d')) ∧ Below w.heap.size w w' := by
  go_enter Try.func39, Try.ntmps39
  go_wp2
  all_goals go_ret
  all_goals refine ⟨ret_bool ?_, ((Below.refl _ _).alloc (Nat.le_refl _) _).alloc (by simp) _⟩
  all_goals (rw [Bool.eq_iff_iff]; simp [befB]; omega)

set_option maxHeartbeats 1000000 in
theorem valid_no (y m d : Int) (w : World) (hv : vldB y m d = false) :
    Calls Try.prog 15 #[.agg #[.int .i64 y, .int .i64 m, .int .i64 d]] w fun e w' => e = .returned (.bool false) ∧ Below w.heap.size w w' := by
  have hh : decide (1800 ≤ y) = false ∨ (1800 ≤ y ∧ decide (y ≤ 2199) = false) ∨ (1800 ≤ y ∧ y ≤ 2199 ∧ decide (1 ≤ m) = false) ∨ (1800 ≤ y ∧ y ≤ 2199 ∧ 1 ≤ m ∧ decide (m ≤ 12) = false) ∨ (1800 ≤ y ∧ y ≤ 2199 ∧ 1 ≤ m ∧ m ≤ 12 ∧ decide (1 ≤ d) = false) ∨ (1800 ≤ y ∧ y ≤ 2199 ∧ 1 ≤ m ∧ m ≤ 12 ∧ 1 ≤ d ∧ decide (d ≤ dim y m) = false) := by
    have := vld_iff y m d
    rw [hv] at this
    simp at this ⊢
    omega
  clear hv
  rcases hh with h | ⟨_, h⟩ | ⟨_, _, h⟩ | ⟨_, _, _, h⟩ | ⟨_, _, _, _, h⟩ | ⟨_, _, _, _, _, h⟩
  iterate 5
    · go_enter Try.func15, Try.ntmps15
      go_wp2
      go_quiet (fail)
      go_wp2
      go_ret
      exact ⟨rfl, below_drewN ((Below.refl _ _).alloc (Nat.le_refl _) _) _⟩
  go_enter Try.func15, Try.ntmps15
  go_wp2
  go_quiet ((go_at_call 35; exact quiet_eq (days_any _ _ _ (by omega) (by omega) (by omega))))
  go_wp2
  go_ret
  exact ⟨rfl, below_drewN ((Below.refl _ _).alloc (Nat.le_refl _) _) _⟩
set_option maxHeartbeats 1000000 in
theorem valid_yes (y m d : Int) (w : World) (hv : vldB y m d = true) :
    Calls Try.prog 15 #[.agg #[.int .i64 y, .int .i64 m, .int .i64 d]] w fun e w' => e = .returned (.bool true) ∧ Below w.heap.size w w' := by
  obtain ⟨h1, h2, h3, h4, h5, h6⟩ := (vld_iff y m d).1 hv
  clear hv
  go_enter Try.func15, Try.ntmps15
  go_wp2
  go_quiet ((go_at_call 35; exact quiet_eq (days_any _ _ _ (by omega) (by omega) (by omega))))
  go_wp2
  go_ret
  exact ⟨rfl, below_drewN ((Below.refl _ _).alloc (Nat.le_refl _) _) _⟩
theorem valid_any (y m d : Int) (w : World) :
    Calls Try.prog 15 #[.agg #[.int .i64 y, .int .i64 m, .int .i64 d]] w fun e w' => e = .returned (.bool (vldB y m d)) ∧ Below w.heap.size w w' := by
  cases h : vldB y m d with
  | true => exact valid_yes y m d w h
  | false => exact valid_no y m d w h

set_option maxHeartbeats 400000 in
theorem number_any (s : ByteArray) (w : World) (hs : s.size ≤ 4) :
    Calls Try.prog 45 #[.string s] w fun e w' => e = .returned (.int .i64 (numI s.data.toList)) ∧ w = w' := by
  go_enter Try.func45, Try.ntmps45
  go_wp2
  go_loop [3, 4, 7] (fun n _ i => ∃ (k : Nat) (N : Int), k ≤ s.size ∧ i = .int .i64 k ∧ n = .int .i64 N ∧ numFrom 0 (s.data.toList.take k) = some N ∧ 0 ≤ N ∧ N < 10 ^ k) (fun _ _ i => s.size - (intOf i).toNat)
  case atStart => exact ⟨0, 0, Nat.zero_le _, rfl, rfl, rfl, by decide, by decide⟩
  case round =>
    obtain ⟨k, N, hk, rfl, rfl, hN, h0, h1⟩ := hrel
    have HN := Lib.hid hN; clear hN
    have hp : (10 : Int) ^ k ≤ 10000 := by
      have : k = 0 ∨ k = 1 ∨ k = 2 ∨ k = 3 ∨ k = 4 := by omega
      rcases this with rfl | rfl | rfl | rfl | rfl <;> decide
    have hN4 : N < 10000 := by omega
    have H1 := Lib.hid h1; clear h1 hp
    by_cases hlt : k < s.size
    · go_wp2
      · go_ret
        exact ⟨ret_int (by have := numFrom_bad s k hlt N HN.out (by omega); simp [numI, this]), rfl⟩
      · have hs := numFrom_snoc s k hlt N HN.out
        rw [if_pos ‹_›] at hs
        have h1 := H1.out
        have e1 : (10 : Int) ^ (k + 1) = 10 ^ k * 10 := by rw [Int.pow_succ]
        go_round
        case rel => exact ⟨k + 1, _, by omega, by go_num, rfl, hs, by omega, by omega⟩
        case measure => simp [intOf]; omega
      · go_ret
        exact ⟨ret_int (by have := numFrom_bad s k hlt N HN.out (by omega); simp [numI, this]), rfl⟩
    · go_wp2
      go_ret
      obtain rfl : k = s.size := by omega
      exact ⟨ret_int (by have := HN.out; rw [List.take_of_length_le (by simp)] at this; simp [numI, this]), rfl⟩
end Go.Proofs.Ytbibdpoempjcnaa
