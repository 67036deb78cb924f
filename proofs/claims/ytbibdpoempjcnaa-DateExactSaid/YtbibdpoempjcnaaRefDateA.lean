/- Contracts of the reference of dates (recordlinkref03): length, Valid, number, made, Read, Parse: as those of the program. -/
import Derived.Test.YtbibdpoempjcnaaDateB
import Derived.Deep.RegionHeld3
set_option linter.unusedSimpArgs false
set_option linter.unusedVariables false
namespace Go.Proofs.Ytbibdpoempjcnaa
open Go.RowKit Cal
set_option maxHeartbeats 1000000 in
theorem rlen_any (y m : Int) (w : World) (h : 0 ≤ y) (h1 : 1 ≤ m) (h2 : m ≤ 12) :
    Calls Try.prog 41 #[.int .i64 y, .int .i64 m] w fun e w' => e = .returned (.int .i64 (dim y m)) ∧ w = w' := by
  go_enter Try.func41, Try.ntmps41
  go_wp2
  all_goals go_ret
  all_goals refine ⟨ret_int ?_, rfl⟩
  all_goals simp only [beq_iff_eq, beq_eq_false_iff_ne, ne_eq, bne_iff_ne] at *
  all_goals simp [dim, leapB, *]
set_option maxHeartbeats 1000000 in
theorem rvalid_no (y m d : Int) (w : World) (hv : vldB y m d = false) :
    Calls Try.prog 27 #[.agg #[.int .i64 y, .int .i64 m, .int .i64 d]] w fun e w' => e = .returned (.bool false) ∧ Below w.heap.size w w' := by
  have hh : decide (1800 ≤ y) = false ∨ (1800 ≤ y ∧ decide (y ≤ 2199) = false) ∨ (1800 ≤ y ∧ y ≤ 2199 ∧ decide (1 ≤ m) = false) ∨ (1800 ≤ y ∧ y ≤ 2199 ∧ 1 ≤ m ∧ decide (m ≤ 12) = false) ∨ (1800 ≤ y ∧ y ≤ 2199 ∧ 1 ≤ m ∧ m ≤ 12 ∧ decide (1 ≤ d) = false) ∨ (1800 ≤ y ∧ y ≤ 2199 ∧ 1 ≤ m ∧ m ≤ 12 ∧ 1 ≤ d ∧ decide (d ≤ dim y m) = false) := by
    have := vld_iff y m d
    rw [hv] at this
    simp at this ⊢
    omega
  clear hv
  rcases hh with h | ⟨_, h⟩ | ⟨_, _, h⟩ | ⟨_, _, _, h⟩ | ⟨_, _, _, _, h⟩ | ⟨_, _, _, _, _, h⟩
  iterate 5
    · go_enter Try.func27, Try.ntmps27
      go_wp2
      go_quiet (fail)
      go_wp2
      go_ret
      exact ⟨rfl, below_drewN ((Below.refl _ _).alloc (Nat.le_refl _) _) _⟩
  go_enter Try.func27, Try.ntmps27
  go_wp2
  go_quiet ((go_at_call 41; exact quiet_eq (rlen_any _ _ _ (by omega) (by omega) (by omega))))
  go_wp2
  go_ret
  exact ⟨rfl, below_drewN ((Below.refl _ _).alloc (Nat.le_refl _) _) _⟩
set_option maxHeartbeats 1000000 in
theorem rvalid_yes (y m d : Int) (w : World) (hv : vldB y m d = true) :
    Calls Try.prog 27 #[.agg #[.int .i64 y, .int .i64 m, .int .i64 d]] w fun e w' => e = .returned (.bool true) ∧ Below w.heap.size w w' := by
  obtain ⟨h1, h2, h3, h4, h5, h6⟩ := (vld_iff y m d).1 hv
  clear hv
  go_enter Try.func27, Try.ntmps27
  go_wp2
  go_quiet ((go_at_call 41; exact quiet_eq (rlen_any _ _ _ (by omega) (by omega) (by omega))))
  go_wp2
  go_ret
  exact ⟨rfl, below_drewN ((Below.refl _ _).alloc (Nat.le_refl _) _) _⟩
theorem rvalid_any (y m d : Int) (w : World) :
    Calls Try.prog 27 #[.agg #[.int .i64 y, .int .i64 m, .int .i64 d]] w fun e w' => e = .returned (.bool (vldB y m d)) ∧ Below w.heap.size w w' := by
  cases h : vldB y m d with
  | true => exact rvalid_yes y m d w h
  | false => exact rvalid_no y m d w h

set_option maxHeartbeats 400000 in
theorem rnumber_any (s : ByteArray) (w : World) (hs : s.size ≤ 4) :
    Calls Try.prog 46 #[.string s] w fun e w' => e = .returned (.tuple #[.int .i64 ((numFrom 0 s.data.toList).getD 0), .bool (numFrom 0 s.data.toList).isSome]) ∧ w = w' := by
  go_enter Try.func46, Try.ntmps46
  go_wp2
  go_loop [4, 5] (fun n i => ∃ (k : Nat) (N : Int), k ≤ s.size ∧ i = .int .i64 k ∧ n = .int .i64 N ∧ numFrom 0 (s.data.toList.take k) = some N ∧ 0 ≤ N ∧ N < 10 ^ k) (fun _ i => s.size - (intOf i).toNat)
  case atStart => exact ⟨0, 0, Nat.zero_le _, rfl, rfl, rfl, by decide, by decide⟩
  case round =>
    obtain ⟨k, N, hk, rfl, rfl, hN, h0, h1⟩ := hrel
    have HN := Lib.hid hN; clear hN
    have hp : (10 : Int) ^ k ≤ 10000 := by
      have : k = 0 ∨ k = 1 ∨ k = 2 ∨ k = 3 ∨ k = 4 := by omega
      rcases this with rfl | rfl | rfl | rfl | rfl <;> decide
    have hN4 : N < 10000 := by omega
    have H1 := Lib.hid h1; clear h1 hp
    by_cases hlt : k < s.size
    · go_wp2
      · go_ret2
        exact ⟨by have := numFrom_bad s k hlt N HN.out (by omega); rw [this]; rfl, rfl⟩
      · have hs := numFrom_snoc s k hlt N HN.out
        rw [if_pos ‹_›] at hs
        have h1 := H1.out
        have e1 : (10 : Int) ^ (k + 1) = 10 ^ k * 10 := by rw [Int.pow_succ]
        go_round
        case rel => exact ⟨k + 1, _, by omega, by go_num, rfl, hs, by omega, by omega⟩
        case measure => simp [intOf]; omega
      · go_ret2
        exact ⟨by have := numFrom_bad s k hlt N HN.out (by omega); rw [this]; rfl, rfl⟩
    · go_wp2
      go_ret2
      obtain rfl : k = s.size := by omega
      exact ⟨by have := HN.out; rw [List.take_of_length_le (by simp)] at this; rw [this]; rfl, rfl⟩
theorem numI_none {l : List UInt8} (h : numFrom 0 l = none) : numI l = -1 := by simp [numI, h]
theorem numI_some {l : List UInt8} {N : Int} (h : numFrom 0 l = some N) : numI l = N := by simp [numI, h]
theorem dateR_no {a b c : List UInt8} (h : vldB (numI a) (numI b) (numI c) = false) : dateL a b c = .tuple #[.agg #[.int .i64 0, .int .i64 0, .int .i64 0], .int .i64 4] := by
  unfold dateL dateR dateV; rw [h]; rfl
theorem dateR_yes {a b c : List UInt8} (h : vldB (numI a) (numI b) (numI c) = true) : dateL a b c = .tuple #[.agg #[.int .i64 (numI a), .int .i64 (numI b), .int .i64 (numI c)], .int .i64 0] := by
  unfold dateL dateR dateV; rw [h]; rfl
set_option maxHeartbeats 2000000 in
theorem rmade_any (a b c : ByteArray) (w : World) (ha : a.size ≤ 4) (hb : b.size ≤ 4) (hc : c.size ≤ 4) :
    Calls Try.prog 43 #[.string a, .string b, .string c] w fun e w' => e = .returned (dateR (numI a.data.toList) (numI b.data.toList) (numI c.data.toList) 4) ∧ Below w.heap.size w w' := by
  have Ka := fun w => Lib.hid (rnumber_any a w ha)
  have Kb := fun w => Lib.hid (rnumber_any b w hb)
  have Kc := fun w => Lib.hid (rnumber_any c w hc)
  rw [show dateR (numI a.data.toList) (numI b.data.toList) (numI c.data.toList) 4 = dateL a.data.toList b.data.toList c.data.toList from rfl]
  have bad : (numFrom 0 a.data.toList).isSome = false ∨ (numFrom 0 b.data.toList).isSome = false ∨ (numFrom 0 c.data.toList).isSome = false → vldB (numI a.data.toList) (numI b.data.toList) (numI c.data.toList) = false := by
    intro h
    have : ¬ vldB (numI a.data.toList) (numI b.data.toList) (numI c.data.toList) = true := by
      rw [vld_iff]
      simp only [Option.isSome_eq_false_iff, Option.isNone_iff_eq_none] at h
      rcases h with h | h | h <;> (have := numI_none h; omega)
    simpa using this
  by_cases hall : (numFrom 0 a.data.toList).isSome = true ∧ (numFrom 0 b.data.toList).isSome = true ∧ (numFrom 0 c.data.toList).isSome = true
  · obtain ⟨h1, h2, h3⟩ := hall
    have e1 : (numFrom 0 a.data.toList).getD 0 = numI a.data.toList := by obtain ⟨N, h⟩ := Option.isSome_iff_exists.1 h1; rw [numI_some h, h]; rfl
    have e2 : (numFrom 0 b.data.toList).getD 0 = numI b.data.toList := by obtain ⟨N, h⟩ := Option.isSome_iff_exists.1 h2; rw [numI_some h, h]; rfl
    have e3 : (numFrom 0 c.data.toList).getD 0 = numI c.data.toList := by obtain ⟨N, h⟩ := Option.isSome_iff_exists.1 h3; rw [numI_some h, h]; rfl
    simp only [h1, e1] at Ka; simp only [h2, e2] at Kb; simp only [h3, e3] at Kc
    clear h1 h2 h3 e1 e2 e3 bad
    cases hv : vldB (numI a.data.toList) (numI b.data.toList) (numI c.data.toList)
    all_goals
      first | rw [dateR_no hv] | rw [dateR_yes hv]
      first | have KV := fun w => Lib.hid (rvalid_no _ _ _ w hv) | have KV := fun w => Lib.hid (rvalid_yes _ _ _ w hv)
      clear hv
      go_enter Try.func43, Try.ntmps43
      go_wp2_with fail
      refine (Ka _).out.mono ?_; rintro e w' ⟨rfl, rfl⟩
      go_wp2_with fail
      refine (Kb _).out.mono ?_; rintro e w' ⟨rfl, rfl⟩
      go_wp2_with fail
      refine (Kc _).out.mono ?_; rintro e w' ⟨rfl, rfl⟩
      go_wp2_with fail
      refine (KV _).out.mono ?_; rintro e w1 ⟨rfl, hb1⟩
      obtain ⟨hc1, hf1⟩ := bcell hb1
      have hz1 : w.heap.size + 1 < w1.heap.size := by have := hb1.size; simp at this; omega
      go_wp2_with fail
      have hg : w1.heap[w.heap.size]? = some (.cells #[.int .i64 0, .int .i64 0, .int .i64 0] 28 (0, 0)) := blk_below hb1 (by simp; omega) (blk_old (blk_new rfl))
      exact bodyPost_row2 rfl rfl (blk_set (blk_set (blk_set hg))) Try.underlying28 rfl rfl ⟨rfl, ((((((Below.refl _ _).alloc (Nat.le_refl _) _).alloc (by simp) _).trans (hb1.mono (by simp; omega))).setCell (by simp) _).setCell (by simp) _).setCell (by simp) _⟩
  · have hcase : (numFrom 0 a.data.toList).isSome = false ∨ ((numFrom 0 a.data.toList).isSome = true ∧ (numFrom 0 b.data.toList).isSome = false) ∨ ((numFrom 0 a.data.toList).isSome = true ∧ (numFrom 0 b.data.toList).isSome = true ∧ (numFrom 0 c.data.toList).isSome = false) := by
      cases h1 : (numFrom 0 a.data.toList).isSome <;> cases h2 : (numFrom 0 b.data.toList).isSome <;> cases h3 : (numFrom 0 c.data.toList).isSome <;> simp_all
    have hbad := bad (by rcases hcase with h | ⟨_, h⟩ | ⟨_, _, h⟩ <;> simp [h])
    rw [dateR_no hbad]
    clear bad hall hbad
    rcases hcase with h1 | ⟨h1, h2⟩ | ⟨h1, h2, h3⟩
    all_goals
      try simp only [h1] at Ka
      try simp only [h2] at Kb
      try simp only [h3] at Kc
      try clear h1
      try clear h2
      try clear h3
      go_enter Try.func43, Try.ntmps43
      go_wp2_with fail
      refine (Ka _).out.mono ?_; rintro e w' ⟨rfl, rfl⟩
      go_wp2_with fail
      refine (Kb _).out.mono ?_; rintro e w' ⟨rfl, rfl⟩
      go_wp2_with fail
      refine (Kc _).out.mono ?_; rintro e w' ⟨rfl, rfl⟩
      go_wp2_with fail
      exact bodyPost_row2 rfl rfl (blk_old (blk_new rfl)) Try.underlying28 rfl rfl ⟨rfl, ((Below.refl _ _).alloc (Nat.le_refl _) _).alloc (by simp) _⟩
set_option maxHeartbeats 1000000 in
theorem rread_any (s : ByteArray) (w : World) :
    Calls Try.prog 32 #[.string s] w fun e w' => e = .returned (bif decide (s.size = 8) then dateL (s.data.toList.take 4) ((s.data.toList.drop 4).take 2) ((s.data.toList.drop 6).take 2) else dateV false 0 0 0 4) ∧ Below w.heap.size w w' := by
  by_cases h : s.size = 8
  · have hs : ((s.size : Int) == 8) = true := by simp; omega
    simp only [h, decide_true, cond_true]
    go_enter Try.func32, Try.ntmps32
    go_wp2
    go_region_held3 (fun _ => True) (trivial) (first | (go_at_call 43; refine (rmade_any _ _ _ _ (by simp; omega) (by simp; omega) (by simp; omega)).mono ?_; rintro e w1 ⟨rfl, hb1⟩; obtain ⟨hc1, hf1⟩ := bcell hb1; have hz1 : w.heap.size < w1.heap.size := (by have := hb1.size; simp at this; omega)))
    go_wp2
    have hg : w1.heap[w.heap.size]? = some (.cells #[.int .i64 0, .int .i64 0, .int .i64 0] 28 (0, 0)) := blk_below hb1 (by simp) (heap_alloc_new _ _)
    exact bodyPost_row2 rfl rfl (blk_set (blk_set (blk_set hg))) Try.underlying28 rfl rfl ⟨rfl, (((((Below.refl _ _).alloc (Nat.le_refl _) _).drew.trans (hb1.mono (by simp))).setCell (by simp) _).setCell (by simp) _).setCell (by simp) _⟩
  · have hs : ((s.size : Int) == 8) = false := by simp; omega
    simp only [h, decide_false, cond_false]
    go_enter Try.func32, Try.ntmps32
    go_wp2
    exact bodyPost_row2 rfl rfl (heap_alloc_new _ _) Try.underlying28 rfl rfl ⟨rfl, ((Below.refl _ _).alloc (Nat.le_refl _) _)⟩

set_option maxHeartbeats 4000000 in
theorem rparse_ten (s : ByteArray) (w : World) (h : s.size = 10) :
    Calls Try.prog 31 #[.string s] w fun e w' => e = .returned (parseV s) ∧ Below w.heap.size w w' := by
  have hs : ((s.size : Int) == 10) = true := by simp; omega
  go_enter Try.func31, Try.ntmps31
  go_wp2
  all_goals
    have e2 := byteAt_get s 2 (by omega)
    have e4 := byteAt_get s 4 (by omega)
    have e5 := byteAt_get s 5 (by omega)
    have e7 := byteAt_get s 7 (by omega)
  all_goals
    first
    | exact bodyPost_row2 rfl rfl (heap_alloc_new _ _) Try.underlying28 rfl rfl ⟨congrArg Ending.returned (by (try simp only [beq_iff_eq, beq_eq_false_iff_ne, ne_eq] at *); simp [parseV, pk_false, cd_false, *]; try rfl), ((Below.refl _ _).alloc (Nat.le_refl _) _)⟩
    | (clear e2 e4 e5 e7
       go_region_held3 (fun _ => True) (trivial) (first | (go_at_call 43; refine (rmade_any _ _ _ _ (by simp; omega) (by simp; omega) (by simp; omega)).mono ?_; rintro e w1 ⟨rfl, hb1⟩; obtain ⟨hc1, hf1⟩ := bcell hb1; have hz1 : w.heap.size < w1.heap.size := (by have := hb1.size; simp at this; omega)))
       go_wp2
       have hg : w1.heap[w.heap.size]? = some (.cells #[.int .i64 0, .int .i64 0, .int .i64 0] 28 (0, 0)) := blk_below hb1 (by simp) (heap_alloc_new _ _)
       have e2 := byteAt_get s 2 (by omega)
       have e4 := byteAt_get s 4 (by omega)
       have e5 := byteAt_get s 5 (by omega)
       have e7 := byteAt_get s 7 (by omega)
       exact bodyPost_row2 rfl rfl (blk_set (blk_set (blk_set hg))) Try.underlying28 rfl rfl ⟨congrArg Ending.returned (by (try simp only [beq_iff_eq, beq_eq_false_iff_ne, ne_eq] at *); simp [parseV, pk_false, cd_false, *]; try rfl), (((((Below.refl _ _).alloc (Nat.le_refl _) _).drew.trans (hb1.mono (by simp))).setCell (by simp) _).setCell (by simp) _).setCell (by simp) _⟩)
theorem rparse_any (s : ByteArray) (w : World) :
    Calls Try.prog 31 #[.string s] w fun e w' => e = .returned (parseV s) ∧ Below w.heap.size w w' := by
  by_cases h : s.size = 10
  · exact rparse_ten s w h
  · have hs : ((s.size : Int) == 10) = false := by simp; omega
    rw [parseV, if_neg h]
    go_enter Try.func31, Try.ntmps31
    go_wp2
    exact bodyPost_row2 rfl rfl (heap_alloc_new _ _) Try.underlying28 rfl rfl ⟨rfl, ((Below.refl _ _).alloc (Nat.le_refl _) _)⟩
end Go.Proofs.Ytbibdpoempjcnaa
