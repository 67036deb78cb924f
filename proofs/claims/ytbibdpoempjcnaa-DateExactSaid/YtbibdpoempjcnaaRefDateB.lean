/- Contracts of the reference of dates (recordlinkref03): two, Format, Day, FromDay, Swapped, Age: as those of the program. -/
import Derived.Test.YtbibdpoempjcnaaRefDateA
import Derived.Test.YtbibdpoempjcnaaMakeW
import Derived.Test.YtbibdpoempjcnaaDateE
import Derived.Test.YtbibdpoempjcnaaDateD
set_option linter.unusedSimpArgs false
set_option linter.unusedVariables false
namespace Go.Proofs.Ytbibdpoempjcnaa
open Go.RowKit Cal
theorem hcv_two (n : Int) (h0 : 0 ≤ n) (h1 : n ≤ 99) : ∀ w : World, (convert 56 9 (.slice (some ⟨w.heap.size, 0, none⟩) 2 2)).run Try.prog (w.alloc (.cells #[.int .u8 (48 + n / 10), .int .u8 (48 + n % 10)] 5)) = .ok (.string ⟨(dg n 2).toArray⟩) (w.alloc (.cells #[.int .u8 (48 + n / 10), .int .u8 (48 + n % 10)] 5)) := by
  intro w
  have ho := owns_new (w := w) (B := 0) (e := 5) (dg n 2) (Nat.zero_le _) (by rw [dg_len]; omega)
  rw [dg_len] at ho
  have e1 : (dg n 2).map byteV = [.int .u8 (48 + n / 10), .int .u8 (48 + n % 10)] := by
    simp only [dg, List.nil_append, List.cons_append, List.map_cons, List.map_nil]
    rw [dgb _ (by omega), dgb _ h0]
    have : n / 10 % 10 = n / 10 := by omega
    rw [this]
  rw [e1] at ho
  exact run_convert_owned (dg n 2) (by rw [e1]; exact ho) Try.underlying56 Try.underlying5 Try.underlying9
set_option maxHeartbeats 400000 in
theorem rtwo_any (n : Int) (w : World) (h0 : 0 ≤ n) (h1 : n ≤ 99) :
    Calls Try.prog 40 #[.int .i64 n] w fun e w' => e = .returned (.string ⟨(dg n 2).toArray⟩) ∧ Below w.heap.size w w' := by
  have ha : 0 ≤ n / 10 ∧ n / 10 ≤ 9 := by omega
  have hb : 0 ≤ n % 10 ∧ n % 10 ≤ 9 := by omega
  obtain ⟨ha1, ha2⟩ := ha
  obtain ⟨hb1, hb2⟩ := hb
  have hcv := hcv_two n h0 h1
  go_enter Try.func40, Try.ntmps40
  go_wp2
  go_ret
  exact ⟨rfl, (Below.refl _ _).alloc (Nat.le_refl _) _⟩
attribute [local go_sem] dg_len bytes_append
set_option maxHeartbeats 2000000 in
theorem rformat_yes (y m d : Int) (w : World) (hv : vldB y m d = true) :
    Calls Try.prog 24 #[.agg #[.int .i64 y, .int .i64 m, .int .i64 d]] w fun e w' => e = .returned (.tuple #[.string ⟨(digits8 y m d).toArray⟩, .int .i64 0]) ∧ Below w.heap.size w w' := by
  obtain ⟨b1, b2, b3, b4, b5, b6⟩ := vld_bd hv
  have q1 : 0 ≤ y / 100 ∧ y / 100 ≤ 99 := by omega
  have q2 : 0 ≤ y % 100 ∧ y % 100 ≤ 99 := by omega
  obtain ⟨q1, q1'⟩ := q1
  obtain ⟨q2, q2'⟩ := q2
  have HD : Hid (dg (y / 100) 2 ++ (dg (y % 100) 2 ++ (dg m 2 ++ dg d 2)) = digits8 y m d) := by
    show _ = _
    rw [dg_mod y (by omega), digits8, dg_two y]; simp
  have KV := fun w => Lib.hid (rvalid_yes y m d w hv)
  clear hv
  have m99 : m ≤ 99 := by omega
  have d99 : d ≤ 99 := by omega
  have d0 : 0 ≤ d := by omega
  have m0 : 0 ≤ m := by omega
  have e1 : IntKind.i64.wrap (y.tdiv 100) = y / 100 := by rw [Int.tdiv_eq_ediv_of_nonneg (by omega)]; exact IntWalk.i64_in _ ⟨by omega, by omega⟩
  have e2 : y.tmod 100 = y % 100 := Int.tmod_eq_emod_of_nonneg (by omega)
  go_enter Try.func24, Try.ntmps24
  go_wp2_with fail
  refine (KV _).out.mono ?_; rintro e w0 ⟨rfl, hb0⟩
  have z0 : w.heap.size < w0.heap.size := by clear e1 e2; have := hb0.size; simp at this; omega
  have HB0 := Lib.hid (((Below.refl _ _).alloc (Nat.le_refl _) _).trans (hb0.mono (by simp))).drew
  have c00 : w0.cell? ⟨w.heap.size, 0, none⟩ = some (.int .i64 y) := (hb0.cell (p := ⟨w.heap.size, 0, none⟩) (by simp)).trans (by simp)
  have c10 : w0.cell? ⟨w.heap.size, 1, none⟩ = some (.int .i64 m) := (hb0.cell (p := ⟨w.heap.size, 1, none⟩) (by simp)).trans (by simp)
  have c20 : w0.cell? ⟨w.heap.size, 2, none⟩ = some (.int .i64 d) := (hb0.cell (p := ⟨w.heap.size, 2, none⟩) (by simp)).trans (by simp)
  clear hb0
  go_wp2_with fail
  refine wp_region_noPanic ?_
  refine wp_region_held_drew (S := (fun w' => w'.cell? ⟨w.heap.size, 0, none⟩ = some (.int .i64 y) ∧ w'.cell? ⟨w.heap.size, 1, none⟩ = some (.int .i64 m) ∧ w'.cell? ⟨w.heap.size, 2, none⟩ = some (.int .i64 d))) (by kernel_rfl) (⟨c00, c10, c20⟩) (fun hHeld => ?_)
  refine wpAnyH_take (i := 0) (v := ?_) rfl (by kernel_rfl) (by kernel_rfl) (by kernel_rfl) (fun _ _ _ h => h) (Or.inl ⟨by rfl, ?_⟩) (by assumption) ?_
  rotate_left 1
  · (intro wS hSw; (try dsimp only at hSw); go_simp; try with_reducible rfl)
  try simp only [List.getElem_toArray, List.getElem_cons_zero, List.getElem_cons_succ, Act.put, List.setIfInBounds_toArray, List.set_cons_zero, List.set_cons_succ]
  refine wpAnyH_take (i := 1) (v := ?_) rfl (by kernel_rfl) (by kernel_rfl) (by kernel_rfl) (fun _ _ _ h => h) (Or.inl ⟨by rfl, ?_⟩) (by assumption) ?_
  rotate_left 1
  · (intro wS hSw; (try dsimp only at hSw); go_simp; try with_reducible rfl)
  try simp only [List.getElem_toArray, List.getElem_cons_zero, List.getElem_cons_succ, Act.put, List.setIfInBounds_toArray, List.set_cons_zero, List.set_cons_succ]
  refine wpAnyH_take (i := 2) (v := ?_) rfl (by kernel_rfl) (by kernel_rfl) (by kernel_rfl) (fun _ _ _ h => h) (Or.inl ⟨by rfl, ?_⟩) (by assumption) ?_
  rotate_left 1
  · (intro wS hSw; (try dsimp only at hSw); go_simp; try with_reducible rfl)
  try simp only [List.getElem_toArray, List.getElem_cons_zero, List.getElem_cons_succ, Act.put, List.setIfInBounds_toArray, List.set_cons_zero, List.set_cons_succ]
  refine wpAnyH_take (i := 4) (v := ?_) rfl (by kernel_rfl) (by kernel_rfl) (by kernel_rfl) (fun _ _ _ h => h) (Or.inl ⟨by rfl, ?_⟩) (by assumption) ?_
  rotate_left 1
  · (intro wS hSw; (try dsimp only at hSw); go_simp; try with_reducible rfl)
  try simp only [List.getElem_toArray, List.getElem_cons_zero, List.getElem_cons_succ, Act.put, List.setIfInBounds_toArray, List.set_cons_zero, List.set_cons_succ]
  refine wpAnyH_take (i := 5) (v := ?_) rfl (by kernel_rfl) (by kernel_rfl) (by kernel_rfl) (fun _ _ _ h => h) (Or.inl ⟨by rfl, ?_⟩) (by assumption) ?_
  rotate_left 1
  · (intro wS hSw; (try dsimp only at hSw); go_simp; try with_reducible rfl)
  try simp only [List.getElem_toArray, List.getElem_cons_zero, List.getElem_cons_succ, Act.put, List.setIfInBounds_toArray, List.set_cons_zero, List.set_cons_succ]
  refine wpAnyH_take (i := 6) (v := ?_) rfl (by kernel_rfl) (by kernel_rfl) (by kernel_rfl) (fun _ _ _ h => h) (Or.inl ⟨by rfl, ?_⟩) (by assumption) ?_
  rotate_left 1
  · (intro wS hSw; (try dsimp only at hSw); go_simp; try with_reducible rfl)
  try simp only [List.getElem_toArray, List.getElem_cons_zero, List.getElem_cons_succ, Act.put, List.setIfInBounds_toArray, List.set_cons_zero, List.set_cons_succ]
  refine wpAnyH_take (i := 9) (v := ?_) rfl (by kernel_rfl) (by kernel_rfl) (by kernel_rfl) (fun _ _ _ h => h) (Or.inl ⟨by rfl, ?_⟩) (by assumption) ?_
  rotate_left 1
  · (intro wS hSw; (try dsimp only at hSw); go_simp; try with_reducible rfl)
  try simp only [List.getElem_toArray, List.getElem_cons_zero, List.getElem_cons_succ, Act.put, List.setIfInBounds_toArray, List.set_cons_zero, List.set_cons_succ]
  refine wpAnyH_take (i := 10) (v := ?_) rfl (by kernel_rfl) (by kernel_rfl) (by kernel_rfl) (fun _ _ _ h => h) (Or.inl ⟨by rfl, ?_⟩) (by assumption) ?_
  rotate_left 1
  · (intro wS hSw; (try dsimp only at hSw); go_simp; try with_reducible rfl)
  try simp only [List.getElem_toArray, List.getElem_cons_zero, List.getElem_cons_succ, Act.put, List.setIfInBounds_toArray, List.set_cons_zero, List.set_cons_succ]
  refine wpAnyH_take (i := 13) (v := ?_) rfl (by kernel_rfl) (by kernel_rfl) (by kernel_rfl) (fun _ _ _ h => h) (Or.inl ⟨by rfl, ?_⟩) (by assumption) ?_
  rotate_left 1
  · (intro wS hSw; (try dsimp only at hSw); go_simp; try with_reducible rfl)
  try simp only [List.getElem_toArray, List.getElem_cons_zero, List.getElem_cons_succ, Act.put, List.setIfInBounds_toArray, List.set_cons_zero, List.set_cons_succ]
  refine wpAnyH_take (i := 14) (v := ?_) rfl (by kernel_rfl) (by kernel_rfl) (by kernel_rfl) (fun _ _ _ h => h) (Or.inl ⟨by rfl, ?_⟩) (by assumption) ?_
  rotate_left 1
  · (intro wS hSw; (try dsimp only at hSw); go_simp; try with_reducible rfl)
  try simp only [List.getElem_toArray, List.getElem_cons_zero, List.getElem_cons_succ, Act.put, List.setIfInBounds_toArray, List.set_cons_zero, List.set_cons_succ]
  refine wpAnyH_ready (rs := [3]) (by kernel_rfl) (by simp) ?_
  refine AllReadyH.cons rfl (fun K hK => ?_) AllReadyH.nil
  go_simp
  refine (rtwo_any _ _ q1 q1').mono ?_; rintro e w1 ⟨rfl, hb1⟩; have z1 : w.heap.size < w1.heap.size := (by clear e1 e2; have := hb1.size; (try simp at this); omega); have HB1 := Lib.hid (HB0.out.trans (hb1.mono (by have := HB0.out.size; simpa using this))); have c01 := (hb1.cell (p := ⟨w.heap.size, 0, none⟩) (by simpa using z0)).trans c00; have c11 := (hb1.cell (p := ⟨w.heap.size, 1, none⟩) (by simpa using z0)).trans c10; have c21 := (hb1.cell (p := ⟨w.heap.size, 2, none⟩) (by simpa using z0)).trans c20; clear hb1 c00 c10 c20
  refine hK.out _ _ (⟨c01, c11, c21⟩) (fun hHeld => ?_)
  clear hK K
  try simp only [List.getElem_toArray, List.getElem_cons_zero, List.getElem_cons_succ, Act.put, List.setIfInBounds_toArray, List.set_cons_zero, List.set_cons_succ]
  refine wpAnyH_ready (rs := [7]) (by kernel_rfl) (by simp) ?_
  refine AllReadyH.cons rfl (fun K hK => ?_) AllReadyH.nil
  go_simp
  refine (rtwo_any _ _ q2 q2').mono ?_; rintro e w2 ⟨rfl, hb2⟩; have z2 : w.heap.size < w2.heap.size := (by clear e1 e2; have := hb2.size; (try simp at this); omega); have HB2 := Lib.hid (HB1.out.trans (hb2.mono (by have := HB1.out.size; simpa using this))); have c02 := (hb2.cell (p := ⟨w.heap.size, 0, none⟩) (by simpa using z1)).trans c01; have c12 := (hb2.cell (p := ⟨w.heap.size, 1, none⟩) (by simpa using z1)).trans c11; have c22 := (hb2.cell (p := ⟨w.heap.size, 2, none⟩) (by simpa using z1)).trans c21; clear hb2 c01 c11 c21
  refine hK.out _ _ (⟨c02, c12, c22⟩) (fun hHeld => ?_)
  clear hK K
  try simp only [List.getElem_toArray, List.getElem_cons_zero, List.getElem_cons_succ, Act.put, List.setIfInBounds_toArray, List.set_cons_zero, List.set_cons_succ]
  refine wpAnyH_take (i := 8) (v := ?_) rfl (by kernel_rfl) (by kernel_rfl) (by kernel_rfl) (fun _ _ _ h => h) (Or.inl ⟨by rfl, ?_⟩) (by assumption) ?_
  rotate_left 1
  · (intro wS hSw; (try dsimp only at hSw); go_simp; try with_reducible rfl)
  try simp only [List.getElem_toArray, List.getElem_cons_zero, List.getElem_cons_succ, Act.put, List.setIfInBounds_toArray, List.set_cons_zero, List.set_cons_succ]
  refine wpAnyH_ready (rs := [11]) (by kernel_rfl) (by simp) ?_
  refine AllReadyH.cons rfl (fun K hK => ?_) AllReadyH.nil
  go_simp
  refine (rtwo_any _ _ m0 m99).mono ?_; rintro e w3 ⟨rfl, hb3⟩; have z3 : w.heap.size < w3.heap.size := (by clear e1 e2; have := hb3.size; (try simp at this); omega); have HB3 := Lib.hid (HB2.out.trans (hb3.mono (by have := HB2.out.size; simpa using this))); have c03 := (hb3.cell (p := ⟨w.heap.size, 0, none⟩) (by simpa using z2)).trans c02; have c13 := (hb3.cell (p := ⟨w.heap.size, 1, none⟩) (by simpa using z2)).trans c12; have c23 := (hb3.cell (p := ⟨w.heap.size, 2, none⟩) (by simpa using z2)).trans c22; clear hb3 c02 c12 c22
  refine hK.out _ _ (⟨c03, c13, c23⟩) (fun hHeld => ?_)
  clear hK K
  try simp only [List.getElem_toArray, List.getElem_cons_zero, List.getElem_cons_succ, Act.put, List.setIfInBounds_toArray, List.set_cons_zero, List.set_cons_succ]
  refine wpAnyH_take (i := 12) (v := ?_) rfl (by kernel_rfl) (by kernel_rfl) (by kernel_rfl) (fun _ _ _ h => h) (Or.inl ⟨by rfl, ?_⟩) (by assumption) ?_
  rotate_left 1
  · (intro wS hSw; (try dsimp only at hSw); go_simp; try with_reducible rfl)
  try simp only [List.getElem_toArray, List.getElem_cons_zero, List.getElem_cons_succ, Act.put, List.setIfInBounds_toArray, List.set_cons_zero, List.set_cons_succ]
  refine wpAnyH_ready (rs := [15]) (by kernel_rfl) (by simp) ?_
  refine AllReadyH.cons rfl (fun K hK => ?_) AllReadyH.nil
  go_simp
  refine (rtwo_any _ _ d0 d99).mono ?_; rintro e w4 ⟨rfl, hb4⟩; have z4 : w.heap.size < w4.heap.size := (by clear e1 e2; have := hb4.size; (try simp at this); omega); have HB4 := Lib.hid (HB3.out.trans (hb4.mono (by have := HB3.out.size; simpa using this))); have c04 := (hb4.cell (p := ⟨w.heap.size, 0, none⟩) (by simpa using z3)).trans c03; have c14 := (hb4.cell (p := ⟨w.heap.size, 1, none⟩) (by simpa using z3)).trans c13; have c24 := (hb4.cell (p := ⟨w.heap.size, 2, none⟩) (by simpa using z3)).trans c23; clear hb4 c03 c13 c23
  refine hK.out _ _ (⟨c04, c14, c24⟩) (fun hHeld => ?_)
  clear hK K
  try simp only [List.getElem_toArray, List.getElem_cons_zero, List.getElem_cons_succ, Act.put, List.setIfInBounds_toArray, List.set_cons_zero, List.set_cons_succ]
  refine wpAnyH_take (i := 16) (v := ?_) rfl (by kernel_rfl) (by kernel_rfl) (by kernel_rfl) (fun _ _ _ h => h) (Or.inl ⟨by rfl, ?_⟩) (by assumption) ?_
  rotate_left 1
  · (intro wS hSw; (try dsimp only at hSw); go_simp; try with_reducible rfl)
  try simp only [List.getElem_toArray, List.getElem_cons_zero, List.getElem_cons_succ, Act.put, List.setIfInBounds_toArray, List.set_cons_zero, List.set_cons_succ]
  refine wpAnyH_take (i := 17) (v := ?_) rfl (by kernel_rfl) (by kernel_rfl) (by kernel_rfl) (fun _ _ _ h => h) (Or.inl ⟨by rfl, ?_⟩) (by assumption) ?_
  rotate_left 1
  · (intro wS hSw; (try dsimp only at hSw); go_simp; try with_reducible rfl)
  try simp only [List.getElem_toArray, List.getElem_cons_zero, List.getElem_cons_succ, Act.put, List.setIfInBounds_toArray, List.set_cons_zero, List.set_cons_succ]
  refine wpAnyH_take (i := 18) (v := ?_) rfl (by kernel_rfl) (by kernel_rfl) (by kernel_rfl) (fun _ _ _ h => h) (Or.inl ⟨by rfl, ?_⟩) (by assumption) ?_
  rotate_left 1
  · (intro wS hSw; (try dsimp only at hSw); go_simp; try with_reducible rfl)
  try simp only [List.getElem_toArray, List.getElem_cons_zero, List.getElem_cons_succ, Act.put, List.setIfInBounds_toArray, List.set_cons_zero, List.set_cons_succ]
  refine wpAnyH_done (by kernel_rfl) ?_ _
  refine NoPanic.normal ?_
  clear e1 e2
  go_wp2
  go_ret2
  exact ⟨by rw [← HD.out]; simp, HB4.out⟩
set_option maxHeartbeats 400000 in
theorem rformat_no (y m d : Int) (w : World) (hv : vldB y m d = false) :
    Calls Try.prog 24 #[.agg #[.int .i64 y, .int .i64 m, .int .i64 d]] w fun e w' => e = .returned (.tuple #[.string ⟨#[]⟩, .int .i64 4]) ∧ Below w.heap.size w w' := by
  go_enter Try.func24, Try.ntmps24
  go_wp2_with fail
  refine (rvalid_no _ _ _ _ hv).mono ?_
  rintro e w1 ⟨rfl, hb1⟩
  go_wp2_with fail
  go_ret2
  exact ⟨rfl, ((Below.refl _ _).alloc (Nat.le_refl _) _).trans (hb1.mono (by simp))⟩
theorem rformat_any (y m d : Int) (w : World) :
    Calls Try.prog 24 #[.agg #[.int .i64 y, .int .i64 m, .int .i64 d]] w fun e w' => e = .returned (.tuple #[.string ⟨(fmtL y m d).toArray⟩, .int .i64 (cd (vldB y m d) 4)]) ∧ Below w.heap.size w w' := by
  unfold fmtL
  cases hv : vldB y m d with
  | true => exact rformat_yes y m d w hv
  | false => exact rformat_no y m d w hv
set_option maxHeartbeats 1000000 in
theorem rday_yes (y m d : Int) (w : World) (hv : vldB y m d = true) :
    Calls Try.prog 25 #[.agg #[.int .i64 y, .int .i64 m, .int .i64 d]] w fun e w' => e = .returned (.tuple #[.int .i64 (num y m d), .int .i64 0]) ∧ Below w.heap.size w w' := by
  obtain ⟨b1, b2, b3, b4, b5, b6⟩ := (vld_iff y m d).1 hv
  have b7 := (dim_lo y m).2
  go_enter Try.func25, Try.ntmps25
  go_wp2_with fail
  refine (rvalid_yes _ _ _ _ hv).mono ?_
  rintro e w1 ⟨rfl, hb1⟩
  clear hv
  have c0 : w1.cell? ⟨w.heap.size, 0, none⟩ = some (.int .i64 y) := (hb1.cell (by simp)).trans (by simp)
  have c1 : w1.cell? ⟨w.heap.size, 1, none⟩ = some (.int .i64 m) := (hb1.cell (by simp)).trans (by simp)
  have c2 : w1.cell? ⟨w.heap.size, 2, none⟩ = some (.int .i64 d) := (hb1.cell (by simp)).trans (by simp)
  go_wp2_with fail
  go_loop [4, 5] (fun n t => ∃ j : Int, 1 ≤ j ∧ j ≤ m ∧ t = .int .i64 j ∧ n = .int .i64 (d - 1 + cum y j)) (fun _ t => (m - intOf t).toNat)
  case atStart => exact ⟨1, by omega, b3, rfl, by rw [cum_one]; simp⟩
  case round =>
    obtain ⟨j, hj1, hj2, rfl, rfl⟩ := hrel
    obtain ⟨hcb1, hcb2⟩ := cum_bd y j hj1 (by omega)
    obtain ⟨hdl1, hdl2⟩ := dim_lo y j
    by_cases hlt : j < m
    · go_wp2_with (go_at_call 41; refine (rlen_any _ _ _ (by omega) (by omega) (by omega)).mono ?_; rintro e w' ⟨rfl, rfl⟩)
      have hs := cum_succ y j (by omega) (by omega)
      go_round
      case rel => exact ⟨j + 1, by omega, by omega, rfl, by rw [hs]; go_num⟩
      case measure => simp [intOf]; omega
    · go_wp2_with fail
      obtain rfl : j = m := by omega
      clear hlt hj2 hdl1 hdl2
      go_loop [4, 6] (fun n t => ∃ k : Int, 1800 ≤ k ∧ k ≤ y ∧ t = .int .i64 k ∧ n = .int .i64 (d - 1 + cum y j + dby k)) (fun _ t => (y - intOf t).toNat)
      case atStart => exact ⟨1800, by omega, b1, rfl, by rw [dby_first]; simp⟩
      case round =>
        obtain ⟨k, hk1, hk2, rfl, rfl⟩ := hrel
        obtain ⟨hdb1, hdb2⟩ := dby_bd k hk1 (by omega)
        obtain ⟨hdl1, hdl2⟩ := dim_lo k 2
        by_cases hlt : k < y
        · go_wp2_with (go_at_call 41; refine (rlen_any _ _ _ (by omega) (by omega) (by omega)).mono ?_; rintro e w' ⟨rfl, rfl⟩)
          have hs := dby_succ k
          have he : ylen k = 337 + dim k 2 := by unfold ylen dim; simp; split <;> rfl
          go_round
          case rel => exact ⟨k + 1, by omega, by omega, rfl, by rw [hs, he]; go_num⟩
          case measure => simp [intOf]; omega
        · obtain rfl : k = y := by omega
          go_wp2
          go_ret2
          refine ⟨?_, ((Below.refl _ _).alloc (Nat.le_refl _) _).trans (hb1.mono (by simp))⟩
          have : d - 1 + cum k j + dby k = num k j d := by unfold num; omega
          rw [← this]; rfl
set_option maxHeartbeats 400000 in
theorem rday_no (y m d : Int) (w : World) (hv : vldB y m d = false) :
    Calls Try.prog 25 #[.agg #[.int .i64 y, .int .i64 m, .int .i64 d]] w fun e w' => e = .returned (.tuple #[.int .i64 0, .int .i64 4]) ∧ Below w.heap.size w w' := by
  go_enter Try.func25, Try.ntmps25
  go_wp2_with fail
  refine (rvalid_no _ _ _ _ hv).mono ?_
  rintro e w1 ⟨rfl, hb1⟩
  go_wp2_with fail
  go_ret2
  exact ⟨rfl, ((Below.refl _ _).alloc (Nat.le_refl _) _).trans (hb1.mono (by simp))⟩
theorem rday_any (y m d : Int) (w : World) :
    Calls Try.prog 25 #[.agg #[.int .i64 y, .int .i64 m, .int .i64 d]] w fun e w' => e = .returned (.tuple #[.int .i64 (pk (vldB y m d) (num y m d)), .int .i64 (cd (vldB y m d) 4)]) ∧ Below w.heap.size w w' := by
  cases hv : vldB y m d with
  | true => exact rday_yes y m d w hv
  | false => exact rday_no y m d w hv

set_option maxHeartbeats 400000 in
theorem rfrom_neg (n : Int) (w : World) (h : n < 0) :
    Calls Try.prog 33 #[.int .i64 n] w fun e w' => e = .returned (.tuple #[.agg #[.int .i64 0, .int .i64 0, .int .i64 0], .int .i64 2]) ∧ Below w.heap.size w w' := by
  go_enter Try.func33, Try.ntmps33
  go_wp2
  exact bodyPost_row2 rfl rfl (heap_alloc_new _ _) Try.underlying28 rfl rfl ⟨rfl, ((Below.refl _ _).alloc (Nat.le_refl _) _)⟩
set_option maxHeartbeats 1000000 in
theorem rfrom_big (n : Int) (w : World) (h : 146097 ≤ n) (hm : n ≤ 9223372036854775807) :
    Calls Try.prog 33 #[.int .i64 n] w fun e w' => e = .returned (.tuple #[.agg #[.int .i64 0, .int .i64 0, .int .i64 0], .int .i64 2]) ∧ Below w.heap.size w w' := by
  have h0 : 0 ≤ n := by omega
  go_enter Try.func33, Try.ntmps33
  go_wp2
  go_loop [0, 4] (fun r t => ∃ k : Int, 1800 ≤ k ∧ k ≤ 2200 ∧ t = .int .i64 k ∧ r = .int .i64 (n - dby k)) (fun _ t => (2200 - intOf t).toNat)
  case atStart => exact ⟨1800, by omega, by omega, rfl, by rw [dby_first]; simp⟩
  case round =>
    obtain ⟨k, hk1, hk2, rfl, rfl⟩ := hrel
    obtain ⟨hdb1, hdb2⟩ := dby_bd k hk1 (by omega)
    by_cases hlt : k ≤ 2199
    · have hs := dby_succ k
      have hd2 := (dby_bd (k + 1) (by omega) (by omega)).2
      have hyl := cum_13 k
      have HS := Lib.hid hs; clear hs
      have HY := Lib.hid hyl; clear hyl
      go_wp2_with fail
      go_loop [0, 5] (fun r t => ∃ j : Int, 1 ≤ j ∧ j ≤ 13 ∧ t = .int .i64 j ∧ r = .int .i64 (n - dby k - cum k j)) (fun _ t => (13 - intOf t).toNat)
      case atStart => exact ⟨1, by omega, by omega, rfl, by rw [cum_one]; simp⟩
      case round =>
        obtain ⟨j, hj1, hj2, rfl, rfl⟩ := hrel
        by_cases hj : j ≤ 12
        · obtain ⟨hcb1, hcb2⟩ := cum_bd k j hj1 hj
          obtain ⟨hdl1, hdl2⟩ := dim_lo k j
          have hc := cum_succ k j hj1 hj
          have hge : dim k j ≤ n - dby k - cum k j := by
            have h1 := HS.out; have h2 := HY.out
            have h3 : cum k j + dim k j ≤ cum k 13 := cum_mono k j 13 hj1 (by omega) (by omega)
            omega
          have HC := Lib.hid hc; clear hc
          go_wp2_with (go_at_call 41; refine (rlen_any _ _ _ (by omega) (by omega) (by omega)).mono ?_; rintro e w' ⟨rfl, rfl⟩)
          go_round
          case rel => exact ⟨j + 1, by omega, by omega, rfl, by rw [HC.out]; go_num⟩
          case measure => simp [intOf]; omega
        · obtain rfl : j = 13 := by omega
          go_wp2_with fail
          go_round
          case rel => exact ⟨k + 1, by omega, by omega, rfl, by rw [HS.out, HY.out]; go_num⟩
          case measure => simp [intOf]; omega
    · go_wp2
      exact bodyPost_row2 rfl rfl (heap_alloc_new _ _) Try.underlying28 rfl rfl ⟨rfl, ((Below.refl _ _).alloc (Nat.le_refl _) _)⟩
set_option maxHeartbeats 2000000 in
theorem rfrom_in (n : Int) (w : World) (h0 : 0 ≤ n) (h : n < 146097) :
    Calls Try.prog 33 #[.int .i64 n] w (FromPost n w) := by
  go_enter Try.func33, Try.ntmps33
  go_wp2
  go_loop [0, 4] (fun r t => ∃ k : Int, 1800 ≤ k ∧ k ≤ 2199 ∧ t = .int .i64 k ∧ r = .int .i64 (n - dby k) ∧ 0 ≤ n - dby k) (fun _ t => (2200 - intOf t).toNat)
  case atStart => exact ⟨1800, by omega, by omega, rfl, by rw [dby_first]; simp, by rw [dby_first]; omega⟩
  case round =>
    obtain ⟨k, hk1, hk2, rfl, rfl, hr0⟩ := hrel
    obtain ⟨hdb1, hdb2⟩ := dby_bd k hk1 (by omega)
    have HS := Lib.hid (dby_succ k)
    have HY := Lib.hid (cum_13 k)
    go_wp2_with fail
    go_loop [0, 5] (fun r t => ∃ j : Int, 1 ≤ j ∧ j ≤ 13 ∧ t = .int .i64 j ∧ r = .int .i64 (n - dby k - cum k j) ∧ 0 ≤ n - dby k - cum k j) (fun _ t => (13 - intOf t).toNat)
    case atStart => exact ⟨1, by omega, by omega, rfl, by rw [cum_one]; simp, by rw [cum_one]; omega⟩
    case round =>
      obtain ⟨j, hj1, hj2, rfl, rfl, hq0⟩ := hrel
      by_cases hj : j ≤ 12
      · obtain ⟨hcb1, hcb2⟩ := cum_bd k j hj1 hj
        obtain ⟨hdl1, hdl2⟩ := dim_lo k j
        have HC := Lib.hid (cum_succ k j hj1 hj)
        by_cases hgj : dim k j ≤ n - dby k - cum k j
        · go_wp2_with (go_at_call 41; refine (rlen_any _ _ _ (by omega) (by omega) (by omega)).mono ?_; rintro e w' ⟨rfl, rfl⟩)
          go_round
          case rel => exact ⟨j + 1, by omega, by omega, rfl, by rw [HC.out]; go_num, by rw [HC.out]; omega⟩
          case measure => simp [intOf]; omega
        · go_wp2_with (go_at_call 41; refine (rlen_any _ _ _ (by omega) (by omega) (by omega)).mono ?_; rintro e w' ⟨rfl, rfl⟩)
          have hv : vldB k j (n - dby k - cum k j + 1) = true := (vld_iff _ _ _).2 (by omega)
          have hn : num k j (n - dby k - cum k j + 1) = n := by unfold num; omega
          exact bodyPost_row2 rfl rfl (heap_alloc_new _ _) Try.underlying28 rfl rfl ⟨⟨_, _, _, rfl, hv, hn⟩, ((Below.refl _ _).alloc (Nat.le_refl _) _)⟩
      · obtain rfl : j = 13 := by omega
        have hk3 : k ≤ 2198 := by
          have h1 := HS.out; have h2 := HY.out
          have hl := dby_last
          have : k ≠ 2199 := by rintro rfl; rw [show (2199 : Int) + 1 = 2200 from rfl] at h1; omega
          omega
        have H0 := Lib.hid hq0
        go_wp2_with fail
        go_round
        case rel => exact ⟨k + 1, by omega, by omega, rfl, by rw [HS.out, HY.out]; go_num, by rw [HS.out]; have := H0.out; rw [HY.out] at this; omega⟩
        case measure => simp [intOf]; omega
set_option maxHeartbeats 1000000 in
theorem rswapped_any (y m d : Int) (w : World) :
    Calls Try.prog 26 #[.agg #[.int .i64 y, .int .i64 m, .int .i64 d]] w fun e w' => e = .returned (swV y m d) ∧ Below w.heap.size w w' := by
  cases hv : vldB y m d
  · rw [swV, if_neg (by simp [hv])]
    go_enter Try.func26, Try.ntmps26
    go_wp2_with fail
    refine (rvalid_no _ _ _ _ hv).mono ?_
    rintro e w1 ⟨rfl, hb1⟩
    obtain ⟨hc1, hf1⟩ := bcell hb1
    have hz1 : w.heap.size + 2 < w1.heap.size := by have := hb1.size; simp at this; omega
    have g1 : w1.heap[w.heap.size + 1]? = some (.cells #[.int .i64 0, .int .i64 0, .int .i64 0] 28 (0, 0)) := blk_below hb1 (by simp) (blk_old (blk_new (by simp)))
    have G1 := Lib.hid g1; clear g1
    go_wp2_with fail
    exact bodyPost_row2 rfl rfl (blk_set (blk_set (blk_set G1.out))) Try.underlying28 rfl rfl ⟨rfl, (((((((Below.refl _ _).alloc (Nat.le_refl _) _).alloc (by simp) _).alloc (by simp; omega) _).trans (hb1.mono (by simp; omega))).setCell (by simp) _).setCell (by simp) _).setCell (by simp) _⟩
  · cases hv' : vldB y d m
    · rw [swV, if_neg (by simp [hv'])]
      go_enter Try.func26, Try.ntmps26
      go_wp2_with fail
      refine (rvalid_yes _ _ _ _ hv).mono ?_
      rintro e w1 ⟨rfl, hb1⟩
      have g1 : w1.heap[w.heap.size + 1]? = some (.cells #[.int .i64 0, .int .i64 0, .int .i64 0] 28 (0, 0)) := blk_below hb1 (by simp) (blk_old (blk_new (by simp)))
      obtain ⟨p0, p1, p2⟩ := cells3 (show w1.heap[w.heap.size + 2]? = some (.cells #[.int .i64 y, .int .i64 d, .int .i64 m] 28 (0, 0)) from blk_below hb1 (by simp) (blk_new (by simp)))
      have hz1 : w.heap.size + 2 < w1.heap.size := by have := hb1.size; simp at this; omega
      have G1 := Lib.hid g1; clear g1
      go_wp2_with fail
      refine (rvalid_no _ _ _ _ hv').mono ?_
      rintro e w2 ⟨rfl, hb2⟩
      clear p0 p1 p2
      have g1 := blk_below hb2 (by omega) G1.out
      obtain ⟨q0, q1, q2⟩ := cells3 g1
      have hz2 : w.heap.size + 2 < w2.heap.size := by have := hb2.size; omega
      obtain ⟨r0, r1, r2⟩ := free3 g1
      clear g1
      go_wp2_with fail
      exact bodyPost_row2 rfl rfl (blk_set (blk_set (blk_set (blk_below hb2 (by omega) G1.out)))) Try.underlying28 rfl rfl ⟨rfl, ((((((((Below.refl _ _).alloc (Nat.le_refl _) _).alloc (by simp) _).alloc (by simp; omega) _).trans (hb1.mono (by simp; omega))).trans (hb2.mono (by omega))).setCell (by simp) _).setCell (by simp) _).setCell (by simp) _⟩
    · rw [swV, if_pos ⟨hv, hv'⟩]
      go_enter Try.func26, Try.ntmps26
      go_wp2_with fail
      refine (rvalid_yes _ _ _ _ hv).mono ?_
      rintro e w1 ⟨rfl, hb1⟩
      have g1 : w1.heap[w.heap.size + 1]? = some (.cells #[.int .i64 0, .int .i64 0, .int .i64 0] 28 (0, 0)) := blk_below hb1 (by simp) (blk_old (blk_new (by simp)))
      have g2 : w1.heap[w.heap.size + 2]? = some (.cells #[.int .i64 y, .int .i64 d, .int .i64 m] 28 (0, 0)) := blk_below hb1 (by simp) (blk_new (by simp))
      have G2 := Lib.hid g2; clear g2
      obtain ⟨p0, p1, p2⟩ := cells3 G2.out
      have hz1 : w.heap.size + 2 < w1.heap.size := by have := hb1.size; simp at this; omega
      have G1 := Lib.hid g1; clear g1
      go_wp2_with fail
      refine (rvalid_yes _ _ _ _ hv').mono ?_
      rintro e w2 ⟨rfl, hb2⟩
      clear p0 p1 p2
      have g1 := blk_below hb2 (by omega) G1.out
      obtain ⟨p0, p1, p2⟩ := cells3 (blk_below hb2 (by omega) G2.out)
      obtain ⟨q0, q1, q2⟩ := cells3 g1
      have hz2 : w.heap.size + 2 < w2.heap.size := by have := hb2.size; omega
      obtain ⟨r0, r1, r2⟩ := free3 g1
      clear g1
      go_wp2_with fail
      exact bodyPost_row2 rfl rfl (blk_set (blk_set (blk_set (blk_below hb2 (by omega) G1.out)))) Try.underlying28 rfl rfl ⟨rfl, ((((((((Below.refl _ _).alloc (Nat.le_refl _) _).alloc (by simp) _).alloc (by simp; omega) _).trans (hb1.mono (by simp; omega))).trans (hb2.mono (by omega))).setCell (by simp) _).setCell (by simp) _).setCell (by simp) _⟩
theorem age_neg {y m d y' m' d' : Int} (h : vldB y m d = true) (h' : vldB y' m' d' = true) : ageI y m d y' m' d' < 0 ↔ num y' m' d' < num y m d := by
  have b1 := vld_bd h; have b2 := vld_bd h'
  rw [num_lt _ _ _ _ _ _ h' h]
  cases hb : befB m' d' m d with
  | true =>
    have : m' < m ∨ (m' = m ∧ d' < d) := by simpa [befB] using hb
    unfold ageI; rw [hb]; simp only [cond_true]; omega
  | false =>
    have : ¬ (m' < m ∨ (m' = m ∧ d' < d)) := by simpa [befB] using hb
    unfold ageI; rw [hb]; simp only [cond_false]; omega
set_option maxHeartbeats 2000000 in
theorem rage_yes (y m d y' m' d' : Int) (w : World) (hv : vldB y m d = true) (hv' : vldB y' m' d' = true) :
    Calls Try.prog 23 #[.agg #[.int .i64 y, .int .i64 m, .int .i64 d], .agg #[.int .i64 y', .int .i64 m', .int .i64 d']] w fun e w' => e = .returned (ageV y m d y' m' d') ∧ Below w.heap.size w w' := by
  obtain ⟨b1, b2, b3, b4, b5, b6⟩ := vld_bd hv
  obtain ⟨a1, a2, a3, a4, a5, a6⟩ := vld_bd hv'
  have hneg := age_neg hv hv'
  have K1 := fun w => Lib.hid (rday_yes y m d w hv)
  have K2 := fun w => Lib.hid (rday_yes y' m' d' w hv')
  have HB := Lib.hid (Below.refl w.heap.size w)
  by_cases hlt : num y' m' d' < num y m d
  · have e1 : ageV y m d y' m' d' = .tuple #[.int .i64 0, .int .i64 2] := by rw [ageV, if_pos ⟨hv, hv'⟩, if_pos (hneg.2 hlt)]
    rw [e1]; clear e1 hneg hv hv'
    generalize num y' m' d' = N' at *
    generalize num y m d = N at *
    go_enter Try.func23, Try.ntmps23
    go_wp2_with fail
    refine ((K1 _).out).mono ?_; rintro e w1 ⟨rfl, hb⟩
    have X := Lib.hid (blk_below (b := w.heap.size) hb (by first | omega | (simp; done) | (simp; omega)) (by first | exact blk_new rfl | exact blk_old (blk_new rfl) | exact blk_new (by simp) | exact blk_old (blk_new (by simp)) | exact blk_old (blk_old (blk_new rfl))))
    have Y := Lib.hid (blk_below (b := (w.heap.size+1)) hb (by first | omega | (simp; done) | (simp; omega)) (by first | exact blk_new rfl | exact blk_old (blk_new rfl) | exact blk_new (by simp) | exact blk_old (blk_new (by simp)) | exact blk_old (blk_old (blk_new rfl))))
    have hx := Lib.hid (by first | exact HB.out.trans (hb.mono HB.out.size) | exact (HB.out.alloc HB.out.size _).trans (hb.mono (by have := HB.out.size; first | omega | (simp; done) | (simp; omega))) | exact ((HB.out.alloc HB.out.size _).alloc (by have := HB.out.size; first | omega | (simp; done) | (simp; omega)) _).trans (hb.mono (by have := HB.out.size; first | omega | (simp; done) | (simp; omega))) : Below w.heap.size w w1); clear HB hb; have HB := hx; clear hx
    obtain ⟨X0, X1, X2⟩ := cells3 X.out; have zX := lt_of_blk X.out
    obtain ⟨Y0, Y1, Y2⟩ := cells3 Y.out; have zY := lt_of_blk Y.out
    go_wp2_with fail
    refine ((K2 _).out).mono ?_; rintro e w2 ⟨rfl, hb⟩
    have hx := Lib.hid (blk_below (b := w.heap.size) hb (by first | omega | (simp; done) | (simp; omega)) (by first | exact X.out | exact blk_old X.out | exact blk_old (blk_old X.out) | exact blk_old (blk_old (blk_old X.out))))
    clear X X0 X1 X2 zX; have X := hx; clear hx
    have hx := Lib.hid (blk_below (b := (w.heap.size+1)) hb (by first | omega | (simp; done) | (simp; omega)) (by first | exact Y.out | exact blk_old Y.out | exact blk_old (blk_old Y.out) | exact blk_old (blk_old (blk_old Y.out))))
    clear Y Y0 Y1 Y2 zY; have Y := hx; clear hx
    have hx := Lib.hid (by first | exact HB.out.trans (hb.mono HB.out.size) | exact (HB.out.alloc HB.out.size _).trans (hb.mono (by have := HB.out.size; first | omega | (simp; done) | (simp; omega))) | exact ((HB.out.alloc HB.out.size _).alloc (by have := HB.out.size; first | omega | (simp; done) | (simp; omega)) _).trans (hb.mono (by have := HB.out.size; first | omega | (simp; done) | (simp; omega))) : Below w.heap.size w w2); clear HB hb; have HB := hx; clear hx
    obtain ⟨X0, X1, X2⟩ := cells3 X.out; have zX := lt_of_blk X.out
    obtain ⟨Y0, Y1, Y2⟩ := cells3 Y.out; have zY := lt_of_blk Y.out
    go_wp2
    go_ret2
    exact ⟨rfl, HB.out⟩
  · have e1 : ageV y m d y' m' d' = .tuple #[.int .i64 (ageI y m d y' m' d'), .int .i64 0] := by rw [ageV, if_pos ⟨hv, hv'⟩, if_neg (fun h => hlt (hneg.1 h))]
    rw [e1]; clear e1 hneg hv hv'
    have HA : Hid (ageI y m d y' m' d' = if m' < m ∨ (m' = m ∧ d' < d) then y' - y - 1 else y' - y) := by
      show _ = _
      unfold ageI befB
      by_cases h : m' < m ∨ (m' = m ∧ d' < d)
      · rw [if_pos h]; simp [h]
      · rw [if_neg h]; simp [h]
    generalize num y' m' d' = N' at *
    generalize num y m d = N at *
    go_enter Try.func23, Try.ntmps23
    go_wp2_with fail
    refine ((K1 _).out).mono ?_; rintro e w1 ⟨rfl, hb⟩
    have X := Lib.hid (blk_below (b := w.heap.size) hb (by first | omega | (simp; done) | (simp; omega)) (by first | exact blk_new rfl | exact blk_old (blk_new rfl) | exact blk_new (by simp) | exact blk_old (blk_new (by simp)) | exact blk_old (blk_old (blk_new rfl))))
    have Y := Lib.hid (blk_below (b := (w.heap.size+1)) hb (by first | omega | (simp; done) | (simp; omega)) (by first | exact blk_new rfl | exact blk_old (blk_new rfl) | exact blk_new (by simp) | exact blk_old (blk_new (by simp)) | exact blk_old (blk_old (blk_new rfl))))
    have hx := Lib.hid (by first | exact HB.out.trans (hb.mono HB.out.size) | exact (HB.out.alloc HB.out.size _).trans (hb.mono (by have := HB.out.size; first | omega | (simp; done) | (simp; omega))) | exact ((HB.out.alloc HB.out.size _).alloc (by have := HB.out.size; first | omega | (simp; done) | (simp; omega)) _).trans (hb.mono (by have := HB.out.size; first | omega | (simp; done) | (simp; omega))) : Below w.heap.size w w1); clear HB hb; have HB := hx; clear hx
    obtain ⟨X0, X1, X2⟩ := cells3 X.out; have zX := lt_of_blk X.out
    obtain ⟨Y0, Y1, Y2⟩ := cells3 Y.out; have zY := lt_of_blk Y.out
    go_wp2_with fail
    refine ((K2 _).out).mono ?_; rintro e w2 ⟨rfl, hb⟩
    have hx := Lib.hid (blk_below (b := w.heap.size) hb (by first | omega | (simp; done) | (simp; omega)) (by first | exact X.out | exact blk_old X.out | exact blk_old (blk_old X.out) | exact blk_old (blk_old (blk_old X.out))))
    clear X X0 X1 X2 zX; have X := hx; clear hx
    have hx := Lib.hid (blk_below (b := (w.heap.size+1)) hb (by first | omega | (simp; done) | (simp; omega)) (by first | exact Y.out | exact blk_old Y.out | exact blk_old (blk_old Y.out) | exact blk_old (blk_old (blk_old Y.out))))
    clear Y Y0 Y1 Y2 zY; have Y := hx; clear hx
    have hx := Lib.hid (by first | exact HB.out.trans (hb.mono HB.out.size) | exact (HB.out.alloc HB.out.size _).trans (hb.mono (by have := HB.out.size; first | omega | (simp; done) | (simp; omega))) | exact ((HB.out.alloc HB.out.size _).alloc (by have := HB.out.size; first | omega | (simp; done) | (simp; omega)) _).trans (hb.mono (by have := HB.out.size; first | omega | (simp; done) | (simp; omega))) : Below w.heap.size w w2); clear HB hb; have HB := hx; clear hx
    obtain ⟨X0, X1, X2⟩ := cells3 X.out; have zX := lt_of_blk X.out
    obtain ⟨Y0, Y1, Y2⟩ := cells3 Y.out; have zY := lt_of_blk Y.out
    go_wp2
    all_goals go_ret2
    all_goals refine ⟨?_, HB.out⟩
    all_goals rw [HA.out]
    all_goals first | (rw [if_pos (by omega)]; rfl) | (rw [if_neg (by omega)]; rfl)
set_option maxHeartbeats 1000000 in
theorem rage_no (y m d y' m' d' : Int) (w : World) (hv : vldB y m d = false ∨ vldB y' m' d' = false) :
    Calls Try.prog 23 #[.agg #[.int .i64 y, .int .i64 m, .int .i64 d], .agg #[.int .i64 y', .int .i64 m', .int .i64 d']] w fun e w' => e = .returned (.tuple #[.int .i64 0, .int .i64 4]) ∧ Below w.heap.size w w' := by
  have HB := Lib.hid (Below.refl w.heap.size w)
  cases h1 : vldB y m d
  · have K1 := fun w => Lib.hid (rday_no y m d w h1)
    have K2 := fun w => Lib.hid (rday_any y' m' d' w)
    clear hv h1
    go_enter Try.func23, Try.ntmps23
    go_wp2_with fail
    refine ((K1 _).out).mono ?_; rintro e w1 ⟨rfl, hb⟩
    have X := Lib.hid (blk_below (b := w.heap.size) hb (by first | omega | (simp; done) | (simp; omega)) (by first | exact blk_new rfl | exact blk_old (blk_new rfl) | exact blk_new (by simp) | exact blk_old (blk_new (by simp)) | exact blk_old (blk_old (blk_new rfl))))
    have Y := Lib.hid (blk_below (b := (w.heap.size+1)) hb (by first | omega | (simp; done) | (simp; omega)) (by first | exact blk_new rfl | exact blk_old (blk_new rfl) | exact blk_new (by simp) | exact blk_old (blk_new (by simp)) | exact blk_old (blk_old (blk_new rfl))))
    have hx := Lib.hid (by first | exact HB.out.trans (hb.mono HB.out.size) | exact (HB.out.alloc HB.out.size _).trans (hb.mono (by have := HB.out.size; first | omega | (simp; done) | (simp; omega))) | exact ((HB.out.alloc HB.out.size _).alloc (by have := HB.out.size; first | omega | (simp; done) | (simp; omega)) _).trans (hb.mono (by have := HB.out.size; first | omega | (simp; done) | (simp; omega))) : Below w.heap.size w w1); clear HB hb; have HB := hx; clear hx
    obtain ⟨X0, X1, X2⟩ := cells3 X.out; have zX := lt_of_blk X.out
    obtain ⟨Y0, Y1, Y2⟩ := cells3 Y.out; have zY := lt_of_blk Y.out
    go_wp2_with fail
    refine ((K2 _).out).mono ?_; rintro e w2 ⟨rfl, hb⟩
    have hx := Lib.hid (blk_below (b := w.heap.size) hb (by first | omega | (simp; done) | (simp; omega)) (by first | exact X.out | exact blk_old X.out | exact blk_old (blk_old X.out) | exact blk_old (blk_old (blk_old X.out))))
    clear X X0 X1 X2 zX; have X := hx; clear hx
    have hx := Lib.hid (blk_below (b := (w.heap.size+1)) hb (by first | omega | (simp; done) | (simp; omega)) (by first | exact Y.out | exact blk_old Y.out | exact blk_old (blk_old Y.out) | exact blk_old (blk_old (blk_old Y.out))))
    clear Y Y0 Y1 Y2 zY; have Y := hx; clear hx
    have hx := Lib.hid (by first | exact HB.out.trans (hb.mono HB.out.size) | exact (HB.out.alloc HB.out.size _).trans (hb.mono (by have := HB.out.size; first | omega | (simp; done) | (simp; omega))) | exact ((HB.out.alloc HB.out.size _).alloc (by have := HB.out.size; first | omega | (simp; done) | (simp; omega)) _).trans (hb.mono (by have := HB.out.size; first | omega | (simp; done) | (simp; omega))) : Below w.heap.size w w2); clear HB hb; have HB := hx; clear hx
    obtain ⟨X0, X1, X2⟩ := cells3 X.out; have zX := lt_of_blk X.out
    obtain ⟨Y0, Y1, Y2⟩ := cells3 Y.out; have zY := lt_of_blk Y.out
    go_wp2
    go_ret2
    exact ⟨rfl, HB.out⟩
  · have h2 : vldB y' m' d' = false := by rcases hv with h | h; · rw [h] at h1; cases h1
                                          · exact h
    have K1 := fun w => Lib.hid (rday_yes y m d w h1)
    have K2 := fun w => Lib.hid (rday_no y' m' d' w h2)
    clear hv h1 h2
    go_enter Try.func23, Try.ntmps23
    go_wp2_with fail
    refine ((K1 _).out).mono ?_; rintro e w1 ⟨rfl, hb⟩
    have X := Lib.hid (blk_below (b := w.heap.size) hb (by first | omega | (simp; done) | (simp; omega)) (by first | exact blk_new rfl | exact blk_old (blk_new rfl) | exact blk_new (by simp) | exact blk_old (blk_new (by simp)) | exact blk_old (blk_old (blk_new rfl))))
    have Y := Lib.hid (blk_below (b := (w.heap.size+1)) hb (by first | omega | (simp; done) | (simp; omega)) (by first | exact blk_new rfl | exact blk_old (blk_new rfl) | exact blk_new (by simp) | exact blk_old (blk_new (by simp)) | exact blk_old (blk_old (blk_new rfl))))
    have hx := Lib.hid (by first | exact HB.out.trans (hb.mono HB.out.size) | exact (HB.out.alloc HB.out.size _).trans (hb.mono (by have := HB.out.size; first | omega | (simp; done) | (simp; omega))) | exact ((HB.out.alloc HB.out.size _).alloc (by have := HB.out.size; first | omega | (simp; done) | (simp; omega)) _).trans (hb.mono (by have := HB.out.size; first | omega | (simp; done) | (simp; omega))) : Below w.heap.size w w1); clear HB hb; have HB := hx; clear hx
    obtain ⟨X0, X1, X2⟩ := cells3 X.out; have zX := lt_of_blk X.out
    obtain ⟨Y0, Y1, Y2⟩ := cells3 Y.out; have zY := lt_of_blk Y.out
    go_wp2_with fail
    refine ((K2 _).out).mono ?_; rintro e w2 ⟨rfl, hb⟩
    have hx := Lib.hid (blk_below (b := w.heap.size) hb (by first | omega | (simp; done) | (simp; omega)) (by first | exact X.out | exact blk_old X.out | exact blk_old (blk_old X.out) | exact blk_old (blk_old (blk_old X.out))))
    clear X X0 X1 X2 zX; have X := hx; clear hx
    have hx := Lib.hid (blk_below (b := (w.heap.size+1)) hb (by first | omega | (simp; done) | (simp; omega)) (by first | exact Y.out | exact blk_old Y.out | exact blk_old (blk_old Y.out) | exact blk_old (blk_old (blk_old Y.out))))
    clear Y Y0 Y1 Y2 zY; have Y := hx; clear hx
    have hx := Lib.hid (by first | exact HB.out.trans (hb.mono HB.out.size) | exact (HB.out.alloc HB.out.size _).trans (hb.mono (by have := HB.out.size; first | omega | (simp; done) | (simp; omega))) | exact ((HB.out.alloc HB.out.size _).alloc (by have := HB.out.size; first | omega | (simp; done) | (simp; omega)) _).trans (hb.mono (by have := HB.out.size; first | omega | (simp; done) | (simp; omega))) : Below w.heap.size w w2); clear HB hb; have HB := hx; clear hx
    obtain ⟨X0, X1, X2⟩ := cells3 X.out; have zX := lt_of_blk X.out
    obtain ⟨Y0, Y1, Y2⟩ := cells3 Y.out; have zY := lt_of_blk Y.out
    go_wp2
    go_ret2
    exact ⟨rfl, HB.out⟩
theorem rage_any (y m d y' m' d' : Int) (w : World) :
    Calls Try.prog 23 #[.agg #[.int .i64 y, .int .i64 m, .int .i64 d], .agg #[.int .i64 y', .int .i64 m', .int .i64 d']] w fun e w' => e = .returned (ageV y m d y' m' d') ∧ Below w.heap.size w w' := by
  by_cases h : vldB y m d = true ∧ vldB y' m' d' = true
  · exact rage_yes y m d y' m' d' w h.1 h.2
  · rw [ageV, if_neg h]
    refine rage_no y m d y' m' d' w ?_
    cases h1 : vldB y m d
    · exact .inl rfl
    · cases h2 : vldB y' m' d'
      · exact .inr rfl
      · exact absurd ⟨h1, h2⟩ h
end Go.Proofs.Ytbibdpoempjcnaa
