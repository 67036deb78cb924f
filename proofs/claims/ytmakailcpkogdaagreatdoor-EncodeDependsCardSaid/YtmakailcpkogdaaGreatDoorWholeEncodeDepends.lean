/-
  For every input the law EncodeDepends returns true, and its arguments read afterwards as they read before; no condition.
-/
import Derived.Test.YtmakailcpkogdaaGreatDoorPartEncodeDepends7
import Derived.Deep.AppendLies
import Derived.Deep.RegionLaw
import Derived.Deep.RegionHeld3
import Derived.Test.YtmakailcpkogdaaGreatDoorRows
import Derived.WalkKit
import Derived.ProofKit
import Derived.OpenShut
import Derived.ShutString
import Derived.ChangeOld
import Derived.Below
import Derived.Lib.SmallJoins
import Derived.Test.YtmakailcpkogdaaGreatDoorCards
import Derived.Test.YtmakailcpkogdaaGreatDoorTie
import Derived.LaidMore
import Derived.Lay
import Derived.SevenTiedAt
import Derived.Stop.Joined
section
/- Contracts of the reference of dates (recordlinkref03): two, Format, Day, FromDay, Swapped, Age: as those of the program. -/
set_option linter.unusedSimpArgs false
set_option linter.unusedVariables false
namespace Go.Proofs.YtmakailcpkogdaaGreatDoor
open Go.RowKit Cal
theorem hcv_two (n : Int) (h0 : 0 ≤ n) (h1 : n ≤ 99) : ∀ w : World, (convert 73 9 (.slice (some ⟨w.heap.size, 0, none⟩) 2 2)).run Tryz.prog (w.alloc (.cells #[.int .u8 (48 + n / 10), .int .u8 (48 + n % 10)] 5)) = .ok (.string ⟨(dg n 2).toArray⟩) (w.alloc (.cells #[.int .u8 (48 + n / 10), .int .u8 (48 + n % 10)] 5)) := by
  intro w
  have ho := owns_new (w := w) (B := 0) (e := 5) (dg n 2) (Nat.zero_le _) (by rw [dg_len]; omega)
  rw [dg_len] at ho
  have e1 : (dg n 2).map byteV = [.int .u8 (48 + n / 10), .int .u8 (48 + n % 10)] := by
    simp only [dg, List.nil_append, List.cons_append, List.map_cons, List.map_nil]
    rw [dgb _ (by omega), dgb _ h0]
    have : n / 10 % 10 = n / 10 := by omega
    rw [this]
  rw [e1] at ho
  exact run_convert_owned (dg n 2) (by rw [e1]; exact ho) Tryz.underlying73 Tryz.underlying5 Tryz.underlying9
set_option maxHeartbeats 400000 in
theorem rtwo_any (n : Int) (w : World) (h0 : 0 ≤ n) (h1 : n ≤ 99) :
    Calls Tryz.prog 183 #[.int .i64 n] w fun e w' => e = .returned (.string ⟨(dg n 2).toArray⟩) ∧ Below w.heap.size w w' := by
  have ha : 0 ≤ n / 10 ∧ n / 10 ≤ 9 := by omega
  have hb : 0 ≤ n % 10 ∧ n % 10 ≤ 9 := by omega
  obtain ⟨ha1, ha2⟩ := ha
  obtain ⟨hb1, hb2⟩ := hb
  have hcv := hcv_two n h0 h1
  go_enter Tryz.func183, Tryz.ntmps183
  go_wp2
  go_ret
  exact ⟨rfl, (Below.refl _ _).alloc (Nat.le_refl _) _⟩
attribute [local go_sem] dg_len bytes_append
set_option maxHeartbeats 2000000 in
theorem rformat_yes (y m d : Int) (w : World) (hv : vldB y m d = true) :
    Calls Tryz.prog 124 #[.agg #[.int .i64 y, .int .i64 m, .int .i64 d]] w fun e w' => e = .returned (.tuple #[.string ⟨(digits8 y m d).toArray⟩, .int .i64 0]) ∧ Below w.heap.size w w' := by
  obtain ⟨b1, b2, b3, b4, b5, b6⟩ := vld_bd hv
  have q1 : 0 ≤ y / 100 ∧ y / 100 ≤ 99 := by omega
  have q2 : 0 ≤ y % 100 ∧ y % 100 ≤ 99 := by omega
  obtain ⟨q1, q1'⟩ := q1
  obtain ⟨q2, q2'⟩ := q2
  have HD : Hid (dg (y / 100) 2 ++ (dg (y % 100) 2 ++ (dg m 2 ++ dg d 2)) = digits8 y m d) := by
    show _ = _
    rw [dg_mod y (by omega), digits8, dg_two y]; simp
  have KV := fun w => Lib.hid (rvalid_yes y m d w hv)
  clear hv
  have m99 : m ≤ 99 := by omega
  have d99 : d ≤ 99 := by omega
  have d0 : 0 ≤ d := by omega
  have m0 : 0 ≤ m := by omega
  have e1 : IntKind.i64.wrap (y.tdiv 100) = y / 100 := by rw [Int.tdiv_eq_ediv_of_nonneg (by omega)]; exact IntWalk.i64_in _ ⟨by omega, by omega⟩
  have e2 : y.tmod 100 = y % 100 := Int.tmod_eq_emod_of_nonneg (by omega)
  go_enter Tryz.func124, Tryz.ntmps124
  go_wp2_with fail
  refine (KV _).out.mono ?_; rintro e w0 ⟨rfl, hb0⟩
  have z0 : w.heap.size < w0.heap.size := by clear e1 e2; have := hb0.size; simp at this; omega
  have HB0 := Lib.hid (((Below.refl _ _).alloc (Nat.le_refl _) _).trans (hb0.mono (by simp))).drew
  have c00 : w0.cell? ⟨w.heap.size, 0, none⟩ = some (.int .i64 y) := (hb0.cell (p := ⟨w.heap.size, 0, none⟩) (by simp)).trans (by simp)
  have c10 : w0.cell? ⟨w.heap.size, 1, none⟩ = some (.int .i64 m) := (hb0.cell (p := ⟨w.heap.size, 1, none⟩) (by simp)).trans (by simp)
  have c20 : w0.cell? ⟨w.heap.size, 2, none⟩ = some (.int .i64 d) := (hb0.cell (p := ⟨w.heap.size, 2, none⟩) (by simp)).trans (by simp)
  clear hb0
  go_wp2_with fail
  refine wp_region_noPanic ?_
  refine wp_region_held_drew (S := (fun w' => w'.cell? ⟨w.heap.size, 0, none⟩ = some (.int .i64 y) ∧ w'.cell? ⟨w.heap.size, 1, none⟩ = some (.int .i64 m) ∧ w'.cell? ⟨w.heap.size, 2, none⟩ = some (.int .i64 d))) (by kernel_rfl) (⟨c00, c10, c20⟩) (fun hHeld => ?_)
  refine wpAnyH_take (i := 0) (v := ?_) rfl (by kernel_rfl) (by kernel_rfl) (by kernel_rfl) (fun _ _ _ h => h) (Or.inl ⟨by rfl, ?_⟩) (by assumption) ?_
  rotate_left 1
  · (intro wS hSw; (try dsimp only at hSw); go_simp; try with_reducible rfl)
  try simp only [List.getElem_toArray, List.getElem_cons_zero, List.getElem_cons_succ, Act.put, List.setIfInBounds_toArray, List.set_cons_zero, List.set_cons_succ]
  refine wpAnyH_take (i := 1) (v := ?_) rfl (by kernel_rfl) (by kernel_rfl) (by kernel_rfl) (fun _ _ _ h => h) (Or.inl ⟨by rfl, ?_⟩) (by assumption) ?_
  rotate_left 1
  · (intro wS hSw; (try dsimp only at hSw); go_simp; try with_reducible rfl)
  try simp only [List.getElem_toArray, List.getElem_cons_zero, List.getElem_cons_succ, Act.put, List.setIfInBounds_toArray, List.set_cons_zero, List.set_cons_succ]
  refine wpAnyH_take (i := 2) (v := ?_) rfl (by kernel_rfl) (by kernel_rfl) (by kernel_rfl) (fun _ _ _ h => h) (Or.inl ⟨by rfl, ?_⟩) (by assumption) ?_
  rotate_left 1
  · (intro wS hSw; (try dsimp only at hSw); go_simp; try with_reducible rfl)
  try simp only [List.getElem_toArray, List.getElem_cons_zero, List.getElem_cons_succ, Act.put, List.setIfInBounds_toArray, List.set_cons_zero, List.set_cons_succ]
  refine wpAnyH_take (i := 4) (v := ?_) rfl (by kernel_rfl) (by kernel_rfl) (by kernel_rfl) (fun _ _ _ h => h) (Or.inl ⟨by rfl, ?_⟩) (by assumption) ?_
  rotate_left 1
  · (intro wS hSw; (try dsimp only at hSw); go_simp; try with_reducible rfl)
  try simp only [List.getElem_toArray, List.getElem_cons_zero, List.getElem_cons_succ, Act.put, List.setIfInBounds_toArray, List.set_cons_zero, List.set_cons_succ]
  refine wpAnyH_take (i := 5) (v := ?_) rfl (by kernel_rfl) (by kernel_rfl) (by kernel_rfl) (fun _ _ _ h => h) (Or.inl ⟨by rfl, ?_⟩) (by assumption) ?_
  rotate_left 1
  · (intro wS hSw; (try dsimp only at hSw); go_simp; try with_reducible rfl)
  try simp only [List.getElem_toArray, List.getElem_cons_zero, List.getElem_cons_succ, Act.put, List.setIfInBounds_toArray, List.set_cons_zero, List.set_cons_succ]
  refine wpAnyH_take (i := 6) (v := ?_) rfl (by kernel_rfl) (by kernel_rfl) (by kernel_rfl) (fun _ _ _ h => h) (Or.inl ⟨by rfl, ?_⟩) (by assumption) ?_
  rotate_left 1
  · (intro wS hSw; (try dsimp only at hSw); go_simp; try with_reducible rfl)
  try simp only [List.getElem_toArray, List.getElem_cons_zero, List.getElem_cons_succ, Act.put, List.setIfInBounds_toArray, List.set_cons_zero, List.set_cons_succ]
  refine wpAnyH_take (i := 9) (v := ?_) rfl (by kernel_rfl) (by kernel_rfl) (by kernel_rfl) (fun _ _ _ h => h) (Or.inl ⟨by rfl, ?_⟩) (by assumption) ?_
  rotate_left 1
  · (intro wS hSw; (try dsimp only at hSw); go_simp; try with_reducible rfl)
  try simp only [List.getElem_toArray, List.getElem_cons_zero, List.getElem_cons_succ, Act.put, List.setIfInBounds_toArray, List.set_cons_zero, List.set_cons_succ]
  refine wpAnyH_take (i := 10) (v := ?_) rfl (by kernel_rfl) (by kernel_rfl) (by kernel_rfl) (fun _ _ _ h => h) (Or.inl ⟨by rfl, ?_⟩) (by assumption) ?_
  rotate_left 1
  · (intro wS hSw; (try dsimp only at hSw); go_simp; try with_reducible rfl)
  try simp only [List.getElem_toArray, List.getElem_cons_zero, List.getElem_cons_succ, Act.put, List.setIfInBounds_toArray, List.set_cons_zero, List.set_cons_succ]
  refine wpAnyH_take (i := 13) (v := ?_) rfl (by kernel_rfl) (by kernel_rfl) (by kernel_rfl) (fun _ _ _ h => h) (Or.inl ⟨by rfl, ?_⟩) (by assumption) ?_
  rotate_left 1
  · (intro wS hSw; (try dsimp only at hSw); go_simp; try with_reducible rfl)
  try simp only [List.getElem_toArray, List.getElem_cons_zero, List.getElem_cons_succ, Act.put, List.setIfInBounds_toArray, List.set_cons_zero, List.set_cons_succ]
  refine wpAnyH_take (i := 14) (v := ?_) rfl (by kernel_rfl) (by kernel_rfl) (by kernel_rfl) (fun _ _ _ h => h) (Or.inl ⟨by rfl, ?_⟩) (by assumption) ?_
  rotate_left 1
  · (intro wS hSw; (try dsimp only at hSw); go_simp; try with_reducible rfl)
  try simp only [List.getElem_toArray, List.getElem_cons_zero, List.getElem_cons_succ, Act.put, List.setIfInBounds_toArray, List.set_cons_zero, List.set_cons_succ]
  refine wpAnyH_ready (rs := [3]) (by kernel_rfl) (by simp) ?_
  refine AllReadyH.cons rfl (fun K hK => ?_) AllReadyH.nil
  go_simp
  refine (rtwo_any _ _ q1 q1').mono ?_; rintro e w1 ⟨rfl, hb1⟩; have z1 : w.heap.size < w1.heap.size := (by clear e1 e2; have := hb1.size; (try simp at this); omega); have HB1 := Lib.hid (HB0.out.trans (hb1.mono (by have := HB0.out.size; simpa using this))); have c01 := (hb1.cell (p := ⟨w.heap.size, 0, none⟩) (by simpa using z0)).trans c00; have c11 := (hb1.cell (p := ⟨w.heap.size, 1, none⟩) (by simpa using z0)).trans c10; have c21 := (hb1.cell (p := ⟨w.heap.size, 2, none⟩) (by simpa using z0)).trans c20; clear hb1 c00 c10 c20
  refine hK.out _ _ (⟨c01, c11, c21⟩) (fun hHeld => ?_)
  clear hK K
  try simp only [List.getElem_toArray, List.getElem_cons_zero, List.getElem_cons_succ, Act.put, List.setIfInBounds_toArray, List.set_cons_zero, List.set_cons_succ]
  refine wpAnyH_ready (rs := [7]) (by kernel_rfl) (by simp) ?_
  refine AllReadyH.cons rfl (fun K hK => ?_) AllReadyH.nil
  go_simp
  refine (rtwo_any _ _ q2 q2').mono ?_; rintro e w2 ⟨rfl, hb2⟩; have z2 : w.heap.size < w2.heap.size := (by clear e1 e2; have := hb2.size; (try simp at this); omega); have HB2 := Lib.hid (HB1.out.trans (hb2.mono (by have := HB1.out.size; simpa using this))); have c02 := (hb2.cell (p := ⟨w.heap.size, 0, none⟩) (by simpa using z1)).trans c01; have c12 := (hb2.cell (p := ⟨w.heap.size, 1, none⟩) (by simpa using z1)).trans c11; have c22 := (hb2.cell (p := ⟨w.heap.size, 2, none⟩) (by simpa using z1)).trans c21; clear hb2 c01 c11 c21
  refine hK.out _ _ (⟨c02, c12, c22⟩) (fun hHeld => ?_)
  clear hK K
  try simp only [List.getElem_toArray, List.getElem_cons_zero, List.getElem_cons_succ, Act.put, List.setIfInBounds_toArray, List.set_cons_zero, List.set_cons_succ]
  refine wpAnyH_take (i := 8) (v := ?_) rfl (by kernel_rfl) (by kernel_rfl) (by kernel_rfl) (fun _ _ _ h => h) (Or.inl ⟨by rfl, ?_⟩) (by assumption) ?_
  rotate_left 1
  · (intro wS hSw; (try dsimp only at hSw); go_simp; try with_reducible rfl)
  try simp only [List.getElem_toArray, List.getElem_cons_zero, List.getElem_cons_succ, Act.put, List.setIfInBounds_toArray, List.set_cons_zero, List.set_cons_succ]
  refine wpAnyH_ready (rs := [11]) (by kernel_rfl) (by simp) ?_
  refine AllReadyH.cons rfl (fun K hK => ?_) AllReadyH.nil
  go_simp
  refine (rtwo_any _ _ m0 m99).mono ?_; rintro e w3 ⟨rfl, hb3⟩; have z3 : w.heap.size < w3.heap.size := (by clear e1 e2; have := hb3.size; (try simp at this); omega); have HB3 := Lib.hid (HB2.out.trans (hb3.mono (by have := HB2.out.size; simpa using this))); have c03 := (hb3.cell (p := ⟨w.heap.size, 0, none⟩) (by simpa using z2)).trans c02; have c13 := (hb3.cell (p := ⟨w.heap.size, 1, none⟩) (by simpa using z2)).trans c12; have c23 := (hb3.cell (p := ⟨w.heap.size, 2, none⟩) (by simpa using z2)).trans c22; clear hb3 c02 c12 c22
  refine hK.out _ _ (⟨c03, c13, c23⟩) (fun hHeld => ?_)
  clear hK K
  try simp only [List.getElem_toArray, List.getElem_cons_zero, List.getElem_cons_succ, Act.put, List.setIfInBounds_toArray, List.set_cons_zero, List.set_cons_succ]
  refine wpAnyH_take (i := 12) (v := ?_) rfl (by kernel_rfl) (by kernel_rfl) (by kernel_rfl) (fun _ _ _ h => h) (Or.inl ⟨by rfl, ?_⟩) (by assumption) ?_
  rotate_left 1
  · (intro wS hSw; (try dsimp only at hSw); go_simp; try with_reducible rfl)
  try simp only [List.getElem_toArray, List.getElem_cons_zero, List.getElem_cons_succ, Act.put, List.setIfInBounds_toArray, List.set_cons_zero, List.set_cons_succ]
  refine wpAnyH_ready (rs := [15]) (by kernel_rfl) (by simp) ?_
  refine AllReadyH.cons rfl (fun K hK => ?_) AllReadyH.nil
  go_simp
  refine (rtwo_any _ _ d0 d99).mono ?_; rintro e w4 ⟨rfl, hb4⟩; have z4 : w.heap.size < w4.heap.size := (by clear e1 e2; have := hb4.size; (try simp at this); omega); have HB4 := Lib.hid (HB3.out.trans (hb4.mono (by have := HB3.out.size; simpa using this))); have c04 := (hb4.cell (p := ⟨w.heap.size, 0, none⟩) (by simpa using z3)).trans c03; have c14 := (hb4.cell (p := ⟨w.heap.size, 1, none⟩) (by simpa using z3)).trans c13; have c24 := (hb4.cell (p := ⟨w.heap.size, 2, none⟩) (by simpa using z3)).trans c23; clear hb4 c03 c13 c23
  refine hK.out _ _ (⟨c04, c14, c24⟩) (fun hHeld => ?_)
  clear hK K
  try simp only [List.getElem_toArray, List.getElem_cons_zero, List.getElem_cons_succ, Act.put, List.setIfInBounds_toArray, List.set_cons_zero, List.set_cons_succ]
  refine wpAnyH_take (i := 16) (v := ?_) rfl (by kernel_rfl) (by kernel_rfl) (by kernel_rfl) (fun _ _ _ h => h) (Or.inl ⟨by rfl, ?_⟩) (by assumption) ?_
  rotate_left 1
  · (intro wS hSw; (try dsimp only at hSw); go_simp; try with_reducible rfl)
  try simp only [List.getElem_toArray, List.getElem_cons_zero, List.getElem_cons_succ, Act.put, List.setIfInBounds_toArray, List.set_cons_zero, List.set_cons_succ]
  refine wpAnyH_take (i := 17) (v := ?_) rfl (by kernel_rfl) (by kernel_rfl) (by kernel_rfl) (fun _ _ _ h => h) (Or.inl ⟨by rfl, ?_⟩) (by assumption) ?_
  rotate_left 1
  · (intro wS hSw; (try dsimp only at hSw); go_simp; try with_reducible rfl)
  try simp only [List.getElem_toArray, List.getElem_cons_zero, List.getElem_cons_succ, Act.put, List.setIfInBounds_toArray, List.set_cons_zero, List.set_cons_succ]
  refine wpAnyH_take (i := 18) (v := ?_) rfl (by kernel_rfl) (by kernel_rfl) (by kernel_rfl) (fun _ _ _ h => h) (Or.inl ⟨by rfl, ?_⟩) (by assumption) ?_
  rotate_left 1
  · (intro wS hSw; (try dsimp only at hSw); go_simp; try with_reducible rfl)
  try simp only [List.getElem_toArray, List.getElem_cons_zero, List.getElem_cons_succ, Act.put, List.setIfInBounds_toArray, List.set_cons_zero, List.set_cons_succ]
  refine wpAnyH_done (by kernel_rfl) ?_ _
  refine NoPanic.normal ?_
  clear e1 e2
  go_wp2
  go_ret2
  exact ⟨by rw [← HD.out]; simp, HB4.out⟩
set_option maxHeartbeats 400000 in
theorem rformat_no (y m d : Int) (w : World) (hv : vldB y m d = false) :
    Calls Tryz.prog 124 #[.agg #[.int .i64 y, .int .i64 m, .int .i64 d]] w fun e w' => e = .returned (.tuple #[.string ⟨#[]⟩, .int .i64 4]) ∧ Below w.heap.size w w' := by
  go_enter Tryz.func124, Tryz.ntmps124
  go_wp2_with fail
  refine (rvalid_no _ _ _ _ hv).mono ?_
  rintro e w1 ⟨rfl, hb1⟩
  go_wp2_with fail
  go_ret2
  exact ⟨rfl, ((Below.refl _ _).alloc (Nat.le_refl _) _).trans (hb1.mono (by simp))⟩
theorem rformat_any (y m d : Int) (w : World) :
    Calls Tryz.prog 124 #[.agg #[.int .i64 y, .int .i64 m, .int .i64 d]] w fun e w' => e = .returned (.tuple #[.string ⟨(fmtL y m d).toArray⟩, .int .i64 (cd (vldB y m d) 4)]) ∧ Below w.heap.size w w' := by
  unfold fmtL
  cases hv : vldB y m d with
  | true => exact rformat_yes y m d w hv
  | false => exact rformat_no y m d w hv
theorem age_neg {y m d y' m' d' : Int} (h : vldB y m d = true) (h' : vldB y' m' d' = true) : ageI y m d y' m' d' < 0 ↔ num y' m' d' < num y m d := by
  have b1 := vld_bd h; have b2 := vld_bd h'
  rw [num_lt _ _ _ _ _ _ h' h]
  cases hb : befB m' d' m d with
  | true =>
    have : m' < m ∨ (m' = m ∧ d' < d) := by simpa [befB] using hb
    unfold ageI; rw [hb]; simp only [cond_true]; omega
  | false =>
    have : ¬ (m' < m ∨ (m' = m ∧ d' < d)) := by simpa [befB] using hb
    unfold ageI; rw [hb]; simp only [cond_false]; omega
end Go.Proofs.YtmakailcpkogdaaGreatDoor
end
section
/- The reference of layer 12 (schema): Normalise. -/
set_option linter.unusedSimpArgs false
set_option linter.unusedVariables false
set_option maxRecDepth 100000
namespace Go.Proofs.YtmakailcpkogdaaGreatDoor
open Go.RowKit Cal
attribute [local go_sem] toList_mk mk_size
set_option maxHeartbeats 4000000 in
theorem rvalue_any (S : Nat → Prop) (vf vt vn vs : Value) (s : SchemaL) (f : Int) (x : ByteArray) (w : World) (h : SchemaAt w S vf vt vn vs s) (hx : x.size ≤ 9223372036854775000) :
    Calls Tryz.prog 67 #[.agg #[vf, vt, vn, vs], .int .i64 f, .string x] w fun e w' => e = .returned (pairV (valueN s f x.data.toList)) ∧ Below w.heap.size w w' := by
  have HS := Lib.hid h.any
  have HL := Lib.hid (Lib.toList_data x)
  obtain ⟨hf1, hf2⟩ := h
  obtain ⟨af, cf, rfl⟩ := hf1.slice
  have HV1 := Lib.hid hf1.any
  have hfin : ∀ p, valueN s f x.data.toList = p → Ending.returned (pairV p) = .returned (pairV (valueN s f x.data.toList)) := fun p h => by rw [h]
  have HF := Lib.hid hfin
  clear hf1 hf2 hfin
  have hval : valueN s f x.data.toList = if (findN s f).2 = 0 then (if x.data.toList = [] then ([], 0) else normK (findN s f).1 s.rules x.data.toList) else ([], (findN s f).2) := rfl
  have hkk := findN_kind (s := s) (f := f)
  have hfn : findN s f = if checkS s = 0 then (if 0 ≤ f ∧ f < s.fields.length then ((s.fields.getD f.toNat default).2, 0) else (0, 2)) else (0, checkS s) := rfl
  have K := rscheck_any Any1 (.slice af s.fields.length cf) vt vn vs s (w.alloc (.cells #[.slice af s.fields.length cf, vt, vn, vs] 36)) (HS.out.below ((Below.refl _ _).alloc (Nat.le_refl _) _))
  have hcf := fun h => (check_fields (s := s) h).1
  obtain ⟨c, hc⟩ : ∃ c, checkS s = c := ⟨_, rfl⟩
  rw [hc] at K hfn hcf
  have HK := Lib.hid K; clear K
  have START := Lib.hid (trivial : True)
  by_cases he : c = 0
  · subst he
    have hlen := (hcf rfl).2
    clear hcf
    rw [if_pos rfl] at hfn
    by_cases hr : 0 ≤ f ∧ f < s.fields.length
    · rw [if_pos hr] at hfn
      obtain ⟨r1, r2⟩ := hr
      obtain ⟨k, rfl⟩ := Int.eq_ofNat_of_zero_le r1
      rw [Int.toNat_natCast] at hfn
      have hk : k < s.fields.length := by omega
      obtain ⟨b, off, rfl, _, hb, hcell⟩ := vec_cell2 HV1.out (by omega)
      obtain ⟨y, hy⟩ : ∃ y, s.fields.getD k default = y := ⟨_, rfl⟩
      have hck := hcell k hk
      rw [hy] at hck hfn
      obtain ⟨nm, kd⟩ := y
      have C1 := Lib.hid (show w.cell? ⟨b, off + k * 2 + 1, none⟩ = some (.int .i64 kd) from hck 1 _ rfl)
      rw [hfn] at hval hkk
      dsimp only at hval hkk
      have hkd := hkk rfl
      rw [if_pos rfl] at hval
      have HVal := Lib.hid hval
      have t1 : decide ((k : Int) < 0) = false := by simp
      have t2 : decide ((s.fields.length : Int) ≤ k) = false := by simp; omega
      have t3 : (k : Int) < (s.fields.length : Int) := by omega
      clear hck hcell hfn hkk hval hy r1 r2
      by_cases hx0 : x.data.toList = []
      · have e1 : x.toList = [] := by rw [HL.out, hx0]
        have HE := Lib.hid (show valueN s (k : Int) x.data.toList = ([], 0) by rw [HVal.out, if_pos hx0])
        clear hx0 hkd
        go_enter Tryz.func67, Tryz.ntmps67
        go_wp2_with fail
        refine HK.out.mono ?_
        rintro e w1 ⟨rfl, hb1⟩
        have HB1 := Lib.hid (((Below.refl w.heap.size w).alloc (Nat.le_refl _) (.cells #[.slice (some ⟨b, off, none⟩) s.fields.length cf, vt, vn, vs] 36)).trans (hb1.mono (by simp)))
        have HX1 := Lib.hid (blk_below (b := w.heap.size) (o := .cells #[.slice (some ⟨b, off, none⟩) s.fields.length cf, vt, vn, vs] 36 (0, 0)) hb1 (by simp) (blk_new rfl))
        clear hb1 HK
        have z0 := lt_of_blk HX1.out
        obtain ⟨p0, p1, p2, p3⟩ := cells4 HX1.out
        go_wp2_with fail
        go_ret2
        exact ⟨HF.out _ HE.out, HB1.out⟩
      · have e1 : (x.toList == []) = false := by rw [HL.out]; simpa using hx0
        have e2 : x.toList.isEmpty = false := by rw [HL.out]; simpa using hx0
        have HE := Lib.hid (show valueN s (k : Int) x.data.toList = normK kd s.rules x.data.toList by rw [HVal.out, if_neg hx0])
        clear hx0
        rcases hkd with rfl | rfl | rfl | rfl
        · have HE2 := Lib.hid (show valueN s (k : Int) x.data.toList = nameN s.rules x.data.toList from HE.out)
          go_enter Tryz.func67, Tryz.ntmps67
          go_wp2_with fail
          refine HK.out.mono ?_
          rintro e w1 ⟨rfl, hb1⟩
          have HB1 := Lib.hid (((Below.refl w.heap.size w).alloc (Nat.le_refl _) (.cells #[.slice (some ⟨b, off, none⟩) s.fields.length cf, vt, vn, vs] 36)).trans (hb1.mono (by simp)))
          have HX1 := Lib.hid (blk_below (b := w.heap.size) (o := .cells #[.slice (some ⟨b, off, none⟩) s.fields.length cf, vt, vn, vs] 36 (0, 0)) hb1 (by simp) (blk_new rfl))
          clear hb1 HK
          have z0 := lt_of_blk HX1.out
          obtain ⟨p0, p1, p2, p3⟩ := cells4 HX1.out
          have c1 : w1.cell? ⟨b, off + k * 2 + 1, none⟩ = some (.int .i64 1) := (HB1.out.cell (p := ⟨b, off + k * 2 + 1, none⟩) hb).trans C1.out
          go_wp2_with fail
          refine (rnorm_any Any1 vt vn vs s.rules x _ (HS.out.2.below HB1.out) hx).mono ?_
          rw [← HE2.out]
          obtain ⟨⟨pl, pe⟩, hpp⟩ : ∃ p, valueN s (k : Int) x.data.toList = p := ⟨_, rfl⟩
          rw [hpp]
          have HPP := Lib.hid hpp
          unfold pairV
          rintro e w3 ⟨rfl, hb3⟩
          have HB3 := Lib.hid (HB1.out.trans (hb3.mono HB1.out.size))
          clear hb3 hpp HE HE2 p0 p1 p2 p3 c1
          go_wp2_with fail
          go_ret2
          exact ⟨HF.out _ HPP.out, HB3.out⟩
        · have HE2 := Lib.hid (show valueN s (k : Int) x.data.toList = dayN x.data.toList from HE.out)
          rcases parse_is x with ⟨da, db, dc, hv, hp, hd⟩ | ⟨hp, hd⟩
          · have HV := Lib.hid hv; have HP := Lib.hid hp
            have HE3 := Lib.hid (HE2.out.trans hd)
            clear hv hp hd HE HE2
            go_enter Tryz.func67, Tryz.ntmps67
            go_wp2_with fail
            refine HK.out.mono ?_
            rintro e w1 ⟨rfl, hb1⟩
            have HB1 := Lib.hid (((Below.refl w.heap.size w).alloc (Nat.le_refl _) (.cells #[.slice (some ⟨b, off, none⟩) s.fields.length cf, vt, vn, vs] 36)).trans (hb1.mono (by simp)))
            have HX1 := Lib.hid (blk_below (b := w.heap.size) (o := .cells #[.slice (some ⟨b, off, none⟩) s.fields.length cf, vt, vn, vs] 36 (0, 0)) hb1 (by simp) (blk_new rfl))
            clear hb1 HK
            have z0 := lt_of_blk HX1.out
            obtain ⟨p0, p1, p2, p3⟩ := cells4 HX1.out
            have c1 : w1.cell? ⟨b, off + k * 2 + 1, none⟩ = some (.int .i64 2) := (HB1.out.cell (p := ⟨b, off + k * 2 + 1, none⟩) hb).trans C1.out
            go_wp2_with fail
            refine (rparse_any x _).mono ?_
            rw [HP.out]
            rintro e w2 ⟨rfl, hb2⟩
            have HB2 := Lib.hid (HB1.out.trans (hb2.mono HB1.out.size))
            clear hb2 p0 p1 p2 p3 c1
            go_wp2_with fail
            refine (rformat_yes da db dc _ HV.out).mono ?_
            rintro e w3 ⟨rfl, hb3⟩
            have HB3 := Lib.hid ((HB2.out.alloc HB2.out.size (.cells #[.int .i64 da, .int .i64 db, .int .i64 dc] 45)).trans (hb3.mono (by have := HB2.out.size; simp; omega)))
            clear hb3
            go_wp2_with fail
            go_ret2
            exact ⟨HF.out _ HE3.out, HB3.out⟩
          · have HP := Lib.hid hp
            have HE3 := Lib.hid (HE2.out.trans hd)
            clear hp hd HE HE2
            go_enter Tryz.func67, Tryz.ntmps67
            go_wp2_with fail
            refine HK.out.mono ?_
            rintro e w1 ⟨rfl, hb1⟩
            have HB1 := Lib.hid (((Below.refl w.heap.size w).alloc (Nat.le_refl _) (.cells #[.slice (some ⟨b, off, none⟩) s.fields.length cf, vt, vn, vs] 36)).trans (hb1.mono (by simp)))
            have HX1 := Lib.hid (blk_below (b := w.heap.size) (o := .cells #[.slice (some ⟨b, off, none⟩) s.fields.length cf, vt, vn, vs] 36 (0, 0)) hb1 (by simp) (blk_new rfl))
            clear hb1 HK
            have z0 := lt_of_blk HX1.out
            obtain ⟨p0, p1, p2, p3⟩ := cells4 HX1.out
            have c1 : w1.cell? ⟨b, off + k * 2 + 1, none⟩ = some (.int .i64 2) := (HB1.out.cell (p := ⟨b, off + k * 2 + 1, none⟩) hb).trans C1.out
            go_wp2_with fail
            refine (rparse_any x _).mono ?_
            rw [HP.out]
            rintro e w2 ⟨rfl, hb2⟩
            have HB2 := Lib.hid (HB1.out.trans (hb2.mono HB1.out.size))
            clear hb2 p0 p1 p2 p3 c1
            go_wp2_with fail
            go_ret2
            exact ⟨HF.out _ HE3.out, HB2.out.alloc HB2.out.size _⟩
        · have HE2 := Lib.hid (show valueN s (k : Int) x.data.toList = codeN x.data.toList from HE.out)
          go_enter Tryz.func67, Tryz.ntmps67
          go_wp2_with fail
          refine HK.out.mono ?_
          rintro e w1 ⟨rfl, hb1⟩
          have HB1 := Lib.hid (((Below.refl w.heap.size w).alloc (Nat.le_refl _) (.cells #[.slice (some ⟨b, off, none⟩) s.fields.length cf, vt, vn, vs] 36)).trans (hb1.mono (by simp)))
          have HX1 := Lib.hid (blk_below (b := w.heap.size) (o := .cells #[.slice (some ⟨b, off, none⟩) s.fields.length cf, vt, vn, vs] 36 (0, 0)) hb1 (by simp) (blk_new rfl))
          clear hb1 HK
          have z0 := lt_of_blk HX1.out
          obtain ⟨p0, p1, p2, p3⟩ := cells4 HX1.out
          have c1 : w1.cell? ⟨b, off + k * 2 + 1, none⟩ = some (.int .i64 3) := (HB1.out.cell (p := ⟨b, off + k * 2 + 1, none⟩) hb).trans C1.out
          go_wp2_with fail
          refine (rcode_any x _ hx).mono ?_
          rw [← HE2.out]
          obtain ⟨⟨pl, pe⟩, hpp⟩ : ∃ p, valueN s (k : Int) x.data.toList = p := ⟨_, rfl⟩
          rw [hpp]
          have HPP := Lib.hid hpp
          unfold pairV
          rintro e w3 ⟨rfl, hb3⟩
          have HB3 := Lib.hid (HB1.out.trans (hb3.mono HB1.out.size))
          clear hb3 hpp HE HE2 p0 p1 p2 p3 c1
          go_wp2_with fail
          go_ret2
          exact ⟨HF.out _ HPP.out, HB3.out⟩
        · have HE2 := Lib.hid (show valueN s (k : Int) x.data.toList = addrN s.rules x.data.toList from HE.out)
          go_enter Tryz.func67, Tryz.ntmps67
          go_wp2_with fail
          refine HK.out.mono ?_
          rintro e w1 ⟨rfl, hb1⟩
          have HB1 := Lib.hid (((Below.refl w.heap.size w).alloc (Nat.le_refl _) (.cells #[.slice (some ⟨b, off, none⟩) s.fields.length cf, vt, vn, vs] 36)).trans (hb1.mono (by simp)))
          have HX1 := Lib.hid (blk_below (b := w.heap.size) (o := .cells #[.slice (some ⟨b, off, none⟩) s.fields.length cf, vt, vn, vs] 36 (0, 0)) hb1 (by simp) (blk_new rfl))
          clear hb1 HK
          have z0 := lt_of_blk HX1.out
          obtain ⟨p0, p1, p2, p3⟩ := cells4 HX1.out
          have c1 : w1.cell? ⟨b, off + k * 2 + 1, none⟩ = some (.int .i64 4) := (HB1.out.cell (p := ⟨b, off + k * 2 + 1, none⟩) hb).trans C1.out
          go_wp2_with fail
          refine (raddr_any Any1 vt vn vs s.rules x _ (HS.out.2.below HB1.out) hx).mono ?_
          rw [← HE2.out]
          obtain ⟨⟨pl, pe⟩, hpp⟩ : ∃ p, valueN s (k : Int) x.data.toList = p := ⟨_, rfl⟩
          rw [hpp]
          have HPP := Lib.hid hpp
          unfold pairV
          rintro e w3 ⟨rfl, hb3⟩
          have HB3 := Lib.hid (HB1.out.trans (hb3.mono HB1.out.size))
          clear hb3 hpp HE HE2 p0 p1 p2 p3 c1
          go_wp2_with fail
          go_ret2
          exact ⟨HF.out _ HPP.out, HB3.out⟩
    · rw [if_neg hr] at hfn
      have HE := Lib.hid (show valueN s f x.data.toList = ([], 2) by rw [hval, hfn]; rfl)
      clear hval hkk hfn
      by_cases r1 : 0 ≤ f
      · have t1 : decide (f < 0) = false := by simp; omega
        have t2 : decide ((s.fields.length : Int) ≤ f) = true := by simp; omega
        go_enter Tryz.func67, Tryz.ntmps67
        go_wp2_with fail
        refine HK.out.mono ?_
        rintro e w1 ⟨rfl, hb1⟩
        have HB1 := Lib.hid (((Below.refl w.heap.size w).alloc (Nat.le_refl _) (.cells #[.slice af s.fields.length cf, vt, vn, vs] 36)).trans (hb1.mono (by simp)))
        have HX1 := Lib.hid (blk_below (b := w.heap.size) (o := .cells #[.slice af s.fields.length cf, vt, vn, vs] 36 (0, 0)) hb1 (by simp) (blk_new rfl))
        clear hb1 HK
        have z0 := lt_of_blk HX1.out
        obtain ⟨p0, p1, p2, p3⟩ := cells4 HX1.out
        go_wp2_with fail
        go_ret2
        exact ⟨HF.out _ HE.out, HB1.out⟩
      · have t1 : decide (f < 0) = true := by simp; omega
        go_enter Tryz.func67, Tryz.ntmps67
        go_wp2_with fail
        refine HK.out.mono ?_
        rintro e w1 ⟨rfl, hb1⟩
        have HB1 := Lib.hid (((Below.refl w.heap.size w).alloc (Nat.le_refl _) (.cells #[.slice af s.fields.length cf, vt, vn, vs] 36)).trans (hb1.mono (by simp)))
        have HX1 := Lib.hid (blk_below (b := w.heap.size) (o := .cells #[.slice af s.fields.length cf, vt, vn, vs] 36 (0, 0)) hb1 (by simp) (blk_new rfl))
        clear hb1 HK
        have z0 := lt_of_blk HX1.out
        obtain ⟨p0, p1, p2, p3⟩ := cells4 HX1.out
        go_wp2_with fail
        go_ret2
        exact ⟨HF.out _ HE.out, HB1.out⟩
  · rw [if_neg he] at hfn
    have HE := Lib.hid (show valueN s f x.data.toList = ([], c) by rw [hval, hfn]; dsimp only; rw [if_neg he])
    have he1 : (c != 0) = true := by simpa using he
    clear hval hkk hfn hcf he
    go_enter Tryz.func67, Tryz.ntmps67
    go_wp2_with fail
    refine HK.out.mono ?_
    rintro e w1 ⟨rfl, hb1⟩
    have HB1 := Lib.hid (((Below.refl w.heap.size w).alloc (Nat.le_refl _) (.cells #[.slice af s.fields.length cf, vt, vn, vs] 36)).trans (hb1.mono (by simp)))
    have HX1 := Lib.hid (blk_below (b := w.heap.size) (o := .cells #[.slice af s.fields.length cf, vt, vn, vs] 36 (0, 0)) hb1 (by simp) (blk_new rfl))
    clear hb1 HK
    have z0 := lt_of_blk HX1.out
    obtain ⟨p0, p1, p2, p3⟩ := cells4 HX1.out
    go_wp2_with fail
    go_ret2
    exact ⟨HF.out _ HE.out, HB1.out⟩
end Go.Proofs.YtmakailcpkogdaaGreatDoor
end
section
/- The reference of layer 12 (schema): Normal. -/
set_option linter.unusedSimpArgs false
set_option linter.unusedVariables false
set_option maxRecDepth 100000
namespace Go.Proofs.YtmakailcpkogdaaGreatDoor
open Go.RowKit Cal
attribute [local go_sem] toList_mk mk_size
set_option maxHeartbeats 4000000 in
theorem rsnormal_any (S : Nat → Prop) (vf vt vn vs : Value) (s : SchemaL) (f : Int) (x : ByteArray) (w : World) (h : SchemaAt w S vf vt vn vs s) (hx : x.size ≤ 9223372036854775000) :
    Calls Tryz.prog 210 #[.agg #[vf, vt, vn, vs], .int .i64 f, .string x] w fun e w' => e = .returned (.bool (normalB s f x.data.toList)) ∧ Below w.heap.size w w' := by
  have HS := Lib.hid h.any
  have HL := Lib.hid (Lib.toList_data x)
  obtain ⟨hf1, hf2⟩ := h
  obtain ⟨af, cf, rfl⟩ := hf1.slice
  have HV1 := Lib.hid hf1.any
  have hfin : ∀ p, normalB s f x.data.toList = p → Ending.returned (.bool p) = .returned (.bool (normalB s f x.data.toList)) := fun p h => by rw [h]
  have HF := Lib.hid hfin
  clear hf1 hf2 hfin
  have hval : normalB s f x.data.toList = if (findN s f).2 = 0 then (if x.data.toList = [] then true else ownK (findN s f).1 s.rules x.data.toList) else false := rfl
  have hkk := findN_kind (s := s) (f := f)
  have hfn : findN s f = if checkS s = 0 then (if 0 ≤ f ∧ f < s.fields.length then ((s.fields.getD f.toNat default).2, 0) else (0, 2)) else (0, checkS s) := rfl
  have K := rscheck_any Any1 (.slice af s.fields.length cf) vt vn vs s (w.alloc (.cells #[.slice af s.fields.length cf, vt, vn, vs] 36)) (HS.out.below ((Below.refl _ _).alloc (Nat.le_refl _) _))
  have hcf := fun h => (check_fields (s := s) h).1
  obtain ⟨c, hc⟩ : ∃ c, checkS s = c := ⟨_, rfl⟩
  rw [hc] at K hfn hcf
  have HK := Lib.hid K; clear K
  have START := Lib.hid (trivial : True)
  by_cases he : c = 0
  · subst he
    have hlen := (hcf rfl).2
    clear hcf
    rw [if_pos rfl] at hfn
    by_cases hr : 0 ≤ f ∧ f < s.fields.length
    · rw [if_pos hr] at hfn
      obtain ⟨r1, r2⟩ := hr
      obtain ⟨k, rfl⟩ := Int.eq_ofNat_of_zero_le r1
      rw [Int.toNat_natCast] at hfn
      have hk : k < s.fields.length := by omega
      obtain ⟨b, off, rfl, _, hb, hcell⟩ := vec_cell2 HV1.out (by omega)
      obtain ⟨y, hy⟩ : ∃ y, s.fields.getD k default = y := ⟨_, rfl⟩
      have hck := hcell k hk
      rw [hy] at hck hfn
      obtain ⟨nm, kd⟩ := y
      have C1 := Lib.hid (show w.cell? ⟨b, off + k * 2 + 1, none⟩ = some (.int .i64 kd) from hck 1 _ rfl)
      rw [hfn] at hval hkk
      dsimp only at hval hkk
      have hkd := hkk rfl
      rw [if_pos rfl] at hval
      have HVal := Lib.hid hval
      have t1 : decide ((k : Int) < 0) = false := by simp
      have t2 : decide ((s.fields.length : Int) ≤ k) = false := by simp; omega
      have t3 : (k : Int) < (s.fields.length : Int) := by omega
      clear hck hcell hfn hkk hval hy r1 r2
      by_cases hx0 : x.data.toList = []
      · have e1 : x.toList = [] := by rw [HL.out, hx0]
        have HE := Lib.hid (show normalB s (k : Int) x.data.toList = true by rw [HVal.out, if_pos hx0])
        clear hx0 hkd
        go_enter Tryz.func210, Tryz.ntmps210
        go_wp2_with fail
        refine HK.out.mono ?_
        rintro e w1 ⟨rfl, hb1⟩
        have HB1 := Lib.hid (((Below.refl w.heap.size w).alloc (Nat.le_refl _) (.cells #[.slice (some ⟨b, off, none⟩) s.fields.length cf, vt, vn, vs] 36)).trans (hb1.mono (by simp)))
        have HX1 := Lib.hid (blk_below (b := w.heap.size) (o := .cells #[.slice (some ⟨b, off, none⟩) s.fields.length cf, vt, vn, vs] 36 (0, 0)) hb1 (by simp) (blk_new rfl))
        clear hb1 HK
        have z0 := lt_of_blk HX1.out
        obtain ⟨p0, p1, p2, p3⟩ := cells4 HX1.out
        go_wp2_with fail
        go_ret
        exact ⟨HF.out _ HE.out, HB1.out⟩
      · have e1 : (x.toList == []) = false := by rw [HL.out]; simpa using hx0
        have e2 : x.toList.isEmpty = false := by rw [HL.out]; simpa using hx0
        have HE := Lib.hid (show normalB s (k : Int) x.data.toList = ownK kd s.rules x.data.toList by rw [HVal.out, if_neg hx0])
        clear hx0
        rcases hkd with rfl | rfl | rfl | rfl
        · have HE2 := Lib.hid (show normalB s (k : Int) x.data.toList = isOwn (nameN s.rules x.data.toList) x.data.toList from HE.out)
          go_enter Tryz.func210, Tryz.ntmps210
          go_wp2_with fail
          refine HK.out.mono ?_
          rintro e w1 ⟨rfl, hb1⟩
          have HB1 := Lib.hid (((Below.refl w.heap.size w).alloc (Nat.le_refl _) (.cells #[.slice (some ⟨b, off, none⟩) s.fields.length cf, vt, vn, vs] 36)).trans (hb1.mono (by simp)))
          have HX1 := Lib.hid (blk_below (b := w.heap.size) (o := .cells #[.slice (some ⟨b, off, none⟩) s.fields.length cf, vt, vn, vs] 36 (0, 0)) hb1 (by simp) (blk_new rfl))
          clear hb1 HK
          have z0 := lt_of_blk HX1.out
          obtain ⟨p0, p1, p2, p3⟩ := cells4 HX1.out
          have c1 : w1.cell? ⟨b, off + k * 2 + 1, none⟩ = some (.int .i64 1) := (HB1.out.cell (p := ⟨b, off + k * 2 + 1, none⟩) hb).trans C1.out
          go_wp2_with fail
          refine (rnormal_any Any1 vt vn vs s.rules x _ (HS.out.2.below HB1.out) hx).mono ?_
          rw [← HE2.out]
          obtain ⟨pb, hpp⟩ : ∃ p, normalB s (k : Int) x.data.toList = p := ⟨_, rfl⟩
          rw [hpp]
          have HPP := Lib.hid hpp
          rintro e w3 ⟨rfl, hb3⟩
          have HB3 := Lib.hid (HB1.out.trans (hb3.mono HB1.out.size))
          clear hb3 hpp HE HE2 p0 p1 p2 p3 c1
          go_wp2_with fail
          go_ret
          exact ⟨HF.out _ HPP.out, HB3.out⟩
        · have HE2 := Lib.hid (show normalB s (k : Int) x.data.toList = readB x.data.toList from HE.out)
          obtain ⟨da, db, dc, hr⟩ := read_is x
          have HR := Lib.hid hr; clear hr HE
          go_enter Tryz.func210, Tryz.ntmps210
          go_wp2_with fail
          refine HK.out.mono ?_
          rintro e w1 ⟨rfl, hb1⟩
          have HB1 := Lib.hid (((Below.refl w.heap.size w).alloc (Nat.le_refl _) (.cells #[.slice (some ⟨b, off, none⟩) s.fields.length cf, vt, vn, vs] 36)).trans (hb1.mono (by simp)))
          have HX1 := Lib.hid (blk_below (b := w.heap.size) (o := .cells #[.slice (some ⟨b, off, none⟩) s.fields.length cf, vt, vn, vs] 36 (0, 0)) hb1 (by simp) (blk_new rfl))
          clear hb1 HK
          have z0 := lt_of_blk HX1.out
          obtain ⟨p0, p1, p2, p3⟩ := cells4 HX1.out
          have c1 : w1.cell? ⟨b, off + k * 2 + 1, none⟩ = some (.int .i64 2) := (HB1.out.cell (p := ⟨b, off + k * 2 + 1, none⟩) hb).trans C1.out
          go_wp2_with fail
          refine (rread_any x _).mono ?_
          rw [HR.out]
          obtain ⟨v, hv⟩ : ∃ v, readB x.data.toList = v := ⟨_, rfl⟩
          rw [hv]
          have HV := Lib.hid hv; clear hv HR
          rintro e w2 ⟨rfl, hb2⟩
          have HB2 := Lib.hid (HB1.out.trans (hb2.mono HB1.out.size))
          clear hb2 p0 p1 p2 p3 c1
          cases v
          all_goals
            simp only [cd_false, cd_true]
            go_wp2_with fail
            go_ret
            exact ⟨HF.out _ (by rw [HE2.out, HV.out]; try rfl), HB2.out.alloc HB2.out.size _⟩
        · have HE2 := Lib.hid (show normalB s (k : Int) x.data.toList = isOwn (codeN x.data.toList) x.data.toList from HE.out)
          go_enter Tryz.func210, Tryz.ntmps210
          go_wp2_with fail
          refine HK.out.mono ?_
          rintro e w1 ⟨rfl, hb1⟩
          have HB1 := Lib.hid (((Below.refl w.heap.size w).alloc (Nat.le_refl _) (.cells #[.slice (some ⟨b, off, none⟩) s.fields.length cf, vt, vn, vs] 36)).trans (hb1.mono (by simp)))
          have HX1 := Lib.hid (blk_below (b := w.heap.size) (o := .cells #[.slice (some ⟨b, off, none⟩) s.fields.length cf, vt, vn, vs] 36 (0, 0)) hb1 (by simp) (blk_new rfl))
          clear hb1 HK
          have z0 := lt_of_blk HX1.out
          obtain ⟨p0, p1, p2, p3⟩ := cells4 HX1.out
          have c1 : w1.cell? ⟨b, off + k * 2 + 1, none⟩ = some (.int .i64 3) := (HB1.out.cell (p := ⟨b, off + k * 2 + 1, none⟩) hb).trans C1.out
          go_wp2_with fail
          refine (rnormed_any x _ hx).mono ?_
          rw [← HE2.out]
          obtain ⟨pb, hpp⟩ : ∃ p, normalB s (k : Int) x.data.toList = p := ⟨_, rfl⟩
          rw [hpp]
          have HPP := Lib.hid hpp
          rintro e w3 ⟨rfl, hb3⟩
          have HB3 := Lib.hid (HB1.out.trans (hb3.mono HB1.out.size))
          clear hb3 hpp HE HE2 p0 p1 p2 p3 c1
          go_wp2_with fail
          go_ret
          exact ⟨HF.out _ HPP.out, HB3.out⟩
        · have HE2 := Lib.hid (show normalB s (k : Int) x.data.toList = isOwn (addrN s.rules x.data.toList) x.data.toList from HE.out)
          go_enter Tryz.func210, Tryz.ntmps210
          go_wp2_with fail
          refine HK.out.mono ?_
          rintro e w1 ⟨rfl, hb1⟩
          have HB1 := Lib.hid (((Below.refl w.heap.size w).alloc (Nat.le_refl _) (.cells #[.slice (some ⟨b, off, none⟩) s.fields.length cf, vt, vn, vs] 36)).trans (hb1.mono (by simp)))
          have HX1 := Lib.hid (blk_below (b := w.heap.size) (o := .cells #[.slice (some ⟨b, off, none⟩) s.fields.length cf, vt, vn, vs] 36 (0, 0)) hb1 (by simp) (blk_new rfl))
          clear hb1 HK
          have z0 := lt_of_blk HX1.out
          obtain ⟨p0, p1, p2, p3⟩ := cells4 HX1.out
          have c1 : w1.cell? ⟨b, off + k * 2 + 1, none⟩ = some (.int .i64 4) := (HB1.out.cell (p := ⟨b, off + k * 2 + 1, none⟩) hb).trans C1.out
          go_wp2_with fail
          refine (ranormal_any Any1 vt vn vs s.rules x _ (HS.out.2.below HB1.out) hx).mono ?_
          rw [← HE2.out]
          obtain ⟨pb, hpp⟩ : ∃ p, normalB s (k : Int) x.data.toList = p := ⟨_, rfl⟩
          rw [hpp]
          have HPP := Lib.hid hpp
          rintro e w3 ⟨rfl, hb3⟩
          have HB3 := Lib.hid (HB1.out.trans (hb3.mono HB1.out.size))
          clear hb3 hpp HE HE2 p0 p1 p2 p3 c1
          go_wp2_with fail
          go_ret
          exact ⟨HF.out _ HPP.out, HB3.out⟩
    · rw [if_neg hr] at hfn
      have HE := Lib.hid (show normalB s f x.data.toList = false by rw [hval, hfn]; rfl)
      clear hval hkk hfn
      by_cases r1 : 0 ≤ f
      · have t1 : decide (f < 0) = false := by simp; omega
        have t2 : decide ((s.fields.length : Int) ≤ f) = true := by simp; omega
        go_enter Tryz.func210, Tryz.ntmps210
        go_wp2_with fail
        refine HK.out.mono ?_
        rintro e w1 ⟨rfl, hb1⟩
        have HB1 := Lib.hid (((Below.refl w.heap.size w).alloc (Nat.le_refl _) (.cells #[.slice af s.fields.length cf, vt, vn, vs] 36)).trans (hb1.mono (by simp)))
        have HX1 := Lib.hid (blk_below (b := w.heap.size) (o := .cells #[.slice af s.fields.length cf, vt, vn, vs] 36 (0, 0)) hb1 (by simp) (blk_new rfl))
        clear hb1 HK
        have z0 := lt_of_blk HX1.out
        obtain ⟨p0, p1, p2, p3⟩ := cells4 HX1.out
        go_wp2_with fail
        go_ret
        exact ⟨HF.out _ HE.out, HB1.out⟩
      · have t1 : decide (f < 0) = true := by simp; omega
        go_enter Tryz.func210, Tryz.ntmps210
        go_wp2_with fail
        refine HK.out.mono ?_
        rintro e w1 ⟨rfl, hb1⟩
        have HB1 := Lib.hid (((Below.refl w.heap.size w).alloc (Nat.le_refl _) (.cells #[.slice af s.fields.length cf, vt, vn, vs] 36)).trans (hb1.mono (by simp)))
        have HX1 := Lib.hid (blk_below (b := w.heap.size) (o := .cells #[.slice af s.fields.length cf, vt, vn, vs] 36 (0, 0)) hb1 (by simp) (blk_new rfl))
        clear hb1 HK
        have z0 := lt_of_blk HX1.out
        obtain ⟨p0, p1, p2, p3⟩ := cells4 HX1.out
        go_wp2_with fail
        go_ret
        exact ⟨HF.out _ HE.out, HB1.out⟩
  · rw [if_neg he] at hfn
    have HE := Lib.hid (show normalB s f x.data.toList = false by rw [hval, hfn]; dsimp only; rw [if_neg he])
    have he1 : (c != 0) = true := by simpa using he
    clear hval hkk hfn hcf he
    go_enter Tryz.func210, Tryz.ntmps210
    go_wp2_with fail
    refine HK.out.mono ?_
    rintro e w1 ⟨rfl, hb1⟩
    have HB1 := Lib.hid (((Below.refl w.heap.size w).alloc (Nat.le_refl _) (.cells #[.slice af s.fields.length cf, vt, vn, vs] 36)).trans (hb1.mono (by simp)))
    have HX1 := Lib.hid (blk_below (b := w.heap.size) (o := .cells #[.slice af s.fields.length cf, vt, vn, vs] 36 (0, 0)) hb1 (by simp) (blk_new rfl))
    clear hb1 HK
    have z0 := lt_of_blk HX1.out
    obtain ⟨p0, p1, p2, p3⟩ := cells4 HX1.out
    go_wp2_with fail
    go_ret
    exact ⟨HF.out _ HE.out, HB1.out⟩
end Go.Proofs.YtmakailcpkogdaaGreatDoor
end
section
/- recordlinkmake: Schema: the walk. -/
set_option linter.unusedSimpArgs false
set_option linter.unusedVariables false
set_option maxRecDepth 100000
namespace Go.Proofs.YtmakailcpkogdaaGreatDoor
open Go.RowKit
attribute [local go_sem] toList_mk mk_size str_append
def kindsD : List Int := [1, 1, 2, 4, 3]
theorem kindsD_bd (k : Nat) (hk : k < 5) : 1 ≤ kindsD.getD k 0 ∧ kindsD.getD k 0 ≤ 4 := by
  have : ∀ j : Fin 5, 1 ≤ kindsD.getD j 0 ∧ kindsD.getD j 0 ≤ 4 := by decide
  exact this ⟨k, hk⟩
theorem kinds_cell {w : World} {b : Nat} (h : w.heap[b]? = some (.cells (kindsD.map (Value.int .i64)).toArray 3 (0, 0))) (k : Nat) (hk : k < 5) : w.cell? ⟨b, k, none⟩ = some (.int .i64 (kindsD.getD k 0)) := by
  rw [cell_of_row _ _ _ _ _ _ h, List.getElem?_toArray, List.getElem?_map]
  have : k < kindsD.length := hk
  rw [List.getD, List.getElem?_eq_getElem this]; rfl
set_option maxHeartbeats 8000000 in
theorem schema_deal (D : Nat) (w : World) (h : DeckAt w D) :
    Calls Tryz.prog 29 #[.pointer (some ⟨D, 0, none⟩)] w (SchemaPost D w) := by
  have zD := h.lt
  have M0 := Lib.hid (Moved.start h); clear h
  go_enter Tryz.func29, Tryz.ntmps29
  go_wp2_with fail
  refine (rules_deal D _ (M0.out.alloc _).deck).mono ?_
  rintro e w1 ⟨vt, vn, vs, r, rfl, hr, hd, mv⟩
  obtain ⟨at', ct, rfl⟩ := hr.1.slice
  obtain ⟨an, cn, rfl⟩ := hr.2.1.slice
  obtain ⟨as', cs, rfl⟩ := hr.2.2.slice
  have zw : w.heap.size < w1.heap.size := by have := mv.size; simp at this; omega
  have X1 := Lib.hid (show w1.heap[w.heap.size]? = some (.cells nil4 36 (0, 0)) from mv.blk (by omega) (blk_new rfl))
  have M1 := Lib.hid ((M0.out.alloc _).trans mv)
  have HR := Lib.hid hr; have HRD := Lib.hid hd
  clear hr hd mv
  go_wp2_with fail
  have K0 := Lib.hid (show SMid D w w1.heap.size (.slice at' r.titles.length ct) (.slice an r.nicks.length cn) (.slice as' r.streets.length cs) r (.slice none 0 0) [] ((w1.alloc (.cells #[.slice none 0 0, .slice at' r.titles.length ct, .slice an r.nicks.length cn, .slice as' r.streets.length cs] 36)).alloc (.cells (namesD.flatMap encS).toArray 9)) from
    ⟨blk_old (blk_old X1.out), blk_old (blk_new rfl), blk_new (by simp), ⟨rfl, .inl ⟨rfl, rfl⟩⟩, by
      have hb : Below w1.heap.size w1 ((w1.alloc (.cells #[.slice none 0 0, .slice at' r.titles.length ct, .slice an r.nicks.length cn, .slice as' r.streets.length cs] 36)).alloc (.cells (namesD.flatMap encS).toArray 9)) := ((Below.refl _ _).alloc (Nat.le_refl _) _).alloc (by simp) _
      have mvv : ∀ b, b < w1.heap.size → (w.alloc (.cells nil4 36)).heap.size ≤ b → _ ∧ (w.heap.size < b ∧ b < w1.heap.size) := fun b h1 h2 => ⟨hb.block b h1, by simp at h2; omega, h1⟩
      exact ⟨HR.out.1.move hb.size mvv, HR.out.2.1.move hb.size mvv, HR.out.2.2.move hb.size mvv⟩, FieldsD.nil, (M1.out.alloc _).alloc _, zw⟩)
  refine (next_any D _ 4 K0.out.moved.deck (by omega) (by omega)).mono ?_
  rintro e w2 ⟨q, rfl, q0, q1, mv⟩
  obtain ⟨q, rfl⟩ := Int.eq_ofNat_of_zero_le q0
  have K1 := Lib.hid (K0.out.gone zD mv)
  clear mv K0 X1 M1 HR M0
  go_wp2_with fail
  go_loopw [6] (fun i wr => ∃ (k : Nat) (F : List F2) (vf : Value), i = .int .i64 k ∧ k ≤ 1 + q ∧ F.length = k ∧ SMid D w w1.heap.size (.slice at' r.titles.length ct) (.slice an r.nicks.length cn) (.slice as' r.streets.length cs) r vf F wr) (fun i _ => 1 + q - (intOf i).toNat)
  case atStart => exact ⟨0, [], _, rfl, by omega, rfl, K1.out⟩
  case round =>
    obtain ⟨k, F, vf, rfl, hk, hF, hm⟩ := hrel
    have HF := Lib.hid hF; have KM := Lib.hid hm
    clear hm hF K1
    by_cases hlt : k < 1 + q
    · have hq : decide ((k : Int) < 1 + q) = true := by simp; omega
      have hix : (k : Int) < 5 := by omega
      have hc : (wr.alloc (.cells #[.int .i64 1, .int .i64 1, .int .i64 2, .int .i64 4, .int .i64 3] 3)).cell? ⟨wr.heap.size, k, none⟩ = _ := kinds_cell (w := wr.alloc (.cells (kindsD.map (Value.int .i64)).toArray 3)) (b := wr.heap.size) (blk_new rfl) k (by omega)
      obtain ⟨kb1, kb2⟩ := kindsD_bd k (by omega)
      obtain ⟨kd, hkd⟩ : ∃ kd, kindsD.getD k 0 = kd := ⟨_, rfl⟩
      rw [hkd] at hc kb1 kb2
      clear hkd
      go_wp2_with fail
      refine (one_any D _ 4 (KM.out.moved.alloc _).deck (by omega) (by omega)).mono ?_
      rintro e w3 ⟨u, rfl, mv⟩
      have KN := Lib.hid (KM.out.gone zD (((Moved.start KM.out.moved.deck).alloc _).trans mv))
      clear hc mv
      go_upto_if 25 with (fail)
      go_cut [7] (fun s7 wx => ∃ kd : Int, s7 = .int .i64 kd ∧ 1 ≤ kd ∧ kd ≤ 4 ∧ SMid D w w1.heap.size (.slice at' r.titles.length ct) (.slice an r.nicks.length cn) (.slice as' r.streets.length cs) r vf F wx)
      case first =>
        cases u
        · go_wp2_with fail
          go_meet
          exact ⟨kd, rfl, kb1, kb2, KN.out⟩
        · go_wp2_with fail
          refine (next_any D _ 4 KN.out.moved.deck (by omega) (by omega)).mono ?_
          rintro e w4 ⟨p, rfl, p0, p1, mv⟩
          have KO := Lib.hid (KN.out.gone zD mv)
          clear mv
          go_wp2_with fail
          go_meet
          exact ⟨1 + p, rfl, by omega, by omega, KO.out⟩
      case rest =>
        obtain ⟨kx, rfl, kx1, kx2, hm⟩ := hcut
        have KX := Lib.hid hm
        clear hm KM KN kb1 kb2
        obtain ⟨av, cv, hav⟩ := own_slice KX.out.own
        rw [HF.out] at hav
        subst hav
        have cY := (cells4 KX.out.s).1
        have cN := KX.out.n.cell k (by show k < 5; omega)
        have zY := lt_of_blk KX.out.n
        have zY0 : w1.heap.size < wc.heap.size := by omega
        obtain ⟨nm, hnm⟩ : ∃ nm, namesD.getD k [] = nm := ⟨_, rfl⟩
        rw [hnm] at cN
        have HNM := Lib.hid hnm; clear hnm
        go_wp2_with fail
        have hown := own_below KX.out.own (((Below.refl _ _).alloc (Nat.le_refl _) (.cells #[strV nm, .int .i64 kx] 33)).drew)
        have hnews : ∀ j u, [strV nm, Value.int .i64 kx][j]? = some u → ((wc.alloc (.cells #[strV nm, .int .i64 kx] 33)).drew).cell? ((⟨wc.heap.size, 0, none⟩ : Addr).add j) = some u := fun j u hu => by
          rw [add_plain, World.cell?_drew, cell_of_row _ _ _ _ _ _ (heap_alloc_new wc _), Nat.zero_add]; simpa using hu
        have hone : ∀ u ∈ [strV nm, Value.int .i64 kx], u.oneCell' = true := by intro u hu; simp at hu; rcases hu with rfl | rfl <;> rfl
        obtain ⟨i0, hi, hz0, hz1, hz2⟩ := info_parts infoF
        have hbA := ((Below.refl _ wc).alloc (Nat.le_refl _) (.cells #[strV nm, .int .i64 kx] 33)).drew
        have HBA := Lib.hid hbA; have HOwn := Lib.hid hown; have HNews := Lib.hid hnews; have HOne := Lib.hid hone; have HI := Lib.hid hi; have HZ0 := Lib.hid hz0; have HZ1 := Lib.hid hz1; have HZ2 := Lib.hid hz2
        have fY := (frozen_of_row _ _ _ _ _ KX.out.s : wc.frozen? ⟨w1.heap.size, 0, none⟩ = false)
        clear hbA hown hnews hone hi hz0 hz1 hz2
        rw [HF.out] at HOwn
        go_region_law (((refine step_append_lies _ rfl (.tmp 30) (.tmp 37) 34 (by rfl) (w1.heap.size + 2) 33 i0 (.agg #[.string ⟨#[]⟩, .int .i64 0]) 2 24 Tryz.underlying34 HI.out HZ0.out HZ1.out HZ2.out rfl (by decide) (.slice av k cv) k (F.flatMap encF) (by rfl) HOwn.out ⟨wc.heap.size, 0, none⟩ 1 1 [strV nm, .int .i64 kx] (by rfl) rfl HNews.out HOne.out (by omega) (by unfold maxLen; omega) (by omega) (by simp; omega) (wc.heap.size + 1) (by simp) ?_); intro g cap w5 hown5 hg5 hat5 hlt5; have cY5 := (hg5.cell_far ⟨w1.heap.size, 0, none⟩ (by simp; omega) (own_far HOwn.out (by show w1.heap.size < _; omega))).trans ((HBA.out.cell (p := ⟨w1.heap.size, 0, none⟩) (by show w1.heap.size < _; omega)).trans cY); have fY5 := (hg5.frozen_far ⟨w1.heap.size, 0, none⟩ (by simp; omega) (own_far HOwn.out (by show w1.heap.size < _; omega))).trans ((HBA.out.frozen (p := ⟨w1.heap.size, 0, none⟩) (by show w1.heap.size < _; omega)).trans fY)))
        all_goals
          have hfd := KX.out.fields.snoc (by rw [HF.out]; omega) kx1 kx2
          rw [HF.out, HNM.out] at hfd
          have hown6 := hown5
          rw [show F.flatMap encF ++ [strV nm, .int .i64 kx] = F.flatMap encF ++ encF (nm, kx) from rfl, ← HF.out] at hown6
          have KS := Lib.hid (KX.out.step (x := (nm, kx)) zD HBA.out hg5 hown6 hfd)
          rw [HF.out] at KS
          clear hfd hown6 hown5 hg5 hat5 cY5 fY5
          go_wp2_with fail
          go_roundw
          case rel => exact ⟨k + 1, F ++ [(nm, kx)], _, by go_num, by omega, by rw [List.length_append, HF.out]; rfl, KS.out⟩
          case measure => simp [intOf]; omega
    · have hq : decide ((k : Int) < 1 + q) = false := by simp; omega
      obtain ⟨av, cv, hav⟩ := own_slice KM.out.own
      subst hav
      have HZ := Lib.hid KM.out.z
      have HM := Lib.hid KM.out.moved
      have HR := Lib.hid KM.out.rules
      have HO := Lib.hid KM.out.own
      have HFd := Lib.hid KM.out.fields
      obtain ⟨c0, c1, c2, c3⟩ := cells4 KM.out.s
      obtain ⟨d0, d1, d2, d3⟩ := cells4 KM.out.z
      have g0 := (frozen_of_row _ _ _ _ _ KM.out.z : wr.frozen? ⟨w.heap.size, 0, none⟩ = false)
      have g1 := (frozen_of_row _ _ _ _ _ KM.out.z : wr.frozen? ⟨w.heap.size, 1, none⟩ = false)
      have g2 := (frozen_of_row _ _ _ _ _ KM.out.z : wr.frozen? ⟨w.heap.size, 2, none⟩ = false)
      have g3 := (frozen_of_row _ _ _ _ _ KM.out.z : wr.frozen? ⟨w.heap.size, 3, none⟩ = false)
      have z0 := lt_of_blk KM.out.z
      have z1 := lt_of_blk KM.out.s
      clear KM
      go_wp2_with fail
      have hz := (blk_set (i := 3) (v := (.slice as' r.streets.length cs)) (blk_set (i := 2) (v := (.slice an r.nicks.length cn)) (blk_set (i := 1) (v := (.slice at' r.titles.length ct)) (blk_set (i := 0) (v := (.slice av F.length cv)) HZ.out))))
      have hm := ((((HM.out.set (a := ⟨w.heap.size, 0, none⟩) (Nat.le_refl _) (.slice av F.length cv)).set (a := ⟨w.heap.size, 1, none⟩) (Nat.le_refl _) (.slice at' r.titles.length ct)).set (a := ⟨w.heap.size, 2, none⟩) (Nat.le_refl _) (.slice an r.nicks.length cn)).set (a := ⟨w.heap.size, 3, none⟩) (Nat.le_refl _) (.slice as' r.streets.length cs))
      have hv := (((((Vec.owns (k := 2) (enc := encF) (S := fun b => w.heap.size < b) (fun _ => rfl) HO.out (fun b h1 _ => by omega)).set1 (a := ⟨w.heap.size, 0, none⟩) (fun b h => Nat.ne_of_gt h) (.slice av F.length cv)).set1 (a := ⟨w.heap.size, 1, none⟩) (fun b h => Nat.ne_of_gt h) (.slice at' r.titles.length ct)).set1 (a := ⟨w.heap.size, 2, none⟩) (fun b h => Nat.ne_of_gt h) (.slice an r.nicks.length cn)).set1 (a := ⟨w.heap.size, 3, none⟩) (fun b h => Nat.ne_of_gt h) (.slice as' r.streets.length cs))
      have ht := (((((HR.out.1.weaken (S' := fun b => w.heap.size < b) fun b h => h.1).set1 (a := ⟨w.heap.size, 0, none⟩) (fun b h => Nat.ne_of_gt h) (.slice av F.length cv)).set1 (a := ⟨w.heap.size, 1, none⟩) (fun b h => Nat.ne_of_gt h) (.slice at' r.titles.length ct)).set1 (a := ⟨w.heap.size, 2, none⟩) (fun b h => Nat.ne_of_gt h) (.slice an r.nicks.length cn)).set1 (a := ⟨w.heap.size, 3, none⟩) (fun b h => Nat.ne_of_gt h) (.slice as' r.streets.length cs))
      have hn := (((((HR.out.2.1.weaken (S' := fun b => w.heap.size < b) fun b h => h.1).set1 (a := ⟨w.heap.size, 0, none⟩) (fun b h => Nat.ne_of_gt h) (.slice av F.length cv)).set1 (a := ⟨w.heap.size, 1, none⟩) (fun b h => Nat.ne_of_gt h) (.slice at' r.titles.length ct)).set1 (a := ⟨w.heap.size, 2, none⟩) (fun b h => Nat.ne_of_gt h) (.slice an r.nicks.length cn)).set1 (a := ⟨w.heap.size, 3, none⟩) (fun b h => Nat.ne_of_gt h) (.slice as' r.streets.length cs))
      have hs := (((((HR.out.2.2.weaken (S' := fun b => w.heap.size < b) fun b h => h.1).set1 (a := ⟨w.heap.size, 0, none⟩) (fun b h => Nat.ne_of_gt h) (.slice av F.length cv)).set1 (a := ⟨w.heap.size, 1, none⟩) (fun b h => Nat.ne_of_gt h) (.slice at' r.titles.length ct)).set1 (a := ⟨w.heap.size, 2, none⟩) (fun b h => Nat.ne_of_gt h) (.slice an r.nicks.length cn)).set1 (a := ⟨w.heap.size, 3, none⟩) (fun b h => Nat.ne_of_gt h) (.slice as' r.streets.length cs))
      have hw : ∀ b, w.heap.size < b → w.heap.size ≤ b := fun b h => Nat.le_of_lt h
      have hF1 : 1 ≤ F.length := by have := HF.out; omega
      exact bodyPost_row1 rfl rfl hz Tryz.underlying36 rfl (by kernel_rfl) ⟨_, _, _, _, ⟨F, r⟩, rfl, ⟨hv.weaken hw, ht.weaken hw, hn.weaken hw, hs.weaken hw⟩, ⟨HFd.out, hF1, HRD.out⟩, hm⟩
end Go.Proofs.YtmakailcpkogdaaGreatDoor
end
section
/- The reference of layer 13: Make; recordlinkmake: Record: some record in normal form. -/
set_option linter.unusedSimpArgs false
set_option linter.unusedVariables false
set_option maxRecDepth 100000
namespace Go.Proofs.YtmakailcpkogdaaGreatDoor
open Go.RowKit Cal
attribute [local go_sem] toList_mk mk_size str_append
/-- a record in memory: its three cells -/
def RecVal (w : World) (S : Nat → Prop) (v : Value) (r : RecL) : Prop := ∃ s, v = .agg #[.int .i64 r.id, .int .i64 r.ver, s] ∧ Vec w S 1 encS s r.vals
def MakePost (p : RecL × Int) (w : World) (e : Ending) (w' : World) : Prop := ∃ v, e = .returned (.tuple #[v, .int .i64 p.2]) ∧ RecVal w' (fun b => w.heap.size ≤ b) v p.1 ∧ Below w.heap.size w w'
/-- .. of raw values as many as fields, right numbers, a valid schema -/
theorem makeN_in {s : SchemaL} {id ver : Int} {raws : List (List UInt8)} (h0 : checkS s = 0) (h1 : raws.length = s.fields.length) (h2 : numberedB id ver = true) : makeN s id ver raws = if (makeA s 0 [] raws).2 = 0 then (⟨id, ver, (makeA s 0 [] raws).1⟩, 0) else (noRec, (makeA s 0 [] raws).2) := by
  unfold makeN; rw [if_pos h0, if_pos h1, if_pos h2]
/-- where ref13.Make stands: the schema's box, the result's, the record's, its values -/
structure MkAt (w : World) (rb : Nat) (vf vt vn vs : Value) (id ver : Int) (v : Value) (C : List (List UInt8)) (wr : World) : Prop where
  s : wr.heap[w.heap.size]? = some (.cells #[vf, vt, vn, vs] 36 (0, 0))
  z : wr.heap[w.heap.size + 1]? = some (.cells #[.int .i64 0, .int .i64 0, .slice none 0 0] 49 (0, 0))
  r : wr.heap[rb]? = some (.cells #[.int .i64 id, .int .i64 ver, v] 49 (0, 0))
  own : wr.ownsRow (rb + 1) 9 1 v C.length (C.flatMap encS)
  b : Below w.heap.size w wr
  lt : w.heap.size + 1 < rb
  lt2 : rb < wr.heap.size
theorem MkAt.below {w : World} {rb : Nat} {vf vt vn vs : Value} {id ver : Int} {v : Value} {C : List (List UInt8)} {wr wx : World} (h : MkAt w rb vf vt vn vs id ver v C wr) (hb : Below wr.heap.size wr wx) : MkAt w rb vf vt vn vs id ver v C wx :=
  ⟨blk_below hb (lt_of_blk h.s) h.s, blk_below hb (lt_of_blk h.z) h.z, blk_below hb (lt_of_blk h.r) h.r, own_below' h.own hb, h.b.trans (hb.mono h.b.size), h.lt, Nat.lt_of_lt_of_le h.lt2 hb.size⟩
set_option maxHeartbeats 8000000 in
theorem rmake_yes (S T : Nat → Prop) (vf vt vn vs : Value) (s : SchemaL) (id ver : Int) (raws : List (List UInt8)) (rv : Value) (w : World) (h : SchemaAt w S vf vt vn vs s) (hv : Vec w T 1 encS rv raws) (hc : checkS s = 0) (hl : raws.length = s.fields.length) (hn : numberedB id ver = true) (hs : ∀ x ∈ raws, x.length ≤ 1000000) :
    Calls Tryz.prog 24 #[.agg #[vf, vt, vn, vs], .int .i64 id, .int .i64 ver, rv] w (MakePost (makeN s id ver raws) w) := by
  have hmk := makeN_in hc hl hn
  obtain ⟨R, hR⟩ : ∃ R, makeN s id ver raws = R := ⟨_, rfl⟩
  rw [hR] at hmk ⊢
  have HMK := Lib.hid hmk
  clear hmk hR
  obtain ⟨a, cap, rfl⟩ := hv.slice
  obtain ⟨af, cf, rfl⟩ := h.1.slice
  have h5 : raws.length ≤ 5 := by have := (check_fields hc).1.2; omega
  have hne : ((raws.length : Int) != (s.fields.length : Int)) = false := by rw [hl]; simp
  have hn0 := hn
  simp only [numberedB, Bool.and_eq_true, decide_eq_true_iff] at hn0
  obtain ⟨⟨⟨n1, n2⟩, n3⟩, n4⟩ := hn0
  have e1 : decide (id < (1 : Int)) = false := by simp; omega
  have e2 : decide ((1048576 : Int) < id) = false := by simp; omega
  have e3 : decide (ver < (1 : Int)) = false := by simp; omega
  have e4 : decide ((1048576 : Int) < ver) = false := by simp; omega
  have HC := Lib.hid hc; have HV := Lib.hid hv.any; have HS := Lib.hid h.any; have HSh := Lib.hid hs
  clear h hv hc hl hn hs n1 n2 n3 n4
  go_enter Tryz.func24, Tryz.ntmps24
  go_wp2_with fail
  refine wp_calls_world (fun W hW => ?_)
  have hb0 : Below w.heap.size w W := by rw [hW]; exact ((Below.refl w.heap.size w).alloc (Nat.le_refl _) _).alloc (by simp) _
  have hs0 : W.heap[w.heap.size]? = some (.cells #[.slice af s.fields.length cf, vt, vn, vs] 36 (0, 0)) := by rw [hW]; exact blk_old (blk_new rfl)
  have hz0 : W.heap[w.heap.size + 1]? = some (.cells #[.int .i64 0, .int .i64 0, .slice none 0 0] 49 (0, 0)) := by rw [hW]; exact blk_new (by simp)
  clear hW
  refine (rscheck_any Any1 _ _ _ _ s _ (HS.out.below hb0)).mono ?_
  rw [HC.out]
  rintro e w1 ⟨rfl, hb⟩
  have hs1 := blk_below hb (lt_of_blk hs0) hs0; have hz1 := blk_below hb (lt_of_blk hz0) hz0
  have HB1 := Lib.hid (hb0.trans (hb.mono hb0.size)); have HS1 := Lib.hid hs1; have HZ1 := Lib.hid hz1
  obtain ⟨s0, s1, s2, s3⟩ := cellsS hs1
  clear hb hb0 hs0 hz0 hs1 hz1
  go_wp2_with fail
  refine wp_world (fun W2 hW2 => ?_)
  have hm0 : MkAt w w1.heap.size (.slice af s.fields.length cf) vt vn vs id ver (.slice none 0 0) [] W2 := by
    rw [hW2]
    exact ⟨blk_old HS1.out, blk_old HZ1.out, blk_new rfl, ⟨by simp, .inl ⟨rfl, rfl⟩⟩, HB1.out.alloc HB1.out.size _, lt_of_blk HZ1.out, by simp⟩
  have HM0 := Lib.hid hm0
  clear hW2 hm0 s0 s1 s2 s3
  go_loopw [12, 13, 14] (fun i _ _ wr => ∃ (j : Nat) (v : Value) (C : List (List UInt8)), i = .int .i64 j ∧ j ≤ raws.length ∧ C.length = j ∧ Hid (makeA s j C (raws.drop j) = makeA s 0 [] raws) ∧ MkAt w w1.heap.size (.slice af s.fields.length cf) vt vn vs id ver v C wr) (fun i _ _ _ => raws.length - (intOf i).toNat)
  case atStart => exact ⟨0, _, [], rfl, by omega, rfl, Lib.hid rfl, HM0.out⟩
  case round =>
    obtain ⟨j, vC, C, rfl, hj, hCl, HT, hm⟩ := hrel
    have HM := Lib.hid hm; have HCl := Lib.hid hCl; clear hm hCl HM0
    obtain ⟨s0, s1, s2, s3⟩ := cellsS HM.out.s
    by_cases hlt : j < raws.length
    · have hq : decide ((j : Int) < raws.length) = true := by simp; omega
      obtain ⟨x, hx⟩ : ∃ x, raws[j] = x := ⟨_, rfl⟩
      have hxl : x.length ≤ 1000000 := HSh.out x (by rw [← hx]; exact List.getElem_mem _)
      have hT := HT.out
      rw [List.drop_eq_getElem_cons hlt, hx, makeA] at hT
      obtain ⟨b, off, rfl, hb, hc⟩ := (HV.out.below HM.out.b).get j hlt
      have c0 := hc 0 _ rfl
      rw [Nat.mul_one, Nat.add_zero, hx] at c0
      obtain ⟨⟨y, er⟩, hp⟩ : ∃ p, valueN s j x = p := ⟨_, rfl⟩
      rw [hp] at hT
      dsimp only at hT
      have HT2 := Lib.hid hT; have HPv := Lib.hid hp
      clear hc hT hx HT hp
      go_wp2_with fail
      have hbw : b < wr.heap.size := hb
      have hzs := lt_of_blk HM.out.s
      refine wp_region_noPanic ?_
      refine wp_region_held_drew (S := (fun w' => w'.cell? ⟨w.heap.size, 0, none⟩ = some (.slice af s.fields.length cf) ∧ w'.cell? ⟨w.heap.size, 1, none⟩ = some vt ∧ w'.cell? ⟨w.heap.size, 2, none⟩ = some vn ∧ w'.cell? ⟨w.heap.size, 3, none⟩ = some vs ∧ w'.cell? ⟨b, off + j, none⟩ = some (strV x))) (by kernel_rfl) (⟨s0, s1, s2, s3, c0⟩) (fun hHeld => ?_)
      refine wpAnyH_take (i := 0) (v := ?_) rfl (by kernel_rfl) (by kernel_rfl) (by kernel_rfl) (fun _ _ _ h => h) (Or.inl ⟨by rfl, ?_⟩) (by assumption) ?_
      rotate_left 1
      · (intro wS hSw; (try dsimp only at hSw); go_simp; try with_reducible rfl)
      try simp only [List.getElem_toArray, List.getElem_cons_zero, List.getElem_cons_succ, Act.put, List.setIfInBounds_toArray, List.set_cons_zero, List.set_cons_succ]
      refine wpAnyH_take (i := 1) (v := ?_) rfl (by kernel_rfl) (by kernel_rfl) (by kernel_rfl) (fun _ _ _ h => h) (Or.inl ⟨by rfl, ?_⟩) (by assumption) ?_
      rotate_left 1
      · (intro wS hSw; (try dsimp only at hSw); go_simp; try with_reducible rfl)
      try simp only [List.getElem_toArray, List.getElem_cons_zero, List.getElem_cons_succ, Act.put, List.setIfInBounds_toArray, List.set_cons_zero, List.set_cons_succ]
      refine wpAnyH_take (i := 2) (v := ?_) rfl (by kernel_rfl) (by kernel_rfl) (by kernel_rfl) (fun _ _ _ h => h) (Or.inl ⟨by rfl, ?_⟩) (by assumption) ?_
      rotate_left 1
      · (intro wS hSw; (try dsimp only at hSw); go_simp; try with_reducible rfl)
      try simp only [List.getElem_toArray, List.getElem_cons_zero, List.getElem_cons_succ, Act.put, List.setIfInBounds_toArray, List.set_cons_zero, List.set_cons_succ]
      refine wpAnyH_take (i := 3) (v := ?_) rfl (by kernel_rfl) (by kernel_rfl) (by kernel_rfl) (fun _ _ _ h => h) (Or.inl ⟨by rfl, ?_⟩) (by assumption) ?_
      rotate_left 1
      · (intro wS hSw; (try dsimp only at hSw); go_simp; try with_reducible rfl)
      try simp only [List.getElem_toArray, List.getElem_cons_zero, List.getElem_cons_succ, Act.put, List.setIfInBounds_toArray, List.set_cons_zero, List.set_cons_succ]
      refine wpAnyH_take (i := 4) (v := ?_) rfl (by kernel_rfl) (by kernel_rfl) (by kernel_rfl) (fun _ _ _ h => h) (Or.inl ⟨by rfl, ?_⟩) (by assumption) ?_
      rotate_left 1
      · (intro wS hSw; (try dsimp only at hSw); go_simp; try with_reducible rfl)
      try simp only [List.getElem_toArray, List.getElem_cons_zero, List.getElem_cons_succ, Act.put, List.setIfInBounds_toArray, List.set_cons_zero, List.set_cons_succ]
      refine wpAnyH_take (i := 5) (v := ?_) rfl (by kernel_rfl) (by kernel_rfl) (by kernel_rfl) (fun _ _ _ h => h) (Or.inl ⟨by rfl, ?_⟩) (by assumption) ?_
      rotate_left 1
      · (intro wS hSw; (try dsimp only at hSw); go_simp; try with_reducible rfl)
      try simp only [List.getElem_toArray, List.getElem_cons_zero, List.getElem_cons_succ, Act.put, List.setIfInBounds_toArray, List.set_cons_zero, List.set_cons_succ]
      refine wpAnyH_ready (rs := [6]) (by kernel_rfl) (by simp) ?_
      refine AllReadyH.cons rfl (fun K hK => ?_) AllReadyH.nil
      go_simp
      refine (rvalue_any Any1 _ vt vn vs s j ⟨x.toArray⟩ _ ((HS.out.below HM.out.b).below (Below.refl _ _).drew) (by rw [mk_size]; omega)).mono ?_; rw [show (⟨x.toArray⟩ : ByteArray).data.toList = x by simp, HPv.out]; unfold pairV; rintro e w2 ⟨rfl, hb2⟩; have b2 := ((Below.refl wr.heap.size wr).drew).trans hb2; clear hb2
      refine hK.out _ _ (⟨(b2.cell (p := ⟨w.heap.size, 0, none⟩) hzs).trans s0, (b2.cell (p := ⟨w.heap.size, 1, none⟩) hzs).trans s1, (b2.cell (p := ⟨w.heap.size, 2, none⟩) hzs).trans s2, (b2.cell (p := ⟨w.heap.size, 3, none⟩) hzs).trans s3, (b2.cell (p := ⟨b, off + j, none⟩) hbw).trans c0⟩) (fun hHeld => ?_)
      clear hK K
      try simp only [List.getElem_toArray, List.getElem_cons_zero, List.getElem_cons_succ, Act.put, List.setIfInBounds_toArray, List.set_cons_zero, List.set_cons_succ]
      refine wpAnyH_take (i := 7) (v := ?_) rfl (by kernel_rfl) (by kernel_rfl) (by kernel_rfl) (fun _ _ _ h => h) (Or.inl ⟨by rfl, ?_⟩) (by assumption) ?_
      rotate_left 1
      · (intro wS hSw; (try dsimp only at hSw); go_simp; try with_reducible rfl)
      try simp only [List.getElem_toArray, List.getElem_cons_zero, List.getElem_cons_succ, Act.put, List.setIfInBounds_toArray, List.set_cons_zero, List.set_cons_succ]
      refine wpAnyH_take (i := 8) (v := ?_) rfl (by kernel_rfl) (by kernel_rfl) (by kernel_rfl) (fun _ _ _ h => h) (Or.inl ⟨by rfl, ?_⟩) (by assumption) ?_
      rotate_left 1
      · (intro wS hSw; (try dsimp only at hSw); go_simp; try with_reducible rfl)
      try simp only [List.getElem_toArray, List.getElem_cons_zero, List.getElem_cons_succ, Act.put, List.setIfInBounds_toArray, List.set_cons_zero, List.set_cons_succ]
      refine wpAnyH_take (i := 9) (v := ?_) rfl (by kernel_rfl) (by kernel_rfl) (by kernel_rfl) (fun _ _ _ h => h) (Or.inl ⟨by rfl, ?_⟩) (by assumption) ?_
      rotate_left 1
      · (intro wS hSw; (try dsimp only at hSw); go_simp; try with_reducible rfl)
      try simp only [List.getElem_toArray, List.getElem_cons_zero, List.getElem_cons_succ, Act.put, List.setIfInBounds_toArray, List.set_cons_zero, List.set_cons_succ]
      refine wpAnyH_take (i := 10) (v := ?_) rfl (by kernel_rfl) (by kernel_rfl) (by kernel_rfl) (fun _ _ _ h => h) (Or.inl ⟨by rfl, ?_⟩) (by assumption) ?_
      rotate_left 1
      · (intro wS hSw; (try dsimp only at hSw); go_simp; try with_reducible rfl)
      try simp only [List.getElem_toArray, List.getElem_cons_zero, List.getElem_cons_succ, Act.put, List.setIfInBounds_toArray, List.set_cons_zero, List.set_cons_succ]
      refine wpAnyH_take (i := 11) (v := ?_) rfl (by kernel_rfl) (by kernel_rfl) (by kernel_rfl) (fun _ _ _ h => h) (Or.inl ⟨by rfl, ?_⟩) (by assumption) ?_
      rotate_left 1
      · (intro wS hSw; (try dsimp only at hSw); go_simp; try with_reducible rfl)
      try simp only [List.getElem_toArray, List.getElem_cons_zero, List.getElem_cons_succ, Act.put, List.setIfInBounds_toArray, List.set_cons_zero, List.set_cons_succ]
      refine wpAnyH_done (by kernel_rfl) ?_ _
      refine NoPanic.normal ?_
      have HM2 := Lib.hid (HM.out.below b2)
      clear hHeld s0 s1 s2 s3 c0 b2 HM hbw hzs hb
      by_cases he : er = 0
      · subst he
        have HT3 := Lib.hid (show makeA s (j + 1) (C ++ [y]) (raws.drop (j + 1)) = makeA s 0 [] raws by rw [← HT2.out, if_pos rfl])
        clear HT2
        obtain ⟨r0, r1, r2⟩ := cells3 HM2.out.r
        have f2 := frozen_of_row _ _ 2 _ _ HM2.out.r
        have hrz := HM2.out.lt2
        have hone : ∀ u ∈ (#[strV y] : Array Value).toList, u.oneCell' = true := by intro u hu; simp at hu; subst hu; rfl
        have hbase : w1.heap.size + 1 ≤ w2.heap.size := hrz
        have hown := HM2.out.own
        have HOwn := Lib.hid hown
        clear hown
        have hcl : C.length < 1099511627776 := by rw [HCl.out]; omega
        go_wp2_with (at_builtin; refine wpList_append_new rfl _ _ 27 rfl (w1.heap.size + 1) 9 1 16 (.string ⟨#[]⟩) Tryz.underlying27 infoS rfl (by decide) (by decide) _ _ _ rfl HOwn.out #[strV y] 1 rfl rfl hone hcl hbase ?_; intro v2 w8 ho8 hw8; obtain ⟨av2, cv2, rfl⟩ := own_slice ho8; have hr8 := (hw8 w2 (Below.refl _ _)).block w1.heap.size (Nat.lt_succ_self _) |>.trans HM2.out.r; obtain ⟨q0, q1, q2⟩ := cells3 hr8; have g2 := frozen_of_row _ _ 2 _ _ hr8; have y8 := lt_of_blk hr8)
        have HW8 := Lib.hid (hw8 w2 (Below.refl _ _)); have HO8 := Lib.hid ho8; have HR8 := Lib.hid hr8
        clear hw8 ho8 hr8
        have hlt := HM2.out.lt
        go_roundw
        case rel =>
          refine ⟨j + 1, .slice av2 (C.length + 1) cv2, C ++ [y], by go_num, by omega, by rw [List.length_append, HCl.out]; rfl, HT3, ?_⟩
          refine ⟨blk_far ((HW8.out.block w.heap.size (by omega)).trans HM2.out.s) (by show w.heap.size ≠ w1.heap.size; omega), blk_far ((HW8.out.block (w.heap.size + 1) (by omega)).trans HM2.out.z) (by show w.heap.size + 1 ≠ w1.heap.size; omega), blk_set (i := 2) HR8.out, ?_, ?_, hlt, by simpa [World.setCell] using y8⟩
          · rw [List.length_append, List.flatMap_append]
            exact own_same HO8.out fun g h1 h2 => heap_setCell_other _ _ _ _ (by show g ≠ w1.heap.size; omega)
          · exact (HM2.out.b.trans (HW8.out.mono (by omega))).setCell (p := ⟨w1.heap.size, 2, none⟩) (by show w.heap.size ≤ w1.heap.size; omega) _
        case measure => simp [intOf]; omega
      · have hne2 : (er != 0) = true := by simpa using he
        have hR : R = (noRec, er) := by rw [HMK.out, ← HT2.out, if_neg he, if_neg he]
        have HRR := Lib.hid hR
        obtain ⟨z0, z1, z2⟩ := cells3 HM2.out.z
        have f0 := frozen_of_row _ _ 0 _ _ HM2.out.z; have f1 := frozen_of_row _ _ 1 _ _ HM2.out.z; have f2 := frozen_of_row _ _ 2 _ _ HM2.out.z
        have yz := lt_of_blk HM2.out.z
        clear hR he HT2
        go_wp2_with fail
        rw [HRR.out]
        exact bodyPost_row2 rfl rfl (blk_set (i := 2) (v := .slice none 0 0) (blk_set (i := 1) (v := .int .i64 0) (blk_set (i := 0) (v := .int .i64 0) HM2.out.z))) Tryz.underlying49 rfl (by kernel_rfl)
          ⟨_, rfl, ⟨_, rfl, Vec.nil _ _ _ _⟩, ((HM2.out.b.setCell (p := ⟨w.heap.size + 1, 0, none⟩) (Nat.le_succ _) _).setCell (p := ⟨w.heap.size + 1, 1, none⟩) (Nat.le_succ _) _).setCell (p := ⟨w.heap.size + 1, 2, none⟩) (Nat.le_succ _) _⟩
    · have hq : decide ((j : Int) < raws.length) = false := by simp; omega
      obtain rfl : j = raws.length := by omega
      have hT := HT.out
      rw [List.drop_length, makeA] at hT
      have hR : R = (⟨id, ver, C⟩, 0) := by rw [HMK.out, ← hT, if_pos rfl]
      have HRR := Lib.hid hR
      have hlt := HM.out.lt
      obtain ⟨z0, z1, z2⟩ := cells3 HM.out.z
      obtain ⟨r0, r1, r2⟩ := cells3 HM.out.r
      have f0 := frozen_of_row _ _ 0 _ _ HM.out.z; have f1 := frozen_of_row _ _ 1 _ _ HM.out.z; have f2 := frozen_of_row _ _ 2 _ _ HM.out.z
      have yz := lt_of_blk HM.out.z
      obtain ⟨aC, cC, hvC⟩ := own_slice HM.out.own
      subst hvC
      clear hR hT HT s0 s1 s2 s3
      go_wp2_with fail
      rw [HRR.out]
      refine bodyPost_row2 rfl rfl (blk_set (i := 2) (v := .slice aC C.length cC) (blk_set (i := 1) (v := .int .i64 ver) (blk_set (i := 0) (v := .int .i64 id) HM.out.z))) Tryz.underlying49 rfl (by kernel_rfl)
        ⟨_, rfl, ⟨_, rfl, ?_⟩, ((HM.out.b.setCell (p := ⟨w.heap.size + 1, 0, none⟩) (Nat.le_succ _) _).setCell (p := ⟨w.heap.size + 1, 1, none⟩) (Nat.le_succ _) _).setCell (p := ⟨w.heap.size + 1, 2, none⟩) (Nat.le_succ _) _⟩
      have hown := own_same (w' := ((wr.setCell ⟨w.heap.size + 1, 0, none⟩ (.int .i64 id)).setCell ⟨w.heap.size + 1, 1, none⟩ (.int .i64 ver)).setCell ⟨w.heap.size + 1, 2, none⟩ (.slice aC C.length cC)) HM.out.own fun g h1 h2 => ((heap_setCell_other _ _ _ _ (by show g ≠ w.heap.size + 1; omega)).trans (heap_setCell_other _ _ _ _ (by show g ≠ w.heap.size + 1; omega))).trans (heap_setCell_other _ _ _ _ (by show g ≠ w.heap.size + 1; omega))
      exact Vec.owns (k := 1) (enc := encS) (fun _ => rfl) hown (fun b h1 _ => by show w.heap.size ≤ b; omega)
end Go.Proofs.YtmakailcpkogdaaGreatDoor
end
section
/- The deck deals a date: a year from 1800 to 2199, a month from 0 to 13, a day from 1 to 32. -/
set_option linter.unusedSimpArgs false
set_option linter.unusedVariables false
namespace Go.Proofs.YtmakailcpkogdaaGreatDoor
open Go.RowKit
def DatePost (D : Nat) (w : World) (e : Ending) (w' : World) : Prop :=
  ∃ y m d : Int, e = .returned (.agg #[.int .i64 y, .int .i64 m, .int .i64 d]) ∧ (1800 ≤ y ∧ y ≤ 2199 ∧ 0 ≤ m ∧ m ≤ 13 ∧ 1 ≤ d ∧ d ≤ 32) ∧ Moved D w w'
set_option maxHeartbeats 4000000 in
theorem date_any (D : Nat) (w : World) (h : DeckAt w D) :
    Calls Tryz.prog 22 #[.pointer (some ⟨D, 0, none⟩)] w (DatePost D w) := by
  have hlt := h.lt
  have M0 := Lib.hid ((Moved.start h).alloc (.cells #[.int .i64 0, .int .i64 0, .int .i64 0] 45))
  clear h
  go_enter Tryz.func22, Tryz.ntmps22
  go_wp2_with fail
  refine (next_any D _ _ M0.out.deck (by omega) (by omega)).mono ?_
  rintro e w1 ⟨y, rfl, y0, y1, m1⟩
  have R1 := Lib.hid (m1.blk (by omega) (blk_new rfl)); have M1 := Lib.hid (M0.out.trans m1); clear m1 M0
  go_wp2_with fail
  refine (next_any D _ _ M1.out.deck (by omega) (by omega)).mono ?_
  rintro e w2 ⟨m, rfl, m0, m1, m2⟩
  have R2 := Lib.hid (m2.blk (by omega) R1.out); have M2 := Lib.hid (M1.out.trans m2); clear m2 M1 R1
  go_wp2_with fail
  refine (next_any D _ _ M2.out.deck (by omega) (by omega)).mono ?_
  rintro e w3 ⟨d, rfl, d0, d1, m3⟩
  have R3 := Lib.hid (m3.blk (by omega) R2.out); have M3 := Lib.hid ((M2.out.trans m3).alloc (.cells #[.int .i64 (1900 + y), .int .i64 (1 + m), .int .i64 (1 + d)] 45))
  have l3 := m3.deck.lt
  have hz3 : w.heap.size < w3.heap.size := lt_of_blk R3.out
  clear m3 M2 R2
  go_wp2_with fail
  refine (next_any D _ _ M3.out.deck (by omega) (by omega)).mono ?_
  rintro e w4 ⟨k, rfl, k0, k1, m4⟩
  have R4 := Lib.hid (m4.blk (by omega) (blk_old R3.out)); have X4 := Lib.hid (m4.blk (by omega) (blk_new rfl)); have M4 := Lib.hid (M3.out.trans m4)
  have hz4 : w3.heap.size < w4.heap.size := lt_of_blk X4.out
  clear m4 M3 R3
  have neX : w.heap.size ≠ w3.heap.size := by omega
  obtain ⟨x0, x1, x2⟩ := cells3 X4.out
  obtain ⟨u0, u1, u2⟩ := free3 X4.out
  obtain ⟨r0, r1, r2⟩ := cells3 R4.out
  obtain ⟨v0, v1, v2⟩ := free3 R4.out
  go_wp2_with fail
  · refine (next_any D _ _ M4.out.deck (by omega) (by omega)).mono ?_
    rintro e w5 ⟨j, rfl, j0, j1, m5⟩
    clear x0 x1 x2 u0 u1 u2 r0 r1 r2 v0 v1 v2
    have R5 := Lib.hid (m5.blk (by omega) R4.out); have X5 := Lib.hid (m5.blk (by omega) X4.out); have M5 := Lib.hid (M4.out.trans m5)
    clear m5
    obtain ⟨x0, x1, x2⟩ := cells3 X5.out
    obtain ⟨u0, u1, u2⟩ := free3 X5.out
    obtain ⟨r0, r1, r2⟩ := cells3 R5.out
    obtain ⟨v0, v1, v2⟩ := free3 R5.out
    go_wp2_with fail
    exact bodyPost_row1 rfl rfl (blk_set (blk_set (blk_set (blk_far (blk_far R5.out (by simp; omega)) (by simp; omega))))) Tryz.underlying45 rfl (by kernel_rfl)
      ⟨_, _, _, rfl, by omega, ((((M5.out.set (by simp; omega) _).set (by simp; omega) _).set (by simp) _).set (by simp) _).set (by simp) _⟩
  · refine (next_any D _ _ (M4.out.alloc _).deck (by omega) (by omega)).mono ?_
    rintro e w5 ⟨j, rfl, j0, j1, m5⟩
    clear x0 x1 x2 u0 u1 u2 r0 r1 r2 v0 v1 v2
    have R5 := Lib.hid (m5.blk (by omega) (blk_old R4.out)); have X5 := Lib.hid (m5.blk (by omega) (blk_old X4.out)); have M5 := Lib.hid ((M4.out.alloc _).trans m5)
    have C5 := m5.blk (k := w4.heap.size) (by omega) (blk_new rfl)
    clear m5
    obtain ⟨x0, x1, x2⟩ := cells3 X5.out
    obtain ⟨u0, u1, u2⟩ := free3 X5.out
    obtain ⟨r0, r1, r2⟩ := cells3 R5.out
    obtain ⟨v0, v1, v2⟩ := free3 R5.out
    have hc : ∃ q : Int, w5.cell? ⟨w4.heap.size, j.toNat, none⟩ = some (.int .i64 q) ∧ 1800 ≤ q ∧ q ≤ 2199 := by
      have : j = 0 ∨ j = 1 ∨ j = 2 ∨ j = 3 := by omega
      rcases this with rfl | rfl | rfl | rfl <;> exact ⟨_, (cell_of_row _ _ _ _ _ _ C5).trans rfl, by omega, by omega⟩
    clear C5
    obtain ⟨q, hc, q0, q1⟩ := hc
    go_wp2_with fail
    exact bodyPost_row1 rfl rfl (blk_set (blk_set (blk_set (blk_far R5.out (by simp; omega))))) Tryz.underlying45 rfl (by kernel_rfl)
      ⟨_, _, _, rfl, by omega, (((M5.out.set (by simp; omega) _).set (by simp) _).set (by simp) _).set (by simp) _⟩
  · refine (next_any D _ _ M4.out.deck (by omega) (by omega)).mono ?_
    rintro e w5 ⟨j, rfl, j0, j1, m5⟩
    clear x0 x1 x2 u0 u1 u2 r0 r1 r2 v0 v1 v2
    have R5 := Lib.hid (m5.blk (by omega) R4.out); have X5 := Lib.hid (m5.blk (by omega) X4.out); have M5 := Lib.hid (M4.out.trans m5)
    clear m5
    obtain ⟨x0, x1, x2⟩ := cells3 X5.out
    obtain ⟨u0, u1, u2⟩ := free3 X5.out
    obtain ⟨r0, r1, r2⟩ := cells3 R5.out
    obtain ⟨v0, v1, v2⟩ := free3 R5.out
    go_wp2_with fail
    exact bodyPost_row1 rfl rfl (blk_set (blk_set (blk_set (blk_far R5.out (by simp; omega))))) Tryz.underlying45 rfl (by kernel_rfl)
      ⟨_, _, _, rfl, by omega, (((M5.out.set (by simp; omega) _).set (by simp) _).set (by simp) _).set (by simp) _⟩
  · refine (next_any D _ _ M4.out.deck (by omega) (by omega)).mono ?_
    rintro e w5 ⟨j, rfl, j0, j1, m5⟩
    clear x0 x1 x2 u0 u1 u2 r0 r1 r2 v0 v1 v2
    have R5 := Lib.hid (m5.blk (by omega) R4.out); have X5 := Lib.hid (m5.blk (by omega) X4.out); have M5 := Lib.hid (M4.out.trans m5)
    clear m5
    obtain ⟨x0, x1, x2⟩ := cells3 X5.out
    obtain ⟨u0, u1, u2⟩ := free3 X5.out
    obtain ⟨r0, r1, r2⟩ := cells3 R5.out
    obtain ⟨v0, v1, v2⟩ := free3 R5.out
    go_wp2_with fail
    exact bodyPost_row1 rfl rfl (blk_set (blk_set (blk_set (blk_far R5.out (by simp; omega))))) Tryz.underlying45 rfl (by kernel_rfl)
      ⟨_, _, _, rfl, by omega, (((M5.out.set (by simp; omega) _).set (by simp) _).set (by simp) _).set (by simp) _⟩
  · exact bodyPost_row1 rfl rfl (blk_set (blk_set (blk_set R4.out))) Tryz.underlying45 rfl (by kernel_rfl)
      ⟨_, _, _, rfl, by omega, ((M4.out.set (by simp) _).set (by simp) _).set (by simp) _⟩
theorem deck_law {w w1 : World} {a : Option Addr} {n cap : Nat} {zs : List Int} (hn : n ≤ 400) (hr : IsRow .i64 w a n cap zs) (hb : Below w.heap.size w w1) :
    DeckAt (w1.alloc (.cells #[.slice a n cap, .int .i64 0, .int .u64 11400714819323198485] 115)) w1.heap.size :=
  deck_new hn fun h0 => by
    obtain ⟨b, off, e1, e2, e3⟩ := hr.read h0
    exact ⟨b, off, e1, Nat.lt_of_lt_of_le e2 hb.size, fun i hi => by obtain ⟨x, hx⟩ := e3 i hi; exact ⟨x, (hb.cell (p := ⟨b, off + i, none⟩) e2).trans hx⟩⟩
end Go.Proofs.YtmakailcpkogdaaGreatDoor
end
section
/- What the laws that deal a schema share: where they stand behind it. -/
set_option linter.unusedSimpArgs false
set_option linter.unusedVariables false
set_option maxRecDepth 100000
namespace Go.Proofs.YtmakailcpkogdaaGreatDoor
open Go.RowKit Cal
attribute [local go_sem] toList_mk mk_size str_append
theorem SchemaAt.moved {D : Nat} {w w' : World} {S : Nat → Prop} {vf vt vn vs : Value} {s : SchemaL} (h : SchemaAt w S vf vt vn vs s) (hS : ∀ b, S b → b ≠ D) (m : Moved D w w') : SchemaAt w' S vf vt vn vs s :=
  have mv : ∀ b, b < w.heap.size → S b → w'.heap[b]? = w.heap[b]? ∧ S b := fun b hb hs => ⟨m.grown.block b hb (by have := hS b hs; simp; omega), hs⟩
  ⟨h.1.move m.size mv, h.2.1.move m.size mv, h.2.2.1.move m.size mv, h.2.2.2.move m.size mv⟩
theorem fields_cell {w : World} {S : Nat → Prop} {a : Option Addr} {n cap : Nat} {F : List F2} (h : Vec w S 2 encF (.slice a n cap) F) (h0 : 0 < F.length) : ∃ b off, a = some ⟨b, off, none⟩ ∧ S b ∧ b < w.heap.size ∧ ∀ j, j < F.length → w.cell? ⟨b, off + j * 2 + 1, none⟩ = some (.int .i64 (F.getD j default).2) := by
  obtain ⟨b, off, e, hS, hb, hc⟩ := vec_cell2 h h0
  exact ⟨b, off, e, hS, hb, fun j hj => hc j hj 1 _ rfl⟩
/-- where a law stands that has dealt a schema: the deck in block D, the schema in block y, the kind of a field in cell o of block b -/
structure Drawn (D : Nat) (w : World) (y : Nat) (S : Nat → Prop) (vf vt vn vs : Value) (s : SchemaL) (b o : Nat) (kf : Int) (wr : World) : Prop where
  m : Moved D w wr
  x : wr.heap[y]? = some (.cells #[vf, vt, vn, vs] 36 (0, 0))
  s : SchemaAt wr S vf vt vn vs s
  c : wr.cell? ⟨b, o, none⟩ = some (.int .i64 kf)
  ne : ∀ b, S b → b ≠ D
  yD : y ≠ D
  bD : b ≠ D
theorem Drawn.moved {D : Nat} {w : World} {y : Nat} {S : Nat → Prop} {vf vt vn vs : Value} {s : SchemaL} {b o : Nat} {kf : Int} {wr wd : World} (h : Drawn D w y S vf vt vn vs s b o kf wr) (m : Moved D wr wd) : Drawn D w y S vf vt vn vs s b o kf wd :=
  ⟨h.m.trans m, m.blk h.yD h.x, h.s.moved h.ne m, (World.cell?_of_block (w := wr) (a := ⟨b, o, none⟩) (m.grown.block b (World.block_lt_of_cell? _ ⟨b, o, none⟩ h.c) (by have := h.bD; simp; omega))).trans h.c, h.ne, h.yD, h.bD⟩
theorem Drawn.below {D : Nat} {w : World} {y : Nat} {S : Nat → Prop} {vf vt vn vs : Value} {s : SchemaL} {b o : Nat} {kf : Int} {wr wd : World} (h : Drawn D w y S vf vt vn vs s b o kf wr) (hb : Below wr.heap.size wr wd) : Drawn D w y S vf vt vn vs s b o kf wd :=
  h.moved ((Moved.start h.m.deck).below hb)
theorem Drawn.held {D : Nat} {w : World} {y : Nat} {S : Nat → Prop} {vf vt vn vs : Value} {s : SchemaL} {b o : Nat} {kf : Int} {wr : World} (h : Drawn D w y S vf vt vn vs s b o kf wr) :
    wr.cell? ⟨y, 0, none⟩ = some vf ∧ wr.cell? ⟨y, 1, none⟩ = some vt ∧ wr.cell? ⟨y, 2, none⟩ = some vn ∧ wr.cell? ⟨y, 3, none⟩ = some vs ∧ wr.cell? ⟨b, o, none⟩ = some (.int .i64 kf) := by
  obtain ⟨p0, p1, p2, p3⟩ := cells4 h.x
  exact ⟨p0, p1, p2, p3, h.c⟩
end Go.Proofs.YtmakailcpkogdaaGreatDoor
end
section
/- recordlinkmake: Record: some record in normal form. -/
set_option linter.unusedSimpArgs false
set_option linter.unusedVariables false
set_option maxRecDepth 100000
namespace Go.Proofs.YtmakailcpkogdaaGreatDoor
open Go.RowKit Cal
attribute [local go_sem] toList_mk mk_size str_append
theorem makeA_short (s : SchemaL) (raws : List (List UInt8)) : ∀ i C, (∀ x ∈ C, x.length ≤ 64) → ∀ x ∈ (makeA s i C raws).1, x.length ≤ 64 := by
  induction raws with
  | nil => intro i C h; simpa [makeA] using h
  | cons y l ih =>
    intro i C h
    unfold makeA
    split
    · refine ih _ _ fun x hx => ?_
      rcases List.mem_append.1 hx with h1 | h1
      · exact h x h1
      · simp at h1; subst h1; exact (valueN_form s i y).1
    · intro x hx; simp at hx
theorem Vec.far {α : Type} {w : World} {S : Nat → Prop} {k : Nat} {enc : α → List Value} {v : Value} {L : List α} (h : Vec w S k enc v L) {a : Addr} {u : Value} (hn : ∀ b, S b → b ≠ a.block) : Vec (w.setCell a u) S k enc v L :=
  h.move (by simp [World.setCell]) fun b _ hs => ⟨heap_setCell_other _ _ _ _ (hn b hs), hs⟩
theorem oneS : ∀ x : List UInt8, ∀ u ∈ encS x, u.oneCell' = true := by intro x u hu; simp [encS] at hu; subst hu; rfl
theorem rec_made {s : SchemaL} {id ver : Int} {raws : List (List UInt8)} {r : RecL} (h : makeN s id ver raws = (r, 0)) : r.id = id ∧ checkN s r = 0 ∧ ∀ x ∈ r.vals, x.length ≤ 64 := by
  obtain ⟨h1, h2, h3, h4, h5, _, h7, h8, _⟩ := makeN_ok h
  refine ⟨h2, checkN_of h1 (by rw [h2, h3]; exact h4) h5 h7, ?_⟩
  rw [h8]
  exact makeA_short s raws 0 [] (by simp)
theorem rec_none {s : SchemaL} {id : Int} (h : checkS s = 0) (h1 : 1 ≤ id) (h2 : id ≤ 1048576) : checkN s ⟨id, 1, List.replicate s.fields.length []⟩ = 0 :=
  checkN_of h (by simp [numberedB, h1, h2]) (by simp) (none_norm h)
theorem made_strings (m : Nat) : madeCells #[.string ⟨#[]⟩] m = ((List.replicate m ([] : List UInt8)).flatMap encS).toArray := by
  apply Array.ext'
  have : ∀ k, (List.replicate k ([] : List UInt8)).flatMap encS = List.replicate k (.string ⟨#[]⟩) := by
    intro k; induction k with
    | zero => rfl
    | succ k ih => rw [List.replicate_succ, List.flatMap_cons, ih]; rfl
  rw [this]
  unfold madeCells
  rw [Array.toList_map, Array.toList_range]
  refine List.ext_getElem (by simp) fun i h1 h2 => ?_
  simp [Nat.mod_one]
def RecordPost (D : Nat) (s : SchemaL) (id : Int) (w : World) (e : Ending) (w' : World) : Prop := ∃ v r, e = .returned v ∧ RecVal w' (fun b => w.heap.size ≤ b) v r ∧ r.id = id ∧ checkN s r = 0 ∧ (∀ x ∈ r.vals, x.length ≤ 64) ∧ Moved D w w'
set_option maxHeartbeats 8000000 in
theorem record_deal (D : Nat) (S : Nat → Prop) (vf vt vn vs : Value) (s : SchemaL) (id : Int) (w : World) (h : DeckAt w D) (hs : SchemaAt w S vf vt vn vs s) (hS : ∀ b, S b → b ≠ D) (hd : SchemaD s) (h1 : 1 ≤ id) (h2 : id ≤ 1048576) :
    Calls Tryz.prog 30 #[.pointer (some ⟨D, 0, none⟩), .agg #[vf, vt, vn, vs], .int .i64 id] w (RecordPost D s id w) := by
  have zD := h.lt
  have M0 := Lib.hid (Moved.start h); clear h
  obtain ⟨af, cf, rfl⟩ := hs.1.slice
  have h5 := hd.fields.len
  have HS := Lib.hid hs; have HSD := Lib.hid hd; have HSne := Lib.hid hS
  clear hs hd hS
  go_enter Tryz.func30, Tryz.ntmps30
  go_wp2_with fail
  refine wp_world (fun W hW => ?_)
  have hm : Moved D w W := by rw [hW]; exact (M0.out.alloc _).alloc _
  have hb0 : Below w.heap.size w W := by rw [hW]; exact ((Below.refl w.heap.size w).alloc (Nat.le_refl _) _).alloc (by simp) _
  have hs0 : W.heap[w.heap.size]? = some (.cells #[.slice af s.fields.length cf, vt, vn, vs] 36 (0, 0)) := by rw [hW]; exact blk_old (blk_new rfl)
  have hz0 : W.heap[w.heap.size + 1]? = some (.cells #[.int .i64 0, .int .i64 0, .slice none 0 0] 49 (0, 0)) := by rw [hW]; exact blk_new (by simp)
  have hzW : W.heap.size = w.heap.size + 2 := by rw [hW]; simp
  clear hW
  have HM := Lib.hid hm; have HS0 := Lib.hid hs0; have HZ0 := Lib.hid hz0; have HSW := Lib.hid (HS.out.below hb0); have HZW := Lib.hid hzW
  clear hm hs0 hz0 hb0 hzW
  obtain ⟨n, hn⟩ : ∃ n, s.fields.length = n := ⟨_, rfl⟩
  rw [hn] at HS0 HSW h5 ⊢
  have HN := Lib.hid hn; clear hn
  go_loopw [7, 8] (fun v i wr => ∃ (j : Nat) (L : List (List UInt8)), i = .int .i64 j ∧ j ≤ n ∧ L.length = j ∧ (∀ x ∈ L, x.length ≤ 64) ∧ OwnM D 9 1 encS W v L wr) (fun _ i _ => n - (intOf i).toNat)
  case atStart => exact ⟨0, [], rfl, by omega, rfl, by simp, ⟨by simp, .inl ⟨rfl, rfl⟩⟩, Moved.start HM.out.deck⟩
  case round =>
    obtain ⟨j, L, rfl, hj, hL, hsh, ho⟩ := hrel
    have HO := Lib.hid ho; have HL := Lib.hid hL; have HSh := Lib.hid hsh
    have hsr := ho.2.blk (k := w.heap.size) (by omega) HS0.out
    have HSR := Lib.hid hsr
    obtain ⟨s0, s1, s2, s3⟩ := cellsS hsr
    have hzs := lt_of_blk hsr
    clear ho hL hsh hsr
    by_cases hlt : j < n
    · have hq : decide ((j : Int) < n) = true := by simp; omega
      have hjs : j < s.fields.length := by rw [HN.out]; exact hlt
      obtain ⟨b, off, eaf, hSb, hb, hc⟩ := fields_cell HSW.out.1 (by omega)
      cases eaf
      have hbD := HSne.out b hSb
      have kc := (World.cell?_of_block (w := W) (a := ⟨b, off + j * 2 + 1, none⟩) (HO.out.2.grown.block b hb (by simp; omega))).trans (hc j hjs)
      obtain ⟨kf, hkf⟩ : ∃ kf, (s.fields.getD j default).2 = kf := ⟨_, rfl⟩
      rw [hkf] at kc
      have hjn : (j : Int) < (n : Int) := by omega
      clear hc hkf hjs hSb
      go_wp2_with fail
      refine (raw_deal D kf _ HO.out.2.deck).mono ?_
      rintro e w1 ⟨x, rfl, hx, mv⟩
      have HX := Lib.hid hx
      have HO1 := Lib.hid (HO.out.moved (mv.alloc (.cells #[strV x] 9)))
      have HR1 := Lib.hid (show Reads (w1.alloc (.cells #[strV x] 9)) 1 (.slice (some ⟨w1.heap.size, 0, none⟩) 1 1) [x].length ([x].flatMap encS) from reads_block (t := 9) (fr := (0, 0)) (blk_new rfl) rfl)
      have hsh2 : ∀ y ∈ L ++ [x], y.length ≤ 64 := by
        intro y hy
        rcases List.mem_append.1 hy with h | h
        · exact HSh.out y h
        · simp at h; subst h; exact hx
      have HSh2 := Lib.hid hsh2
      have hcn : L.length + [x].length ≤ 1000000000 := by rw [HL.out]; simp only [List.length_cons, List.length_nil]; omega
      clear hx mv hsh2
      go_wp2_with (at_builtin; refine wpList_append_m rfl (.tmp 18) (.tmp 27) 27 rfl D 9 (.string ⟨#[]⟩) 1 16 encS (fun _ => rfl) oneS Tryz.underlying27 infoS rfl (by decide) (by decide) (wA := W) (v := u7) (A := L) (B := [x]) rfl HO1.out rfl HR1.out hcn ?_; intro v4 w4 ho4 hk4)
      go_roundw
      case rel => exact ⟨j + 1, L ++ [x], by go_num, by omega, by rw [List.length_append, HL.out]; rfl, HSh2.out, ho4⟩
      case measure => simp [intOf]; omega
    · have hq : decide ((j : Int) < n) = false := by simp; omega
      obtain rfl : j = n := by omega
      have HV := Lib.hid (Vec.owns (k := 1) (enc := encS) (S := fun b => W.heap.size ≤ b) (fun _ => rfl) HO.out.1 (fun b hb _ => hb))
      obtain ⟨aL, cL, hvL⟩ := own_slice HO.out.1
      subst hvL
      have HSr := Lib.hid (HSW.out.moved HSne.out HO.out.2)
      have hneD : w.heap.size ≠ D := by omega
      have mD : Moved D wr wr.drew := (Moved.start HO.out.2.deck).drew
      go_wp2_with fail
      go_cut [9, 10] (fun s9 s10 wx => ∃ (rb : Nat) (er y : Int) (sv : Value) (r : RecL), s9 = .pointer (some ⟨rb, 0, none⟩) ∧ s10 = .int .i64 er ∧ wx.heap[rb]? = some (.cells #[.int .i64 r.id, .int .i64 r.ver, sv] 49 (0, 0)) ∧ Vec wx (fun b => w.heap.size + 2 ≤ b) 1 encS sv r.vals ∧ Hid (makeN s id (1 + y) L = (r, er)) ∧ 0 ≤ y ∧ y < 3 ∧ Moved D wr wx ∧ wr.heap.size ≤ rb)
      case first =>
        refine wp_region_noPanic ?_
        refine wp_region_k (by kernel_rfl) (fun w' => w'.cell? ⟨w.heap.size, 0, none⟩ = some (.slice af j cf) ∧ w'.cell? ⟨w.heap.size, 1, none⟩ = some vt ∧ w'.cell? ⟨w.heap.size, 2, none⟩ = some vn ∧ w'.cell? ⟨w.heap.size, 3, none⟩ = some vs) 12 (⟨s0, s1, s2, s3⟩) (fun hHeld => ?_)
        refine wpAnyK_take (i := 0) (v := ?_) rfl (by kernel_rfl) (by kernel_rfl) (by kernel_rfl) (by kernel_rfl) (fun _ _ _ h => h) (Or.inl ⟨by rfl, ?_⟩) (by assumption) ?_
        rotate_left 1
        · (intro wS hSw; (try dsimp only at hSw); go_simp; try with_reducible rfl)
        try simp only [List.getElem_toArray, List.getElem_cons_zero, List.getElem_cons_succ, Act.put, List.setIfInBounds_toArray, List.set_cons_zero, List.set_cons_succ]
        refine wpAnyK_take (i := 1) (v := ?_) rfl (by kernel_rfl) (by kernel_rfl) (by kernel_rfl) (by kernel_rfl) (fun _ _ _ h => h) (Or.inl ⟨by rfl, ?_⟩) (by assumption) ?_
        rotate_left 1
        · (intro wS hSw; (try dsimp only at hSw); go_simp; try with_reducible rfl)
        try simp only [List.getElem_toArray, List.getElem_cons_zero, List.getElem_cons_succ, Act.put, List.setIfInBounds_toArray, List.set_cons_zero, List.set_cons_succ]
        refine wpAnyK_take (i := 2) (v := ?_) rfl (by kernel_rfl) (by kernel_rfl) (by kernel_rfl) (by kernel_rfl) (fun _ _ _ h => h) (Or.inl ⟨by rfl, ?_⟩) (by assumption) ?_
        rotate_left 1
        · (intro wS hSw; (try dsimp only at hSw); go_simp; try with_reducible rfl)
        try simp only [List.getElem_toArray, List.getElem_cons_zero, List.getElem_cons_succ, Act.put, List.setIfInBounds_toArray, List.set_cons_zero, List.set_cons_succ]
        refine wpAnyK_take (i := 5) (v := ?_) rfl (by kernel_rfl) (by kernel_rfl) (by kernel_rfl) (by kernel_rfl) (fun _ _ _ h => h) (Or.inl ⟨by rfl, ?_⟩) (by assumption) ?_
        rotate_left 1
        · (intro wS hSw; (try dsimp only at hSw); go_simp; try with_reducible rfl)
        try simp only [List.getElem_toArray, List.getElem_cons_zero, List.getElem_cons_succ, Act.put, List.setIfInBounds_toArray, List.set_cons_zero, List.set_cons_succ]
        refine wpAnyK_ready (rs := [3, 10]) (by kernel_rfl) (by simp) ?_
        refine AllReadyK.cons rfl (fun K hK => ?_) (AllReadyK.cons rfl (fun K hK => ?_) AllReadyK.nil)
        focus
          go_simp
          refine (next_any D _ 3 mD.deck (by omega) (by omega)).mono ?_
          rintro e W1 ⟨y, rfl, y0, y1, mv⟩
          have m1 := mD.trans mv
          clear mv
          have hwy : IntKind.i64.wrap (1 + y) = 1 + y := by rw [IntKind.wrap_i64]; omega
          refine shutK hK (⟨(cellsS (m1.blk (k := w.heap.size) hneD HSR.out)).1, (cellsS (m1.blk (k := w.heap.size) hneD HSR.out)).2.1, (cellsS (m1.blk (k := w.heap.size) hneD HSR.out)).2.2.1, (cellsS (m1.blk (k := w.heap.size) hneD HSR.out)).2.2.2⟩) (fun hHeld => ?_)
          clear hK K
          try simp only [List.getElem_toArray, List.getElem_cons_zero, List.getElem_cons_succ, Act.put, List.setIfInBounds_toArray, List.set_cons_zero, List.set_cons_succ]
          refine wpAnyK_take (i := 4) (v := ?_) rfl (by kernel_rfl) (by kernel_rfl) (by kernel_rfl) (by kernel_rfl) (fun _ _ _ h => h) (Or.inl ⟨by rfl, ?_⟩) (by assumption) ?_
          rotate_left 1
          · (intro wS hSw; (try dsimp only at hSw); go_simp; try with_reducible rfl)
          try simp only [List.getElem_toArray, List.getElem_cons_zero, List.getElem_cons_succ, Act.put, List.setIfInBounds_toArray, List.set_cons_zero, List.set_cons_succ]
          refine wpAnyK_ready (rs := [6, 10]) (by kernel_rfl) (by simp) ?_
          refine AllReadyK.cons rfl (fun K hK => ?_) (AllReadyK.cons rfl (fun K hK => ?_) AllReadyK.nil)
          focus
            go_simp
            have hnum : numberedB id (1 + y) = true := by simp [numberedB]; omega
            obtain ⟨⟨r, er⟩, hR⟩ : ∃ R, makeN s id (1 + y) L = R := ⟨_, rfl⟩
            have hmk := rmake_yes S _ (.slice af j cf) vt vn vs s id (1 + y) L (.slice aL L.length cL) _ (HSr.out.moved HSne.out m1) (HV.out.move (S' := fun b => W.heap.size ≤ b) m1.size fun b hb hs => ⟨m1.grown.block b hb (by have hs' : W.heap.size ≤ b := hs; have h3 := HZW.out; have h4 := zD; simp; omega), hs⟩) HSD.out.check (HL.out.trans HN.out.symm) hnum (fun x hx => by have := HSh.out x hx; omega)
            rw [hR] at hmk
            refine hmk.mono ?_
            rintro e W2 ⟨_, rfl, ⟨sv, rfl, hvv⟩, hb⟩
            have m2 := m1.below hb
            have hvv2 := hvv.move (w' := W2) (S' := fun b => w.heap.size + 2 ≤ b) (Nat.le_refl _) fun b hb' hs => ⟨rfl, by have h1 := m1.size; have h2 := HO.out.2.size; have h3 := HZW.out; have hs' := hs; omega⟩
            obtain ⟨asv, csv, esv⟩ := hvv2.slice; subst esv
            have HRR := Lib.hid hR
            clear hb hvv hmk hR
            refine shutK hK (⟨(cellsS (m2.blk (k := w.heap.size) hneD HSR.out)).1, (cellsS (m2.blk (k := w.heap.size) hneD HSR.out)).2.1, (cellsS (m2.blk (k := w.heap.size) hneD HSR.out)).2.2.1, (cellsS (m2.blk (k := w.heap.size) hneD HSR.out)).2.2.2⟩) (fun hHeld => ?_)
            clear hK K
            try simp only [List.getElem_toArray, List.getElem_cons_zero, List.getElem_cons_succ, Act.put, List.setIfInBounds_toArray, List.set_cons_zero, List.set_cons_succ]
            refine wpAnyK_take (i := 7) (v := ?_) rfl (by kernel_rfl) (by kernel_rfl) (by kernel_rfl) (by kernel_rfl) (fun _ _ _ h => h) (Or.inl ⟨by rfl, ?_⟩) (by assumption) ?_
            rotate_left 1
            · (intro wS hSw; (try dsimp only at hSw); go_simp; try with_reducible rfl)
            try simp only [List.getElem_toArray, List.getElem_cons_zero, List.getElem_cons_succ, Act.put, List.setIfInBounds_toArray, List.set_cons_zero, List.set_cons_succ]
            refine wpAnyK_take (i := 8) (v := ?_) rfl (by kernel_rfl) (by kernel_rfl) (by kernel_rfl) (by kernel_rfl) (fun _ _ _ h => h) (Or.inl ⟨by rfl, ?_⟩) (by assumption) ?_
            rotate_left 1
            · (intro wS hSw; (try dsimp only at hSw); go_simp; try with_reducible rfl)
            try simp only [List.getElem_toArray, List.getElem_cons_zero, List.getElem_cons_succ, Act.put, List.setIfInBounds_toArray, List.set_cons_zero, List.set_cons_succ]
            refine wpAnyK_take (i := 9) (v := ?_) rfl (by kernel_rfl) (by kernel_rfl) (by kernel_rfl) (by kernel_rfl) (fun _ _ _ h => h) (Or.inl ⟨by rfl, ?_⟩) (by assumption) ?_
            rotate_left 1
            · (intro wS hSw; (try dsimp only at hSw); go_simp; try with_reducible rfl)
            try simp only [List.getElem_toArray, List.getElem_cons_zero, List.getElem_cons_succ, Act.put, List.setIfInBounds_toArray, List.set_cons_zero, List.set_cons_succ]
            refine wpAnyK_ready (rs := [10]) (by kernel_rfl) (by simp) ?_
            refine AllReadyK.cons rfl (fun K hK => ?_) AllReadyK.nil
            go_simp
            refine shutK hK (⟨(cellsS ((m2.alloc _).blk (k := w.heap.size) hneD HSR.out)).1, (cellsS ((m2.alloc _).blk (k := w.heap.size) hneD HSR.out)).2.1, (cellsS ((m2.alloc _).blk (k := w.heap.size) hneD HSR.out)).2.2.1, (cellsS ((m2.alloc _).blk (k := w.heap.size) hneD HSR.out)).2.2.2⟩) (fun hHeld => ?_)
            clear hK K
            try simp only [List.getElem_toArray, List.getElem_cons_zero, List.getElem_cons_succ, Act.put, List.setIfInBounds_toArray, List.set_cons_zero, List.set_cons_succ]
            refine wpk_name (fun W3 hW3 => ?_)
            have m3 : Moved D wr W3 := by rw [hW3]; exact m2.alloc (.cells #[.int .i64 0, .int .i64 0, .slice none 0 0] 49)
            have gb : W3.heap[W2.heap.size]? = some (.cells #[.int .i64 0, .int .i64 0, .slice none 0 0] 49 (0, 0)) := by rw [hW3]; exact blk_new rfl
            have hrb : wr.heap.size ≤ W2.heap.size := m2.size
            have HX3 : ∀ b, b < W2.heap.size → W3.heap[b]? = W2.heap[b]? := by rw [hW3]; exact fun b hb => heap_alloc_old _ _ hb
            have hnrb : w.heap.size ≠ W2.heap.size := by have := hzs; omega
            clear hW3 hHeld
            have hHeld : W3.cell? ⟨w.heap.size, 0, none⟩ = some (.slice af j cf) ∧ W3.cell? ⟨w.heap.size, 1, none⟩ = some vt ∧ W3.cell? ⟨w.heap.size, 2, none⟩ = some vn ∧ W3.cell? ⟨w.heap.size, 3, none⟩ = some vs := ⟨(cellsS (m3.blk (k := w.heap.size) hneD HSR.out)).1, (cellsS (m3.blk (k := w.heap.size) hneD HSR.out)).2.1, (cellsS (m3.blk (k := w.heap.size) hneD HSR.out)).2.2.1, (cellsS (m3.blk (k := w.heap.size) hneD HSR.out)).2.2.2⟩
            have hvv3 := hvv2.move (w' := W3) (S' := fun b => w.heap.size + 2 ≤ b ∧ b ≠ W2.heap.size) (by have h9 := lt_of_blk gb; omega) fun b hb' hs => ⟨HX3 b hb', hs, by omega⟩
          rotate_left 1
          focus
            go_simp
            refine shutK hK (⟨(cellsS ((m1.alloc _).blk (k := w.heap.size) hneD HSR.out)).1, (cellsS ((m1.alloc _).blk (k := w.heap.size) hneD HSR.out)).2.1, (cellsS ((m1.alloc _).blk (k := w.heap.size) hneD HSR.out)).2.2.1, (cellsS ((m1.alloc _).blk (k := w.heap.size) hneD HSR.out)).2.2.2⟩) (fun hHeld => ?_)
            clear hK K
            try simp only [List.getElem_toArray, List.getElem_cons_zero, List.getElem_cons_succ, Act.put, List.setIfInBounds_toArray, List.set_cons_zero, List.set_cons_succ]
            refine wpk_name (fun W2 hW2 => ?_)
            have m2 : Moved D wr W2 := by rw [hW2]; exact m1.alloc (.cells #[.int .i64 0, .int .i64 0, .slice none 0 0] 49)
            have gb : W2.heap[W1.heap.size]? = some (.cells #[.int .i64 0, .int .i64 0, .slice none 0 0] 49 (0, 0)) := by rw [hW2]; exact blk_new rfl
            have hrb : wr.heap.size ≤ W1.heap.size := m1.size
            have HX2 : ∀ b, b < W1.heap.size → W2.heap[b]? = W1.heap[b]? := by rw [hW2]; exact fun b hb => heap_alloc_old _ _ hb
            have hnrb : w.heap.size ≠ W1.heap.size := by have := hzs; omega
            clear hW2 hHeld
            have hHeld : W2.cell? ⟨w.heap.size, 0, none⟩ = some (.slice af j cf) ∧ W2.cell? ⟨w.heap.size, 1, none⟩ = some vt ∧ W2.cell? ⟨w.heap.size, 2, none⟩ = some vn ∧ W2.cell? ⟨w.heap.size, 3, none⟩ = some vs := ⟨(cellsS (m2.blk (k := w.heap.size) hneD HSR.out)).1, (cellsS (m2.blk (k := w.heap.size) hneD HSR.out)).2.1, (cellsS (m2.blk (k := w.heap.size) hneD HSR.out)).2.2.1, (cellsS (m2.blk (k := w.heap.size) hneD HSR.out)).2.2.2⟩
            refine wpAnyK_ready (rs := [6]) (by kernel_rfl) (by simp) ?_
            refine AllReadyK.cons rfl (fun K hK => ?_) AllReadyK.nil
            go_simp
            have hlt0 : W1.heap.size < _ := lt_of_blk gb
            have hnum : numberedB id (1 + y) = true := by simp [numberedB]; omega
            obtain ⟨⟨r, er⟩, hR⟩ : ∃ R, makeN s id (1 + y) L = R := ⟨_, rfl⟩
            have hmk := rmake_yes S _ (.slice af j cf) vt vn vs s id (1 + y) L (.slice aL L.length cL) _ (HSr.out.moved HSne.out m2) (HV.out.move (S' := fun b => W.heap.size ≤ b) m2.size fun b hb hs => ⟨m2.grown.block b hb (by have hs' : W.heap.size ≤ b := hs; have h3 := HZW.out; have h4 := zD; simp; omega), hs⟩) HSD.out.check (HL.out.trans HN.out.symm) hnum (fun x hx => by have := HSh.out x hx; omega)
            rw [hR] at hmk
            refine hmk.mono ?_
            rintro e W3 ⟨_, rfl, ⟨sv, rfl, hvv⟩, hb⟩
            have m3 := m2.below hb
            have gb := blk_below hb (lt_of_blk gb) gb
            have hvv2 := hvv.move (w' := W3) (S' := fun b => w.heap.size + 2 ≤ b ∧ b ≠ W1.heap.size) (Nat.le_refl _) fun b hb' hs => ⟨rfl, by have h1 := m2.size; have h2 := HO.out.2.size; have h3 := HZW.out; have hs' := hs; exact ⟨by omega, by omega⟩⟩
            obtain ⟨asv, csv, esv⟩ := hvv2.slice; subst esv
            have HRR := Lib.hid hR
            clear hb hvv hmk hR
            refine shutK hK (⟨(cellsS (m3.blk (k := w.heap.size) hneD HSR.out)).1, (cellsS (m3.blk (k := w.heap.size) hneD HSR.out)).2.1, (cellsS (m3.blk (k := w.heap.size) hneD HSR.out)).2.2.1, (cellsS (m3.blk (k := w.heap.size) hneD HSR.out)).2.2.2⟩) (fun hHeld => ?_)
            clear hK K
            try simp only [List.getElem_toArray, List.getElem_cons_zero, List.getElem_cons_succ, Act.put, List.setIfInBounds_toArray, List.set_cons_zero, List.set_cons_succ]
            refine wpAnyK_take (i := 7) (v := ?_) rfl (by kernel_rfl) (by kernel_rfl) (by kernel_rfl) (by kernel_rfl) (fun _ _ _ h => h) (Or.inl ⟨by rfl, ?_⟩) (by assumption) ?_
            rotate_left 1
            · (intro wS hSw; (try dsimp only at hSw); go_simp; try with_reducible rfl)
            try simp only [List.getElem_toArray, List.getElem_cons_zero, List.getElem_cons_succ, Act.put, List.setIfInBounds_toArray, List.set_cons_zero, List.set_cons_succ]
            refine wpAnyK_take (i := 8) (v := ?_) rfl (by kernel_rfl) (by kernel_rfl) (by kernel_rfl) (by kernel_rfl) (fun _ _ _ h => h) (Or.inl ⟨by rfl, ?_⟩) (by assumption) ?_
            rotate_left 1
            · (intro wS hSw; (try dsimp only at hSw); go_simp; try with_reducible rfl)
            try simp only [List.getElem_toArray, List.getElem_cons_zero, List.getElem_cons_succ, Act.put, List.setIfInBounds_toArray, List.set_cons_zero, List.set_cons_succ]
            refine wpAnyK_take (i := 9) (v := ?_) rfl (by kernel_rfl) (by kernel_rfl) (by kernel_rfl) (by kernel_rfl) (fun _ _ _ h => h) (Or.inl ⟨by rfl, ?_⟩) (by assumption) ?_
            rotate_left 1
            · (intro wS hSw; (try dsimp only at hSw); go_simp; try with_reducible rfl)
            try simp only [List.getElem_toArray, List.getElem_cons_zero, List.getElem_cons_succ, Act.put, List.setIfInBounds_toArray, List.set_cons_zero, List.set_cons_succ]
            have hvv3 := hvv2
        rotate_left 2
        focus
          go_simp
          refine shutK hK (⟨(cellsS ((mD.alloc _).blk (k := w.heap.size) hneD HSR.out)).1, (cellsS ((mD.alloc _).blk (k := w.heap.size) hneD HSR.out)).2.1, (cellsS ((mD.alloc _).blk (k := w.heap.size) hneD HSR.out)).2.2.1, (cellsS ((mD.alloc _).blk (k := w.heap.size) hneD HSR.out)).2.2.2⟩) (fun hHeld => ?_)
          clear hK K
          try simp only [List.getElem_toArray, List.getElem_cons_zero, List.getElem_cons_succ, Act.put, List.setIfInBounds_toArray, List.set_cons_zero, List.set_cons_succ]
          refine wpk_name (fun W1 hW1 => ?_)
          have m1 : Moved D wr W1 := by rw [hW1]; exact mD.alloc (.cells #[.int .i64 0, .int .i64 0, .slice none 0 0] 49)
          have gb : W1.heap[wr.heap.size]? = some (.cells #[.int .i64 0, .int .i64 0, .slice none 0 0] 49 (0, 0)) := by rw [hW1]; exact blk_new rfl
          have hrb : wr.heap.size ≤ wr.heap.size := mD.size
          have HX1 : ∀ b, b < wr.heap.size → W1.heap[b]? = wr.heap[b]? := by rw [hW1]; exact fun b hb => heap_alloc_old _ _ hb
          have hnrb : w.heap.size ≠ wr.heap.size := by have := hzs; omega
          clear hW1 hHeld
          have hHeld : W1.cell? ⟨w.heap.size, 0, none⟩ = some (.slice af j cf) ∧ W1.cell? ⟨w.heap.size, 1, none⟩ = some vt ∧ W1.cell? ⟨w.heap.size, 2, none⟩ = some vn ∧ W1.cell? ⟨w.heap.size, 3, none⟩ = some vs := ⟨(cellsS (m1.blk (k := w.heap.size) hneD HSR.out)).1, (cellsS (m1.blk (k := w.heap.size) hneD HSR.out)).2.1, (cellsS (m1.blk (k := w.heap.size) hneD HSR.out)).2.2.1, (cellsS (m1.blk (k := w.heap.size) hneD HSR.out)).2.2.2⟩
          refine wpAnyK_ready (rs := [3]) (by kernel_rfl) (by simp) ?_
          refine AllReadyK.cons rfl (fun K hK => ?_) AllReadyK.nil
          go_simp
          refine (next_any D _ 3 m1.deck (by omega) (by omega)).mono ?_
          rintro e W2 ⟨y, rfl, y0, y1, mv⟩
          have m2 := m1.trans mv
          have gb := mv.blk (by have := zD; omega) gb
          clear mv
          have hwy : IntKind.i64.wrap (1 + y) = 1 + y := by rw [IntKind.wrap_i64]; omega
          refine shutK hK (⟨(cellsS (m2.blk (k := w.heap.size) hneD HSR.out)).1, (cellsS (m2.blk (k := w.heap.size) hneD HSR.out)).2.1, (cellsS (m2.blk (k := w.heap.size) hneD HSR.out)).2.2.1, (cellsS (m2.blk (k := w.heap.size) hneD HSR.out)).2.2.2⟩) (fun hHeld => ?_)
          clear hK K
          try simp only [List.getElem_toArray, List.getElem_cons_zero, List.getElem_cons_succ, Act.put, List.setIfInBounds_toArray, List.set_cons_zero, List.set_cons_succ]
          refine wpAnyK_take (i := 4) (v := ?_) rfl (by kernel_rfl) (by kernel_rfl) (by kernel_rfl) (by kernel_rfl) (fun _ _ _ h => h) (Or.inl ⟨by rfl, ?_⟩) (by assumption) ?_
          rotate_left 1
          · (intro wS hSw; (try dsimp only at hSw); go_simp; try with_reducible rfl)
          try simp only [List.getElem_toArray, List.getElem_cons_zero, List.getElem_cons_succ, Act.put, List.setIfInBounds_toArray, List.set_cons_zero, List.set_cons_succ]
          refine wpAnyK_ready (rs := [6]) (by kernel_rfl) (by simp) ?_
          refine AllReadyK.cons rfl (fun K hK => ?_) AllReadyK.nil
          go_simp
          have hlt0 : wr.heap.size < _ := lt_of_blk gb
          have hnum : numberedB id (1 + y) = true := by simp [numberedB]; omega
          obtain ⟨⟨r, er⟩, hR⟩ : ∃ R, makeN s id (1 + y) L = R := ⟨_, rfl⟩
          have hmk := rmake_yes S _ (.slice af j cf) vt vn vs s id (1 + y) L (.slice aL L.length cL) _ (HSr.out.moved HSne.out m2) (HV.out.move (S' := fun b => W.heap.size ≤ b) m2.size fun b hb hs => ⟨m2.grown.block b hb (by have hs' : W.heap.size ≤ b := hs; have h3 := HZW.out; have h4 := zD; simp; omega), hs⟩) HSD.out.check (HL.out.trans HN.out.symm) hnum (fun x hx => by have := HSh.out x hx; omega)
          rw [hR] at hmk
          refine hmk.mono ?_
          rintro e W3 ⟨_, rfl, ⟨sv, rfl, hvv⟩, hb⟩
          have m3 := m2.below hb
          have gb := blk_below hb (lt_of_blk gb) gb
          have hvv2 := hvv.move (w' := W3) (S' := fun b => w.heap.size + 2 ≤ b ∧ b ≠ wr.heap.size) (Nat.le_refl _) fun b hb' hs => ⟨rfl, by have h1 := m2.size; have h2 := HO.out.2.size; have h3 := HZW.out; have hs' := hs; exact ⟨by omega, by omega⟩⟩
          obtain ⟨asv, csv, esv⟩ := hvv2.slice; subst esv
          have HRR := Lib.hid hR
          clear hb hvv hmk hR
          refine shutK hK (⟨(cellsS (m3.blk (k := w.heap.size) hneD HSR.out)).1, (cellsS (m3.blk (k := w.heap.size) hneD HSR.out)).2.1, (cellsS (m3.blk (k := w.heap.size) hneD HSR.out)).2.2.1, (cellsS (m3.blk (k := w.heap.size) hneD HSR.out)).2.2.2⟩) (fun hHeld => ?_)
          clear hK K
          try simp only [List.getElem_toArray, List.getElem_cons_zero, List.getElem_cons_succ, Act.put, List.setIfInBounds_toArray, List.set_cons_zero, List.set_cons_succ]
          refine wpAnyK_take (i := 7) (v := ?_) rfl (by kernel_rfl) (by kernel_rfl) (by kernel_rfl) (by kernel_rfl) (fun _ _ _ h => h) (Or.inl ⟨by rfl, ?_⟩) (by assumption) ?_
          rotate_left 1
          · (intro wS hSw; (try dsimp only at hSw); go_simp; try with_reducible rfl)
          try simp only [List.getElem_toArray, List.getElem_cons_zero, List.getElem_cons_succ, Act.put, List.setIfInBounds_toArray, List.set_cons_zero, List.set_cons_succ]
          refine wpAnyK_take (i := 8) (v := ?_) rfl (by kernel_rfl) (by kernel_rfl) (by kernel_rfl) (by kernel_rfl) (fun _ _ _ h => h) (Or.inl ⟨by rfl, ?_⟩) (by assumption) ?_
          rotate_left 1
          · (intro wS hSw; (try dsimp only at hSw); go_simp; try with_reducible rfl)
          try simp only [List.getElem_toArray, List.getElem_cons_zero, List.getElem_cons_succ, Act.put, List.setIfInBounds_toArray, List.set_cons_zero, List.set_cons_succ]
          refine wpAnyK_take (i := 9) (v := ?_) rfl (by kernel_rfl) (by kernel_rfl) (by kernel_rfl) (by kernel_rfl) (fun _ _ _ h => h) (Or.inl ⟨by rfl, ?_⟩) (by assumption) ?_
          rotate_left 1
          · (intro wS hSw; (try dsimp only at hSw); go_simp; try with_reducible rfl)
          try simp only [List.getElem_toArray, List.getElem_cons_zero, List.getElem_cons_succ, Act.put, List.setIfInBounds_toArray, List.set_cons_zero, List.set_cons_succ]
          have hvv3 := hvv2
        all_goals
          obtain ⟨c0, c1, c2⟩ := cells3 gb; have f0 := frozen_of_row _ _ 0 _ _ gb; have f1 := frozen_of_row _ _ 1 _ _ gb; have f2 := frozen_of_row _ _ 2 _ _ gb; have za := lt_of_blk gb
          have hsx := blk_far (a := ⟨_, 2, none⟩) (v := .slice asv r.vals.length csv) (blk_far (a := ⟨_, 1, none⟩) (v := .int .i64 r.ver) (blk_far (a := ⟨_, 0, none⟩) (v := .int .i64 r.id) (m3.blk (k := w.heap.size) hneD HSR.out) hnrb) hnrb) hnrb
          refine wpAnyK_ready (rs := [11]) (by kernel_rfl) (by simp) ?_
          refine AllReadyK.cons rfl (fun K hK => ?_) AllReadyK.nil
          go_simp
          refine shutK hK (⟨(cellsS hsx).1, (cellsS hsx).2.1, (cellsS hsx).2.2.1, (cellsS hsx).2.2.2⟩) (fun hHeld => ?_)
          clear hK K
          try simp only [List.getElem_toArray, List.getElem_cons_zero, List.getElem_cons_succ, Act.put, List.setIfInBounds_toArray, List.set_cons_zero, List.set_cons_succ]
          refine wpAnyK_ready (rs := [12]) (by kernel_rfl) (by simp) ?_
          refine AllReadyK.cons rfl (fun K hK => ?_) AllReadyK.nil
          go_simp
          refine shutK_off hK (by decide) ?_
          clear hK K
          try simp only [List.getElem_toArray, List.getElem_cons_zero, List.getElem_cons_succ, Act.put, List.setIfInBounds_toArray, List.set_cons_zero, List.set_cons_succ]
          refine wpAnyK_done (by kernel_rfl) ?_ _
          refine NoPanic.normal ?_
          go_wp2_with fail
          go_meet
          exact ⟨_, er, y, _, r, rfl, rfl, blk_set (blk_set (blk_set gb)), (((hvv3.far (fun b hb => hb.2)).far (fun b hb => hb.2)).far (fun b hb => hb.2)).weaken (fun b hb => hb.1), HRR, y0, y1, ((m3.set hrb _).set hrb _).set hrb _, hrb⟩
      case rest =>
        obtain ⟨rb, er, y, sv, r, rfl, rfl, grb, hvr, HRR, y0, y1, mw, hrb⟩ := hcut
        obtain ⟨asv, csv, rfl⟩ := hvr.slice
        have hsz := mw.blk (k := w.heap.size) hneD HSR.out
        have hres := mw.blk (k := w.heap.size + 1) (by omega) (HO.out.2.blk (k := w.heap.size + 1) (by omega) HZ0.out)
        have hn1 : rb ≠ w.heap.size + 1 := by have h1 := HO.out.2.size; have h2 := HZW.out; omega
        have lr := lt_of_blk hres; have lb := lt_of_blk grb; have lz := lt_of_blk hsz
        have HRES := Lib.hid hres; have HMW := Lib.hid (HM.out.trans (HO.out.2.trans mw)); have HVR := Lib.hid hvr; have HGRB := Lib.hid grb
        obtain ⟨z0, z1, z2⟩ := cells3 hres; have f0 := frozen_of_row _ _ 0 _ _ hres; have f1 := frozen_of_row _ _ 1 _ _ hres; have f2 := frozen_of_row _ _ 2 _ _ hres
        obtain ⟨c0, c1, c2⟩ := cells3 grb; have g0 := frozen_of_row _ _ 0 _ _ grb; have g1 := frozen_of_row _ _ 1 _ _ grb; have g2 := frozen_of_row _ _ 2 _ _ grb
        clear s0 s1 s2 s3
        obtain ⟨s0, s1, s2, s3⟩ := cellsS hsz
        clear hsz hres grb hvr mw mD
        by_cases he : er = 0
        · subst he
          have d0 : ((0 : Int) != 0) = false := rfl
          have HMd := Lib.hid (rec_made HRR.out)
          clear g0 g1 g2
          go_wp2_with fail
          exact bodyPost_row1 rfl rfl (blk_set (i := 2) (blk_set (i := 1) (blk_set (i := 0) HRES.out))) Tryz.underlying49 rfl (by kernel_rfl)
            ⟨_, r, rfl, ⟨_, rfl, (((HVR.out.far (fun b hb => by show b ≠ w.heap.size + 1; have hb' : w.heap.size + 2 ≤ b := hb; omega)).far (fun b hb => by show b ≠ w.heap.size + 1; have hb' : w.heap.size + 2 ≤ b := hb; omega)).far (fun b hb => by show b ≠ w.heap.size + 1; have hb' : w.heap.size + 2 ≤ b := hb; omega)).weaken (fun b hb => by have hb' : w.heap.size + 2 ≤ b := hb; show w.heap.size ≤ b; omega)⟩, HMd.out.1, HMd.out.2.1, HMd.out.2.2,
              ((HMW.out.set (a := ⟨w.heap.size + 1, 0, none⟩) (Nat.le_succ _) _).set (a := ⟨w.heap.size + 1, 1, none⟩) (Nat.le_succ _) _).set (a := ⟨w.heap.size + 1, 2, none⟩) (Nat.le_succ _) _⟩
        · have d0 : (er != (0 : Int)) = true := by simpa using he
          have hmk := run_make_row' (P := Tryz.prog) 27 9 (.string ⟨#[]⟩) 16 Tryz.underlying27 infoS rfl .i64 .i64 j (by omega) (by omega)
          rw [made_strings] at hmk
          clear HVR HRR he
          go_upto_region 9 with fail
          refine wp_world (fun W9 hW9 => ?_)
          have hrw : w.heap.size ≤ rb := by have h1 := HO.out.2.size; have h2 := HZW.out; omega
          have hgb : W9.heap[rb]? = some (.cells #[.int .i64 id, .int .i64 1, .slice (some ⟨wc.heap.size, 0, none⟩) j j] 49 (0, 0)) := by rw [hW9]; exact blk_old (blk_set (i := 2) (blk_set (i := 1) (blk_set (i := 0) HGRB.out)))
          have hg9 : W9.heap[wc.heap.size]? = some (.cells ((List.replicate j ([] : List UInt8)).flatMap encS).toArray 9 (0, 0)) := by rw [hW9]; exact blk_new (by simp [World.setCell])
          have hr9 : W9.heap[w.heap.size + 1]? = some (.cells #[.int .i64 0, .int .i64 0, .slice none 0 0] 49 (0, 0)) := by rw [hW9]; exact blk_old (blk_far (blk_far (blk_far HRES.out hn1.symm) hn1.symm) hn1.symm)
          have m9 : Moved D w W9 := by rw [hW9]; exact (((HMW.out.set (a := ⟨rb, 0, none⟩) hrw _).set (a := ⟨rb, 1, none⟩) hrw _).set (a := ⟨rb, 2, none⟩) hrw _).alloc _
          have HG9 := Lib.hid hg9; have HR9 := Lib.hid hr9; have HM9 := Lib.hid m9
          clear hW9 c0 c1 c2 z0 z1 z2 f0 f1 f2 g0 g1 g2 s0 s1 s2 s3 m9 hmk
          obtain ⟨z0, z1, z2⟩ := cells3 hr9; have f0 := frozen_of_row _ _ 0 _ _ hr9; have f1 := frozen_of_row _ _ 1 _ _ hr9; have f2 := frozen_of_row _ _ 2 _ _ hr9
          obtain ⟨c0, c1, c2⟩ := cells3 hgb
          have l1 := lt_of_blk hr9; have l2 := lt_of_blk hgb
          have HCk := Lib.hid (show checkN s ⟨id, 1, List.replicate j []⟩ = 0 by rw [← HN.out]; exact rec_none HSD.out.check h1 h2)
          clear hr9 hgb hg9
          go_wp2_with fail
          exact bodyPost_row1 rfl rfl (blk_set (i := 2) (blk_set (i := 1) (blk_set (i := 0) HR9.out))) Tryz.underlying49 rfl (by kernel_rfl)
            ⟨_, ⟨id, 1, List.replicate j []⟩, rfl, ⟨_, rfl, (((blockVec (k := 1) (enc := encS) (L := List.replicate j ([] : List UInt8)) (S := fun b => w.heap.size ≤ b ∧ b ≠ w.heap.size + 1) (A := wc.heap.size) (fun _ => rfl) HG9.out ⟨by omega, by omega⟩ j (by simp)).far (fun b hb => hb.2)).far (fun b hb => hb.2)).far (fun b hb => hb.2) |>.weaken (fun b hb => hb.1)⟩, rfl, HCk.out, (by intro x hx; have := List.eq_of_mem_replicate hx; subst this; simp),
              ((HM9.out.set (a := ⟨w.heap.size + 1, 0, none⟩) (Nat.le_succ _) _).set (a := ⟨w.heap.size + 1, 1, none⟩) (Nat.le_succ _) _).set (a := ⟨w.heap.size + 1, 2, none⟩) (Nat.le_succ _) _⟩
end Go.Proofs.YtmakailcpkogdaaGreatDoor
end
section
/- bitset.Compare, the reference's. -/
set_option linter.unusedSimpArgs false
set_option linter.unusedVariables false
set_option maxRecDepth 100000
namespace Go.Proofs.YtmakailcpkogdaaGreatDoor
open Go.RowKit
set_option maxHeartbeats 1000000 in
theorem rorder_any (x y : Int) (w : World) : Calls Tryz.prog 76 #[.int .i64 x, .int .i64 y] w fun e w' => e = .returned (.int .i64 (cmp3 x y)) ∧ w = w' := by
  obtain ⟨c, hc⟩ : ∃ c, cmp3 x y = c := ⟨_, rfl⟩
  rw [hc]
  unfold cmp3 at hc
  by_cases h1 : x < y
  · have d1 : decide (x < y) = true := by simpa using h1
    rw [if_pos h1] at hc; subst hc
    go_enter Tryz.func76, Tryz.ntmps76
    go_wp2_with fail
    go_ret
    exact ⟨rfl, rfl⟩
  · have d1 : decide (x < y) = false := by simpa using h1
    rw [if_neg h1] at hc
    by_cases h2 : y < x
    · have d2 : decide (y < x) = true := by simpa using h2
      rw [if_pos h2] at hc; subst hc
      go_enter Tryz.func76, Tryz.ntmps76
      go_wp2_with fail
      go_ret
      exact ⟨rfl, rfl⟩
    · have d2 : decide (y < x) = false := by simpa using h2
      rw [if_neg h2] at hc; subst hc
      go_enter Tryz.func76, Tryz.ntmps76
      go_wp2_with fail
      go_ret
      exact ⟨rfl, rfl⟩
theorem cmp3_gt {x y : Int} (h : y < x) : cmp3 x y = 1 := by unfold cmp3; rw [if_neg (by omega), if_pos h]
theorem cmp3_lt {x y : Int} (h : x < y) : cmp3 x y = -1 := by unfold cmp3; rw [if_pos h]
theorem cmp3_no {x y : Int} (h : ¬ x < y) (h2 : ¬ y < x) : cmp3 x y = 0 := by unfold cmp3; rw [if_neg h, if_neg h2]
theorem cmpB_one {a b : BitsL} (h : cmp3 a.len b.len ≠ 0) : cmpB a b = cmp3 a.len b.len := by unfold cmpB orN; rw [if_neg h]
theorem cmpB_two {a b : BitsL} (h : cmp3 a.len b.len = 0) (h2 : cmp3 a.words.length b.words.length ≠ 0) : cmpB a b = cmp3 a.words.length b.words.length := by unfold cmpB orN; rw [if_pos h]; unfold orN; rw [if_neg h2]
theorem cmpB_three {a b : BitsL} (h : cmp3 a.len b.len = 0) (h2 : cmp3 a.words.length b.words.length = 0) : cmpB a b = cmpW a.words b.words := by
  unfold cmpB orN; rw [if_pos h]; unfold orN; rw [if_pos h2]; unfold orN
  split
  next h3 => rw [h3]; rfl
  next h3 => rfl
set_option maxHeartbeats 4000000 in
theorem rcmpB_any (S T : Nat → Prop) (u v : Value) (a b : BitsL) (w : World) (hu : BitsAt w S u a) (hv : BitsAt w T v b) (hn : a.words.length ≤ 1000000) :
    Calls Tryz.prog 31 #[u, v] w fun e w' => e = .returned (.int .i64 (cmpB a b)) ∧ Below w.heap.size w w' := by
  obtain ⟨su, rfl, hu⟩ := hu
  obtain ⟨sv, rfl, hv⟩ := hv
  obtain ⟨aa, ca, rfl⟩ := hu.slice
  obtain ⟨ab, cb, rfl⟩ := hv.slice
  have HU := Lib.hid hu; have HV := Lib.hid hv; clear hu hv
  have hfin : ∀ n : Int, cmpB a b = n → Ending.returned (.int .i64 n) = .returned (.int .i64 (cmpB a b)) := fun n h => by rw [h]
  have HF := Lib.hid hfin; clear hfin
  go_enter Tryz.func31, Tryz.ntmps31
  go_wp2_with fail
  refine wp_calls_world (fun W hW => ?_)
  have hb0 : Below w.heap.size w W := by rw [hW]; exact ((Below.refl w.heap.size w).alloc (Nat.le_refl _) _).alloc (by simp) _
  have ha0 : W.heap[w.heap.size]? = some (.cells #[.int .i64 a.len, .slice aa a.words.length ca] 68 (0, 0)) := by rw [hW]; exact blk_old (blk_new rfl)
  have he0 : W.heap[w.heap.size + 1]? = some (.cells #[.int .i64 b.len, .slice ab b.words.length cb] 68 (0, 0)) := by rw [hW]; exact blk_new (by simp)
  clear hW
  have HB0 := Lib.hid hb0
  obtain ⟨a0, a1⟩ := cells2K ha0; obtain ⟨b0, b1⟩ := cells2K he0
  have lW := lt_of_blk he0
  clear ha0 he0 hb0
  refine (rorder_any _ _ _).mono ?_
  rintro e w1 ⟨rfl, rfl⟩
  by_cases h1 : cmp3 a.len b.len = 0
  · rw [h1]
    have d1 : ((0 : Int) != 0) = false := rfl
    have H1 := Lib.hid h1; clear h1
    go_wp2_with fail
    refine (rorder_any _ _ _).mono ?_
    rintro e w1 ⟨rfl, rfl⟩
    by_cases h2 : cmp3 a.words.length b.words.length = 0
    · rw [h2]
      have hlen : a.words.length = b.words.length := by have := cmp3_eq h2; omega
      have H2 := Lib.hid h2; have HL := Lib.hid hlen; clear h2 hlen
      obtain ⟨z, hz⟩ : ∃ z, cmpW a.words b.words = z := ⟨_, rfl⟩
      have HZ := Lib.hid hz; clear hz
      have HFz := Lib.hid (HF.out z ((cmpB_three H1.out H2.out).trans HZ.out))
      go_wp2_with fail
      go_loopw [7] (fun i wr => ∃ k : Nat, i = .int .i64 k ∧ k ≤ a.words.length ∧ Hid (cmpW (a.words.drop k) (b.words.drop k) = z) ∧ Below W.heap.size W wr) (fun i _ => a.words.length - (intOf i).toNat)
      case atStart => exact ⟨0, rfl, by omega, Lib.hid HZ.out, Below.refl _ _⟩
      case round =>
        obtain ⟨k, rfl, hk, HT, hbw⟩ := hrel
        have HBw := Lib.hid hbw
        have a0' := (hbw.cell (p := ⟨w.heap.size, 0, none⟩) (by show w.heap.size < _; omega)).trans a0
        have a1' := (hbw.cell (p := ⟨w.heap.size, 1, none⟩) (by show w.heap.size < _; omega)).trans a1
        have b0' := (hbw.cell (p := ⟨w.heap.size + 1, 0, none⟩) lW).trans b0
        have b1' := (hbw.cell (p := ⟨w.heap.size + 1, 1, none⟩) lW).trans b1
        by_cases hlt : k < a.words.length
        · have hq : decide ((k : Int) < a.words.length) = true := by simp; omega
          have hl2 : k < b.words.length := by rw [← HL.out]; exact hlt
          have hi1 : (k : Int) < (a.words.length : Int) := by omega
          have hi2 : (k : Int) < (b.words.length : Int) := by omega
          obtain ⟨ba, oa, rfl, hba, hca⟩ := (HU.out.below (HB0.out.trans (hbw.mono HB0.out.size))).get k hlt
          have c0 := hca 0 _ rfl
          rw [Nat.mul_one, Nat.add_zero] at c0
          obtain ⟨bb, ob, rfl, hbb, hcb⟩ := (HV.out.below (HB0.out.trans (hbw.mono HB0.out.size))).get k hl2
          have e0 := hcb 0 _ rfl
          rw [Nat.mul_one, Nat.add_zero] at e0
          have ht := HT.out
          rw [cmpW_drop hlt hl2, getD_at _ _ hlt, getD_at _ _ hl2] at ht
          obtain ⟨x, hx⟩ : ∃ x, a.words[k] = x := ⟨_, rfl⟩
          obtain ⟨y, hy⟩ : ∃ y, b.words[k] = y := ⟨_, rfl⟩
          rw [hx] at c0 ht; rw [hy] at e0 ht
          have HT2 := Lib.hid ht
          clear hx hy hca hcb ht hbw
          go_wp2_with fail
          refine wp_region_noPanic ?_
          refine wp_region_held_drew (S := (fun w' => w'.cell? ⟨w.heap.size, 1, none⟩ = some (.slice (some ⟨ba, oa, none⟩) a.words.length ca) ∧ w'.cell? ⟨w.heap.size + 1, 1, none⟩ = some (.slice (some ⟨bb, ob, none⟩) b.words.length cb) ∧ w'.cell? ⟨ba, oa + k, none⟩ = some (.int .u64 x) ∧ w'.cell? ⟨bb, ob + k, none⟩ = some (.int .u64 y))) (by kernel_rfl) (⟨a1', b1', c0, e0⟩) (fun hHeld => ?_)
          refine wpAnyH_take (i := 0) (v := ?_) rfl (by kernel_rfl) (by kernel_rfl) (by kernel_rfl) (fun _ _ _ h => h) (Or.inl ⟨by rfl, ?_⟩) (by assumption) ?_
          rotate_left 1
          · (intro wS hSw; (try dsimp only at hSw); go_simp; try with_reducible rfl)
          try simp only [List.getElem_toArray, List.getElem_cons_zero, List.getElem_cons_succ, Act.put, List.setIfInBounds_toArray, List.set_cons_zero, List.set_cons_succ]
          refine wpAnyH_take (i := 1) (v := ?_) rfl (by kernel_rfl) (by kernel_rfl) (by kernel_rfl) (fun _ _ _ h => h) (Or.inl ⟨by rfl, ?_⟩) (by assumption) ?_
          rotate_left 1
          · (intro wS hSw; (try dsimp only at hSw); go_simp; try with_reducible rfl)
          try simp only [List.getElem_toArray, List.getElem_cons_zero, List.getElem_cons_succ, Act.put, List.setIfInBounds_toArray, List.set_cons_zero, List.set_cons_succ]
          refine wpAnyH_take (i := 2) (v := ?_) rfl (by kernel_rfl) (by kernel_rfl) (by kernel_rfl) (fun _ _ _ h => h) (Or.inl ⟨by rfl, ?_⟩) (by assumption) ?_
          rotate_left 1
          · (intro wS hSw; (try dsimp only at hSw); go_simp; try with_reducible rfl)
          try simp only [List.getElem_toArray, List.getElem_cons_zero, List.getElem_cons_succ, Act.put, List.setIfInBounds_toArray, List.set_cons_zero, List.set_cons_succ]
          refine wpAnyH_take (i := 3) (v := ?_) rfl (by kernel_rfl) (by kernel_rfl) (by kernel_rfl) (fun _ _ _ h => h) (Or.inl ⟨by rfl, ?_⟩) (by assumption) ?_
          rotate_left 1
          · (intro wS hSw; (try dsimp only at hSw); go_simp; try with_reducible rfl)
          try simp only [List.getElem_toArray, List.getElem_cons_zero, List.getElem_cons_succ, Act.put, List.setIfInBounds_toArray, List.set_cons_zero, List.set_cons_succ]
          refine wpAnyH_take (i := 4) (v := ?_) rfl (by kernel_rfl) (by kernel_rfl) (by kernel_rfl) (fun _ _ _ h => h) (Or.inl ⟨by rfl, ?_⟩) (by assumption) ?_
          rotate_left 1
          · (intro wS hSw; (try dsimp only at hSw); go_simp; try with_reducible rfl)
          try simp only [List.getElem_toArray, List.getElem_cons_zero, List.getElem_cons_succ, Act.put, List.setIfInBounds_toArray, List.set_cons_zero, List.set_cons_succ]
          refine wpAnyH_take (i := 5) (v := ?_) rfl (by kernel_rfl) (by kernel_rfl) (by kernel_rfl) (fun _ _ _ h => h) (Or.inl ⟨by rfl, ?_⟩) (by assumption) ?_
          rotate_left 1
          · (intro wS hSw; (try dsimp only at hSw); go_simp; try with_reducible rfl)
          try simp only [List.getElem_toArray, List.getElem_cons_zero, List.getElem_cons_succ, Act.put, List.setIfInBounds_toArray, List.set_cons_zero, List.set_cons_succ]
          refine wpAnyH_take (i := 6) (v := ?_) rfl (by kernel_rfl) (by kernel_rfl) (by kernel_rfl) (fun _ _ _ h => h) (Or.inl ⟨by rfl, ?_⟩) (by assumption) ?_
          rotate_left 1
          · (intro wS hSw; (try dsimp only at hSw); go_simp; try with_reducible rfl)
          try simp only [List.getElem_toArray, List.getElem_cons_zero, List.getElem_cons_succ, Act.put, List.setIfInBounds_toArray, List.set_cons_zero, List.set_cons_succ]
          refine wpAnyH_take (i := 7) (v := ?_) rfl (by kernel_rfl) (by kernel_rfl) (by kernel_rfl) (fun _ _ _ h => h) (Or.inl ⟨by rfl, ?_⟩) (by assumption) ?_
          rotate_left 1
          · (intro wS hSw; (try dsimp only at hSw); go_simp; try with_reducible rfl)
          try simp only [List.getElem_toArray, List.getElem_cons_zero, List.getElem_cons_succ, Act.put, List.setIfInBounds_toArray, List.set_cons_zero, List.set_cons_succ]
          refine wpAnyH_take (i := 8) (v := ?_) rfl (by kernel_rfl) (by kernel_rfl) (by kernel_rfl) (fun _ _ _ h => h) (Or.inl ⟨by rfl, ?_⟩) (by assumption) ?_
          rotate_left 1
          · (intro wS hSw; (try dsimp only at hSw); go_simp; try with_reducible rfl)
          try simp only [List.getElem_toArray, List.getElem_cons_zero, List.getElem_cons_succ, Act.put, List.setIfInBounds_toArray, List.set_cons_zero, List.set_cons_succ]
          refine wpAnyH_take (i := 9) (v := ?_) rfl (by kernel_rfl) (by kernel_rfl) (by kernel_rfl) (fun _ _ _ h => h) (Or.inl ⟨by rfl, ?_⟩) (by assumption) ?_
          rotate_left 1
          · (intro wS hSw; (try dsimp only at hSw); go_simp; try with_reducible rfl)
          try simp only [List.getElem_toArray, List.getElem_cons_zero, List.getElem_cons_succ, Act.put, List.setIfInBounds_toArray, List.set_cons_zero, List.set_cons_succ]
          refine wpAnyH_take (i := 10) (v := ?_) rfl (by kernel_rfl) (by kernel_rfl) (by kernel_rfl) (fun _ _ _ h => h) (Or.inl ⟨by rfl, ?_⟩) (by assumption) ?_
          rotate_left 1
          · (intro wS hSw; (try dsimp only at hSw); go_simp; try with_reducible rfl)
          try simp only [List.getElem_toArray, List.getElem_cons_zero, List.getElem_cons_succ, Act.put, List.setIfInBounds_toArray, List.set_cons_zero, List.set_cons_succ]
          refine wpAnyH_done (by kernel_rfl) ?_ _
          refine NoPanic.normal ?_
          by_cases h3 : x < y
          · have d3 : decide (x < y) = true := by simpa using h3
            have hz3 : z = -1 := by rw [← HT2.out, cmp3_lt h3]; rfl
            subst hz3
            go_wp2_with fail
            go_ret
            exact ⟨HFz.out, HB0.out.trans ((HBw.out.drew).mono HB0.out.size)⟩
          · have d3 : decide (x < y) = false := by simpa using h3
            have H3 := Lib.hid h3
            go_wp2_with fail
            clear hHeld
            refine wp_region_noPanic ?_
            refine wp_region_held_drew (S := (fun w' => w'.cell? ⟨w.heap.size, 1, none⟩ = some (.slice (some ⟨ba, oa, none⟩) a.words.length ca) ∧ w'.cell? ⟨w.heap.size + 1, 1, none⟩ = some (.slice (some ⟨bb, ob, none⟩) b.words.length cb) ∧ w'.cell? ⟨ba, oa + k, none⟩ = some (.int .u64 x) ∧ w'.cell? ⟨bb, ob + k, none⟩ = some (.int .u64 y))) (by kernel_rfl) (⟨a1', b1', c0, e0⟩) (fun hHeld => ?_)
            refine wpAnyH_take (i := 0) (v := ?_) rfl (by kernel_rfl) (by kernel_rfl) (by kernel_rfl) (fun _ _ _ h => h) (Or.inl ⟨by rfl, ?_⟩) (by assumption) ?_
            rotate_left 1
            · (intro wS hSw; (try dsimp only at hSw); go_simp; try with_reducible rfl)
            try simp only [List.getElem_toArray, List.getElem_cons_zero, List.getElem_cons_succ, Act.put, List.setIfInBounds_toArray, List.set_cons_zero, List.set_cons_succ]
            refine wpAnyH_take (i := 1) (v := ?_) rfl (by kernel_rfl) (by kernel_rfl) (by kernel_rfl) (fun _ _ _ h => h) (Or.inl ⟨by rfl, ?_⟩) (by assumption) ?_
            rotate_left 1
            · (intro wS hSw; (try dsimp only at hSw); go_simp; try with_reducible rfl)
            try simp only [List.getElem_toArray, List.getElem_cons_zero, List.getElem_cons_succ, Act.put, List.setIfInBounds_toArray, List.set_cons_zero, List.set_cons_succ]
            refine wpAnyH_take (i := 2) (v := ?_) rfl (by kernel_rfl) (by kernel_rfl) (by kernel_rfl) (fun _ _ _ h => h) (Or.inl ⟨by rfl, ?_⟩) (by assumption) ?_
            rotate_left 1
            · (intro wS hSw; (try dsimp only at hSw); go_simp; try with_reducible rfl)
            try simp only [List.getElem_toArray, List.getElem_cons_zero, List.getElem_cons_succ, Act.put, List.setIfInBounds_toArray, List.set_cons_zero, List.set_cons_succ]
            refine wpAnyH_take (i := 3) (v := ?_) rfl (by kernel_rfl) (by kernel_rfl) (by kernel_rfl) (fun _ _ _ h => h) (Or.inl ⟨by rfl, ?_⟩) (by assumption) ?_
            rotate_left 1
            · (intro wS hSw; (try dsimp only at hSw); go_simp; try with_reducible rfl)
            try simp only [List.getElem_toArray, List.getElem_cons_zero, List.getElem_cons_succ, Act.put, List.setIfInBounds_toArray, List.set_cons_zero, List.set_cons_succ]
            refine wpAnyH_take (i := 4) (v := ?_) rfl (by kernel_rfl) (by kernel_rfl) (by kernel_rfl) (fun _ _ _ h => h) (Or.inl ⟨by rfl, ?_⟩) (by assumption) ?_
            rotate_left 1
            · (intro wS hSw; (try dsimp only at hSw); go_simp; try with_reducible rfl)
            try simp only [List.getElem_toArray, List.getElem_cons_zero, List.getElem_cons_succ, Act.put, List.setIfInBounds_toArray, List.set_cons_zero, List.set_cons_succ]
            refine wpAnyH_take (i := 5) (v := ?_) rfl (by kernel_rfl) (by kernel_rfl) (by kernel_rfl) (fun _ _ _ h => h) (Or.inl ⟨by rfl, ?_⟩) (by assumption) ?_
            rotate_left 1
            · (intro wS hSw; (try dsimp only at hSw); go_simp; try with_reducible rfl)
            try simp only [List.getElem_toArray, List.getElem_cons_zero, List.getElem_cons_succ, Act.put, List.setIfInBounds_toArray, List.set_cons_zero, List.set_cons_succ]
            refine wpAnyH_take (i := 6) (v := ?_) rfl (by kernel_rfl) (by kernel_rfl) (by kernel_rfl) (fun _ _ _ h => h) (Or.inl ⟨by rfl, ?_⟩) (by assumption) ?_
            rotate_left 1
            · (intro wS hSw; (try dsimp only at hSw); go_simp; try with_reducible rfl)
            try simp only [List.getElem_toArray, List.getElem_cons_zero, List.getElem_cons_succ, Act.put, List.setIfInBounds_toArray, List.set_cons_zero, List.set_cons_succ]
            refine wpAnyH_take (i := 7) (v := ?_) rfl (by kernel_rfl) (by kernel_rfl) (by kernel_rfl) (fun _ _ _ h => h) (Or.inl ⟨by rfl, ?_⟩) (by assumption) ?_
            rotate_left 1
            · (intro wS hSw; (try dsimp only at hSw); go_simp; try with_reducible rfl)
            try simp only [List.getElem_toArray, List.getElem_cons_zero, List.getElem_cons_succ, Act.put, List.setIfInBounds_toArray, List.set_cons_zero, List.set_cons_succ]
            refine wpAnyH_take (i := 8) (v := ?_) rfl (by kernel_rfl) (by kernel_rfl) (by kernel_rfl) (fun _ _ _ h => h) (Or.inl ⟨by rfl, ?_⟩) (by assumption) ?_
            rotate_left 1
            · (intro wS hSw; (try dsimp only at hSw); go_simp; try with_reducible rfl)
            try simp only [List.getElem_toArray, List.getElem_cons_zero, List.getElem_cons_succ, Act.put, List.setIfInBounds_toArray, List.set_cons_zero, List.set_cons_succ]
            refine wpAnyH_take (i := 9) (v := ?_) rfl (by kernel_rfl) (by kernel_rfl) (by kernel_rfl) (fun _ _ _ h => h) (Or.inl ⟨by rfl, ?_⟩) (by assumption) ?_
            rotate_left 1
            · (intro wS hSw; (try dsimp only at hSw); go_simp; try with_reducible rfl)
            try simp only [List.getElem_toArray, List.getElem_cons_zero, List.getElem_cons_succ, Act.put, List.setIfInBounds_toArray, List.set_cons_zero, List.set_cons_succ]
            refine wpAnyH_take (i := 10) (v := ?_) rfl (by kernel_rfl) (by kernel_rfl) (by kernel_rfl) (fun _ _ _ h => h) (Or.inl ⟨by rfl, ?_⟩) (by assumption) ?_
            rotate_left 1
            · (intro wS hSw; (try dsimp only at hSw); go_simp; try with_reducible rfl)
            try simp only [List.getElem_toArray, List.getElem_cons_zero, List.getElem_cons_succ, Act.put, List.setIfInBounds_toArray, List.set_cons_zero, List.set_cons_succ]
            refine wpAnyH_done (by kernel_rfl) ?_ _
            refine NoPanic.normal ?_
            by_cases h4 : y < x
            · have d4 : decide (y < x) = true := by simpa using h4
              have hz3 : z = 1 := by rw [← HT2.out, cmp3_gt h4]; rfl
              subst hz3
              go_wp2_with fail
              go_ret
              exact ⟨HFz.out, HB0.out.trans ((HBw.out.drew.drew).mono HB0.out.size)⟩
            · have d4 : decide (y < x) = false := by simpa using h4
              have ht := HT2.out
              rw [if_pos (show cmp3 x y = 0 from cmp3_no (by have := H3.out; omega) h4)] at ht
              have HT3 := Lib.hid ht; clear ht
              go_wp2_with fail
              go_roundw
              case rel => exact ⟨k + 1, by go_num, by omega, HT3, HBw.out.drew.drew⟩
              case measure => simp [intOf]; omega
        · have hq : decide ((k : Int) < a.words.length) = false := by simp; omega
          have ht := HT.out
          rw [show a.words.drop k = [] from List.drop_eq_nil_of_le (by omega), show b.words.drop k = [] from List.drop_eq_nil_of_le (by have := HL.out; omega)] at ht
          have hz0 : z = 0 := ht.symm
          subst hz0
          clear ht
          go_wp2_with fail
          go_ret
          exact ⟨HFz.out, HB0.out.trans (HBw.out.mono HB0.out.size)⟩
    · have d2 : (cmp3 a.words.length b.words.length != 0) = true := by simpa using h2
      have HFz := Lib.hid (HF.out _ (cmpB_two H1.out h2))
      clear h2
      go_wp2_with fail
      go_ret
      exact ⟨HFz.out, HB0.out⟩
  · have d1 : (cmp3 a.len b.len != 0) = true := by simpa using h1
    have HFz := Lib.hid (HF.out _ (cmpB_one h1))
    clear h1
    go_wp2_with fail
    go_ret
    exact ⟨HFz.out, HB0.out⟩
end Go.Proofs.YtmakailcpkogdaaGreatDoor
end
section
/- The law EncodeDepends, walked: for every list of numbers and place it returns true and leaves what was there. -/
set_option linter.unusedSimpArgs false
set_option linter.unusedVariables false
set_option maxRecDepth 100000
namespace Go.Proofs.YtmakailcpkogdaaGreatDoor
open Go.RowKit Cal
attribute [local go_sem] toList_mk mk_size bytes_append
theorem Vec.setS {w : World} {S : Nat → Prop} {g off n cap : Nat} {L : List (List UInt8)} (h : Vec w S 1 encS (.slice (some ⟨g, off, none⟩) n cap) L) (f : Nat) (hf : f < L.length) (x : List UInt8) : Vec (w.setCell ⟨g, off + f, none⟩ (strV x)) S 1 encS (.slice (some ⟨g, off, none⟩) n cap) (L.set f x) := by
  obtain ⟨a', cap', h1, h2, h3⟩ := h
  cases h1
  refine ⟨_, cap, by rw [List.length_set], by rw [List.length_set]; exact h2, fun h0 => ?_⟩
  rw [List.length_set] at h0
  obtain ⟨b, o, e, hS, hb, hc⟩ := h3 h0
  cases e
  refine ⟨g, off, rfl, hS, by simpa [World.setCell] using hb, fun j y hj i u hu => ?_⟩
  have hi : i = 0 ∧ u = strV y := by
    cases i with
    | zero => exact ⟨rfl, by simpa [encS] using hu.symm⟩
    | succ i => simp [encS] at hu
  obtain ⟨rfl, rfl⟩ := hi
  rw [Nat.mul_one, Nat.add_zero]
  by_cases hjf : j = f
  · subst hjf
    have hy : x = y := by rw [List.getElem?_set_self hf] at hj; exact Option.some.inj hj
    subst hy
    have h0 := hc j L[j] (List.getElem?_eq_getElem hf) 0 _ rfl
    rw [Nat.mul_one, Nat.add_zero] at h0
    exact World.cell?_setCell_same _ _ _ h0
  · have hj' : L[j]? = some y := by rwa [List.getElem?_set_ne (Ne.symm hjf)] at hj
    have h0 := hc j y hj' 0 _ rfl
    rw [Nat.mul_one, Nat.add_zero] at h0
    exact (World.cell?_setCell_other _ _ _ _ (by intro e; simp at e; all_goals exact hjf e)).trans h0
/-- where the law stands: the deck in block D, the schema in block y, the key in block kb -/
structure DpAt (D : Nat) (w : World) (y kb : Nat) (S : Nat → Prop) (vf vt vn vs : Value) (s : SchemaL) (pv : Value) (P : List ParL) (k : Int × Int) (wr : World) : Prop where
  m : Moved D w wr
  b : wr.heap[y]? = some (.cells #[vf, vt, vn, vs] 36 (0, 0))
  kk : wr.heap[kb]? = some (.cells #[.int .u64 k.1, .int .u64 k.2] 41 (0, 0))
  s : SchemaAt wr S vf vt vn vs s
  p : Vec wr S 3 encPar pv P
  ne : ∀ b, S b → b ≠ D
  yD : y ≠ D
  kD : kb ≠ D
theorem DpAt.moved {D : Nat} {w : World} {y kb : Nat} {S : Nat → Prop} {vf vt vn vs : Value} {s : SchemaL} {pv : Value} {P : List ParL} {k : Int × Int} {wr wd : World} (h : DpAt D w y kb S vf vt vn vs s pv P k wr) (m : Moved D wr wd) : DpAt D w y kb S vf vt vn vs s pv P k wd :=
  ⟨h.m.trans m, m.blk h.yD h.b, m.blk h.kD h.kk, h.s.moved h.ne m, h.p.move m.size fun b hb hs => ⟨m.grown.block b hb (by have := h.ne b hs; simp; omega), hs⟩, h.ne, h.yD, h.kD⟩
theorem DpAt.below {D : Nat} {w : World} {y kb : Nat} {S : Nat → Prop} {vf vt vn vs : Value} {s : SchemaL} {pv : Value} {P : List ParL} {k : Int × Int} {wr wd : World} (h : DpAt D w y kb S vf vt vn vs s pv P k wr) (hb : Below wr.heap.size wr wd) : DpAt D w y kb S vf vt vn vs s pv P k wd :=
  h.moved ((Moved.start h.m.deck).below hb)
set_option maxHeartbeats 16000000 in
theorem edepends_walk (a : Option Addr) (n cap : Nat) (zs : List Int) (y : Int) (w : World) (hr : IsRow .i64 w a n cap zs) (hy : (Lit.int .u8 y).wf = true) :
    Calls Tryz.prog 4 #[.slice a n cap, .int .u8 y] w fun e w' => e = .returned (.bool true) ∧ Below w.heap.size w w' := by
  have hy1 : 0 ≤ y ∧ y ≤ 255 := by simpa [Lit.wf, IntKind.min, IntKind.max, IntKind.signed, IntKind.bits] using hy
  obtain ⟨at_, rfl⟩ : ∃ m : Nat, y = m := ⟨y.toNat, by omega⟩
  clear hy
  by_cases hn : n ≤ 400
  · have hd : decide (n ≤ 400) = true := by simpa using hn
    have HR := Lib.hid hr; clear hr
    go_enter Tryz.func4, Tryz.ntmps4
    go_wp2_with fail
    refine (awake_e _).mono ?_; rintro e w1 ⟨rfl, hb1⟩
    go_wp2_with fail
    refine (few_any a n cap _).mono ?_; rintro e w' ⟨rfl, rfl⟩
    go_wp2_with fail
    refine (new_any a n cap _).mono ?_; rintro e w' ⟨rfl, rfl⟩
    have Hdk := Lib.hid (deck_law (cap := cap) hn HR.out hb1)
    have HB1 := Lib.hid (hb1.alloc hb1.size (.cells #[.slice a n cap, .int .i64 0, .int .u64 11400714819323198485] 115))
    have zB1 := hb1.size
    clear hb1 HR hd
    go_wp2_with fail
    refine (schema_deal _ _ Hdk.out).mono ?_
    rintro e w2 ⟨vf, vt, vn, vs, s, rfl, hs, hsd, mv⟩
    obtain ⟨Wd, hWd⟩ : ∃ Wd : World, w1.alloc (.cells #[.slice a n cap, .int .i64 0, .int .u64 11400714819323198485] 115) = Wd := ⟨_, rfl⟩
    rw [hWd] at mv hs HB1
    obtain ⟨D, hD⟩ : ∃ D, w1.heap.size = D := ⟨_, rfl⟩
    have zWd : Wd.heap.size = D + 1 := by rw [← hWd, ← hD]; simp
    rw [hD] at mv zB1 ⊢
    obtain ⟨af, cf, rfl⟩ := hs.1.slice
    obtain ⟨at', ct, rfl⟩ := hs.2.1.slice
    obtain ⟨an, cn, rfl⟩ := hs.2.2.1.slice
    obtain ⟨as', cs, rfl⟩ := hs.2.2.2.slice
    have zD := mv.deck.lt
    have hlen5 := (check_fields hsd.check).1.2
    have hlen1 := hsd.some
    obtain ⟨N, hN⟩ : ∃ N, s.fields.length = N := ⟨_, rfl⟩
    rw [hN] at hlen5 hlen1 hs ⊢
    have M2 := Lib.hid mv; have HS := Lib.hid hs; have HSD := Lib.hid hsd; have HNN := Lib.hid hN
    clear mv hs hsd hWd hD Hdk hN
    go_wp2_with fail
    refine wp_calls_world (fun W3 hW3 => ?_)
    have hb3 : Below w2.heap.size w2 W3 := by rw [hW3]; exact (Below.refl w2.heap.size w2).alloc (Nat.le_refl _) _
    have hs3 : W3.heap[w2.heap.size]? = some (.cells #[.slice af N cf, .slice at' s.rules.titles.length ct, .slice an s.rules.nicks.length cn, .slice as' s.rules.streets.length cs] 36 (0, 0)) := by rw [hW3]; exact blk_new rfl
    have M3 := Lib.hid (M2.out.below hb3); have HS3 := Lib.hid hs3; have HSA := Lib.hid (HS.out.below hb3)
    have z23 := M2.out.size
    have hSne : ∀ b, Wd.heap.size ≤ b → b ≠ D := fun b h => by omega
    have HNe := Lib.hid hSne
    clear hb3 hs3 HS hW3 M2 hSne
    refine (pars_deal D N W3 M3.out.deck hlen5).mono ?_
    rintro e w4 ⟨pv, P, rfl, hpv, hP, mv⟩
    obtain ⟨ap, cp, rfl⟩ := hpv.slice
    have HPD := Lib.hid hP
    have M4 := Lib.hid (M3.out.trans mv)
    have HS4 := Lib.hid (mv.blk (k := w2.heap.size) (by omega) HS3.out)
    have HSA4 := Lib.hid (HSA.out.moved HNe.out mv)
    have HPV4 := Lib.hid (hpv.move (S' := fun b => Wd.heap.size ≤ b) (w' := w4) (Nat.le_refl _) fun b hb hs => ⟨rfl, by have h1 := M3.out.size; have hs' : W3.heap.size ≤ b := hs; show Wd.heap.size ≤ b; omega⟩)
    clear hpv hP mv M3 HS3 HSA
    go_wp2_with fail
    refine (key_deal D _ M4.out.deck).mono ?_
    rintro e w5 ⟨k, rfl, mv⟩
    go_wp2_with fail
    refine wp_world (fun W5 hW5 => ?_)
    have hb5 : Below w5.heap.size w5 W5 := by rw [hW5]; exact (Below.refl w5.heap.size w5).alloc (Nat.le_refl _) _
    have hk5 : W5.heap[w5.heap.size]? = some (.cells #[.int .u64 k.1, .int .u64 k.2] 41 (0, 0)) := by rw [hW5]; exact blk_new rfl
    have z5 := mv.deck.lt
    have mv5 := mv.below hb5
    have KA := Lib.hid (show DpAt D Wd w2.heap.size w5.heap.size (fun b => Wd.heap.size ≤ b) (.slice af N cf) (.slice at' s.rules.titles.length ct) (.slice an s.rules.nicks.length cn) (.slice as' s.rules.streets.length cs) s (.slice ap P.length cp) P k W5 from
      ⟨M4.out.trans mv5, mv5.blk (by omega) HS4.out, hk5, HSA4.out.moved HNe.out mv5, HPV4.out.move mv5.size (fun b hb hs => ⟨mv5.grown.block b hb (by have := HNe.out b hs; simp; omega), hs⟩), HNe.out, by omega, by omega⟩)
    obtain ⟨p0, p1, p2, p3⟩ := cellsS KA.out.b
    have mD : Moved D W5 W5.drew := (Moved.start KA.out.m.deck).drew
    clear hb5 hk5 mv mv5 hW5 M4 HS4 HSA4 HPV4
    go_cut [10, 11] (fun s10 s11 wx => ∃ (ra rb : Nat) (sa sb : Value) (r1 r2 : RecL), s10 = .pointer (some ⟨ra, 0, none⟩) ∧ s11 = .pointer (some ⟨rb, 0, none⟩) ∧ wx.heap[ra]? = some (.cells #[.int .i64 r1.id, .int .i64 r1.ver, sa] 49 (0, 0)) ∧ wx.heap[rb]? = some (.cells #[.int .i64 r2.id, .int .i64 r2.ver, sb] 49 (0, 0)) ∧ Vec wx (fun b => D < b ∧ b ≠ ra ∧ b ≠ rb) 1 encS sa r1.vals ∧ Vec wx (fun b => D < b ∧ b ≠ ra ∧ b ≠ rb) 1 encS sb r2.vals ∧ Hid (checkN s r1 = 0 ∧ ∀ x ∈ r1.vals, x.length ≤ 64) ∧ Hid (checkN s r2 = 0 ∧ ∀ x ∈ r2.vals, x.length ≤ 64) ∧ Moved D W5 wx ∧ W5.heap.size ≤ ra ∧ W5.heap.size ≤ rb ∧ ra ≠ rb)
    case first =>
      have zW5 := KA.out.m.deck.lt
      refine wp_region_noPanic ?_
      refine wp_region_held_drew (S := (fun w' => w'.cell? ⟨w2.heap.size, 0, none⟩ = some (.slice af N cf) ∧ w'.cell? ⟨w2.heap.size, 1, none⟩ = some (.slice at' s.rules.titles.length ct) ∧ w'.cell? ⟨w2.heap.size, 2, none⟩ = some (.slice an s.rules.nicks.length cn) ∧ w'.cell? ⟨w2.heap.size, 3, none⟩ = some (.slice as' s.rules.streets.length cs))) (by kernel_rfl) (⟨p0, p1, p2, p3⟩) (fun hHeld => ?_)
      refine wpAnyH_take (i := 0) (v := ?_) rfl (by kernel_rfl) (by kernel_rfl) (by kernel_rfl) (fun _ _ _ h => h) (Or.inl ⟨by rfl, ?_⟩) (by assumption) ?_
      rotate_left 1
      · (intro wS hSw; (try dsimp only at hSw); go_simp; try with_reducible rfl)
      try simp only [List.getElem_toArray, List.getElem_cons_zero, List.getElem_cons_succ, Act.put, List.setIfInBounds_toArray, List.set_cons_zero, List.set_cons_succ]
      refine wpAnyH_take (i := 1) (v := ?_) rfl (by kernel_rfl) (by kernel_rfl) (by kernel_rfl) (fun _ _ _ h => h) (Or.inl ⟨by rfl, ?_⟩) (by assumption) ?_
      rotate_left 1
      · (intro wS hSw; (try dsimp only at hSw); go_simp; try with_reducible rfl)
      try simp only [List.getElem_toArray, List.getElem_cons_zero, List.getElem_cons_succ, Act.put, List.setIfInBounds_toArray, List.set_cons_zero, List.set_cons_succ]
      refine wpAnyH_take (i := 3) (v := ?_) rfl (by kernel_rfl) (by kernel_rfl) (by kernel_rfl) (fun _ _ _ h => h) (Or.inl ⟨by rfl, ?_⟩) (by assumption) ?_
      rotate_left 1
      · (intro wS hSw; (try dsimp only at hSw); go_simp; try with_reducible rfl)
      try simp only [List.getElem_toArray, List.getElem_cons_zero, List.getElem_cons_succ, Act.put, List.setIfInBounds_toArray, List.set_cons_zero, List.set_cons_succ]
      refine wpAnyH_take (i := 4) (v := ?_) rfl (by kernel_rfl) (by kernel_rfl) (by kernel_rfl) (fun _ _ _ h => h) (Or.inl ⟨by rfl, ?_⟩) (by assumption) ?_
      rotate_left 1
      · (intro wS hSw; (try dsimp only at hSw); go_simp; try with_reducible rfl)
      try simp only [List.getElem_toArray, List.getElem_cons_zero, List.getElem_cons_succ, Act.put, List.setIfInBounds_toArray, List.set_cons_zero, List.set_cons_succ]
      refine wpAnyH_ready (rs := [2, 6, 7]) (by kernel_rfl) (by simp) ?_
      refine AllReadyH.cons rfl (fun K hK => ?_) (AllReadyH.cons rfl (fun K hK => ?_) (AllReadyH.cons rfl (fun K hK => ?_) (AllReadyH.nil)))
      focus
        go_simp
        refine (record_deal D (fun b => Wd.heap.size ≤ b) _ _ _ _ s 4 _ (KA.out.moved mD).m.deck (KA.out.moved mD).s HNe.out HSD.out (by decide) (by decide)).mono ?_
        rintro e V1 ⟨_, r1, rfl, ⟨s1, rfl, hv1⟩, -, hc1, hsh1, mv⟩
        have m1 := mD.trans mv
        have hv1 := hv1.move (w' := V1) (S' := fun b => D < b) (Nat.le_refl _) fun b hb' hs => ⟨rfl, by have h1 := mD.size; have hs' := hs; omega⟩
        obtain ⟨a1, c1, es1⟩ := hv1.slice; subst es1
        have HC1 := Lib.hid (show checkN s r1 = 0 ∧ ∀ x ∈ r1.vals, x.length ≤ 64 from ⟨hc1, hsh1⟩); clear hc1 hsh1 mv
        refine hK.out _ _ (⟨(cellsS (KA.out.moved (m1)).b).1, (cellsS (KA.out.moved (m1)).b).2.1, (cellsS (KA.out.moved (m1)).b).2.2.1, (cellsS (KA.out.moved (m1)).b).2.2.2⟩) (fun hHeld => ?_)
        clear hK K
        try simp only [List.getElem_toArray, List.getElem_cons_zero, List.getElem_cons_succ, Act.put, List.setIfInBounds_toArray, List.set_cons_zero, List.set_cons_succ]
        refine wpAnyH_ready (rs := [5, 6, 7]) (by kernel_rfl) (by simp) ?_
        refine AllReadyH.cons rfl (fun K hK => ?_) (AllReadyH.cons rfl (fun K hK => ?_) (AllReadyH.cons rfl (fun K hK => ?_) (AllReadyH.nil)))
        focus
          go_simp
          refine (record_deal D (fun b => Wd.heap.size ≤ b) _ _ _ _ s 4 _ (KA.out.moved m1).m.deck (KA.out.moved m1).s HNe.out HSD.out (by decide) (by decide)).mono ?_
          rintro e V2 ⟨_, r2, rfl, ⟨s2, rfl, hv2⟩, -, hc2, hsh2, mv⟩
          have m2 := m1.trans mv
          have hv1 := hv1.move mv.size (S' := fun b => D < b) fun b hb' hs => ⟨mv.grown.block b hb' (by have hs' := hs; simp; omega), hs⟩
          have hv2 := hv2.move (w' := V2) (S' := fun b => D < b) (Nat.le_refl _) fun b hb' hs => ⟨rfl, by have h1 := m1.size; have hs' := hs; omega⟩
          obtain ⟨a2, c2, es2⟩ := hv2.slice; subst es2
          have HC2 := Lib.hid (show checkN s r2 = 0 ∧ ∀ x ∈ r2.vals, x.length ≤ 64 from ⟨hc2, hsh2⟩); clear hc2 hsh2 mv
          refine hK.out _ _ (⟨(cellsS (KA.out.moved (m2)).b).1, (cellsS (KA.out.moved (m2)).b).2.1, (cellsS (KA.out.moved (m2)).b).2.2.1, (cellsS (KA.out.moved (m2)).b).2.2.2⟩) (fun hHeld => ?_)
          clear hK K
          try simp only [List.getElem_toArray, List.getElem_cons_zero, List.getElem_cons_succ, Act.put, List.setIfInBounds_toArray, List.set_cons_zero, List.set_cons_succ]
          refine wpAnyH_ready (rs := [6, 7]) (by kernel_rfl) (by simp) ?_
          refine AllReadyH.cons rfl (fun K hK => ?_) (AllReadyH.cons rfl (fun K hK => ?_) (AllReadyH.nil))
          focus
            go_simp
            refine hK.out _ _ (⟨(cellsS (KA.out.moved (m2.alloc (.cells #[.int .i64 0, .int .i64 0, .slice none 0 0] 49))).b).1, (cellsS (KA.out.moved (m2.alloc (.cells #[.int .i64 0, .int .i64 0, .slice none 0 0] 49))).b).2.1, (cellsS (KA.out.moved (m2.alloc (.cells #[.int .i64 0, .int .i64 0, .slice none 0 0] 49))).b).2.2.1, (cellsS (KA.out.moved (m2.alloc (.cells #[.int .i64 0, .int .i64 0, .slice none 0 0] 49))).b).2.2.2⟩) (fun hHeld => ?_)
            clear hK K
            try simp only [List.getElem_toArray, List.getElem_cons_zero, List.getElem_cons_succ, Act.put, List.setIfInBounds_toArray, List.set_cons_zero, List.set_cons_succ]
            refine wph_name (fun V3 hV => ?_)
            have m3 : Moved D W5 V3 := by rw [hV]; exact m2.alloc (.cells #[.int .i64 0, .int .i64 0, .slice none 0 0] 49)
            have gA : V3.heap[V2.heap.size]? = some (.cells #[.int .i64 0, .int .i64 0, .slice none 0 0] 49 (0, 0)) := by rw [hV]; exact blk_new rfl
            have hrA : W5.heap.size ≤ V2.heap.size := m2.size
            have hv1 := hv1.move (w' := V3) (S' := fun b => D < b ∧ b ≠ V2.heap.size) (by rw [hV]; simp) fun b hb' hs => ⟨by rw [hV]; exact heap_alloc_old _ _ hb', by have hs' := hs; omega⟩
            have hv2 := hv2.move (w' := V3) (S' := fun b => D < b ∧ b ≠ V2.heap.size) (by rw [hV]; simp) fun b hb' hs => ⟨by rw [hV]; exact heap_alloc_old _ _ hb', by have hs' := hs; omega⟩
            clear hV hHeld
            have hHeld : V3.cell? ⟨w2.heap.size, 0, none⟩ = some (.slice af N cf) ∧ V3.cell? ⟨w2.heap.size, 1, none⟩ = some (.slice at' s.rules.titles.length ct) ∧ V3.cell? ⟨w2.heap.size, 2, none⟩ = some (.slice an s.rules.nicks.length cn) ∧ V3.cell? ⟨w2.heap.size, 3, none⟩ = some (.slice as' s.rules.streets.length cs) := ⟨(cellsS (KA.out.moved (m3)).b).1, (cellsS (KA.out.moved (m3)).b).2.1, (cellsS (KA.out.moved (m3)).b).2.2.1, (cellsS (KA.out.moved (m3)).b).2.2.2⟩
            refine wpAnyH_ready (rs := [7]) (by kernel_rfl) (by simp) ?_
            refine AllReadyH.cons rfl (fun K hK => ?_) (AllReadyH.nil)
            go_simp
            refine hK.out _ _ (⟨(cellsS (KA.out.moved (m3.alloc (.cells #[.int .i64 0, .int .i64 0, .slice none 0 0] 49))).b).1, (cellsS (KA.out.moved (m3.alloc (.cells #[.int .i64 0, .int .i64 0, .slice none 0 0] 49))).b).2.1, (cellsS (KA.out.moved (m3.alloc (.cells #[.int .i64 0, .int .i64 0, .slice none 0 0] 49))).b).2.2.1, (cellsS (KA.out.moved (m3.alloc (.cells #[.int .i64 0, .int .i64 0, .slice none 0 0] 49))).b).2.2.2⟩) (fun hHeld => ?_)
            clear hK K
            try simp only [List.getElem_toArray, List.getElem_cons_zero, List.getElem_cons_succ, Act.put, List.setIfInBounds_toArray, List.set_cons_zero, List.set_cons_succ]
            refine wph_name (fun V4 hV => ?_)
            have m4 : Moved D W5 V4 := by rw [hV]; exact m3.alloc (.cells #[.int .i64 0, .int .i64 0, .slice none 0 0] 49)
            have hltgA := lt_of_blk gA; have gA : V4.heap[V2.heap.size]? = some (.cells #[.int .i64 0, .int .i64 0, .slice none 0 0] 49 (0, 0)) := by rw [hV]; exact blk_old gA
            have gB : V4.heap[V3.heap.size]? = some (.cells #[.int .i64 0, .int .i64 0, .slice none 0 0] 49 (0, 0)) := by rw [hV]; exact blk_new rfl
            have hrB : W5.heap.size ≤ V3.heap.size := m3.size
            have hab : V2.heap.size ≠ V3.heap.size := by omega
            have hv1 := hv1.move (w' := V4) (S' := fun b => D < b ∧ b ≠ V2.heap.size ∧ b ≠ V3.heap.size) (by rw [hV]; simp) fun b hb' hs => ⟨by rw [hV]; exact heap_alloc_old _ _ hb', by have hs' := hs; omega⟩
            have hv2 := hv2.move (w' := V4) (S' := fun b => D < b ∧ b ≠ V2.heap.size ∧ b ≠ V3.heap.size) (by rw [hV]; simp) fun b hb' hs => ⟨by rw [hV]; exact heap_alloc_old _ _ hb', by have hs' := hs; omega⟩
            clear hV hHeld
            have hHeld : V4.cell? ⟨w2.heap.size, 0, none⟩ = some (.slice af N cf) ∧ V4.cell? ⟨w2.heap.size, 1, none⟩ = some (.slice at' s.rules.titles.length ct) ∧ V4.cell? ⟨w2.heap.size, 2, none⟩ = some (.slice an s.rules.nicks.length cn) ∧ V4.cell? ⟨w2.heap.size, 3, none⟩ = some (.slice as' s.rules.streets.length cs) := ⟨(cellsS (KA.out.moved (m4)).b).1, (cellsS (KA.out.moved (m4)).b).2.1, (cellsS (KA.out.moved (m4)).b).2.2.1, (cellsS (KA.out.moved (m4)).b).2.2.2⟩
          rotate_left 1
          focus
            go_simp
            refine hK.out _ _ (⟨(cellsS (KA.out.moved (m2.alloc (.cells #[.int .i64 0, .int .i64 0, .slice none 0 0] 49))).b).1, (cellsS (KA.out.moved (m2.alloc (.cells #[.int .i64 0, .int .i64 0, .slice none 0 0] 49))).b).2.1, (cellsS (KA.out.moved (m2.alloc (.cells #[.int .i64 0, .int .i64 0, .slice none 0 0] 49))).b).2.2.1, (cellsS (KA.out.moved (m2.alloc (.cells #[.int .i64 0, .int .i64 0, .slice none 0 0] 49))).b).2.2.2⟩) (fun hHeld => ?_)
            clear hK K
            try simp only [List.getElem_toArray, List.getElem_cons_zero, List.getElem_cons_succ, Act.put, List.setIfInBounds_toArray, List.set_cons_zero, List.set_cons_succ]
            refine wph_name (fun V3 hV => ?_)
            have m3 : Moved D W5 V3 := by rw [hV]; exact m2.alloc (.cells #[.int .i64 0, .int .i64 0, .slice none 0 0] 49)
            have gB : V3.heap[V2.heap.size]? = some (.cells #[.int .i64 0, .int .i64 0, .slice none 0 0] 49 (0, 0)) := by rw [hV]; exact blk_new rfl
            have hrB : W5.heap.size ≤ V2.heap.size := m2.size
            have hv1 := hv1.move (w' := V3) (S' := fun b => D < b ∧ b ≠ V2.heap.size) (by rw [hV]; simp) fun b hb' hs => ⟨by rw [hV]; exact heap_alloc_old _ _ hb', by have hs' := hs; omega⟩
            have hv2 := hv2.move (w' := V3) (S' := fun b => D < b ∧ b ≠ V2.heap.size) (by rw [hV]; simp) fun b hb' hs => ⟨by rw [hV]; exact heap_alloc_old _ _ hb', by have hs' := hs; omega⟩
            clear hV hHeld
            have hHeld : V3.cell? ⟨w2.heap.size, 0, none⟩ = some (.slice af N cf) ∧ V3.cell? ⟨w2.heap.size, 1, none⟩ = some (.slice at' s.rules.titles.length ct) ∧ V3.cell? ⟨w2.heap.size, 2, none⟩ = some (.slice an s.rules.nicks.length cn) ∧ V3.cell? ⟨w2.heap.size, 3, none⟩ = some (.slice as' s.rules.streets.length cs) := ⟨(cellsS (KA.out.moved (m3)).b).1, (cellsS (KA.out.moved (m3)).b).2.1, (cellsS (KA.out.moved (m3)).b).2.2.1, (cellsS (KA.out.moved (m3)).b).2.2.2⟩
            refine wpAnyH_ready (rs := [6]) (by kernel_rfl) (by simp) ?_
            refine AllReadyH.cons rfl (fun K hK => ?_) (AllReadyH.nil)
            go_simp
            refine hK.out _ _ (⟨(cellsS (KA.out.moved (m3.alloc (.cells #[.int .i64 0, .int .i64 0, .slice none 0 0] 49))).b).1, (cellsS (KA.out.moved (m3.alloc (.cells #[.int .i64 0, .int .i64 0, .slice none 0 0] 49))).b).2.1, (cellsS (KA.out.moved (m3.alloc (.cells #[.int .i64 0, .int .i64 0, .slice none 0 0] 49))).b).2.2.1, (cellsS (KA.out.moved (m3.alloc (.cells #[.int .i64 0, .int .i64 0, .slice none 0 0] 49))).b).2.2.2⟩) (fun hHeld => ?_)
            clear hK K
            try simp only [List.getElem_toArray, List.getElem_cons_zero, List.getElem_cons_succ, Act.put, List.setIfInBounds_toArray, List.set_cons_zero, List.set_cons_succ]
            refine wph_name (fun V4 hV => ?_)
            have m4 : Moved D W5 V4 := by rw [hV]; exact m3.alloc (.cells #[.int .i64 0, .int .i64 0, .slice none 0 0] 49)
            have hltgB := lt_of_blk gB; have gB : V4.heap[V2.heap.size]? = some (.cells #[.int .i64 0, .int .i64 0, .slice none 0 0] 49 (0, 0)) := by rw [hV]; exact blk_old gB
            have gA : V4.heap[V3.heap.size]? = some (.cells #[.int .i64 0, .int .i64 0, .slice none 0 0] 49 (0, 0)) := by rw [hV]; exact blk_new rfl
            have hrA : W5.heap.size ≤ V3.heap.size := m3.size
            have hab : V3.heap.size ≠ V2.heap.size := by omega
            have hv1 := hv1.move (w' := V4) (S' := fun b => D < b ∧ b ≠ V3.heap.size ∧ b ≠ V2.heap.size) (by rw [hV]; simp) fun b hb' hs => ⟨by rw [hV]; exact heap_alloc_old _ _ hb', by have hs' := hs; omega⟩
            have hv2 := hv2.move (w' := V4) (S' := fun b => D < b ∧ b ≠ V3.heap.size ∧ b ≠ V2.heap.size) (by rw [hV]; simp) fun b hb' hs => ⟨by rw [hV]; exact heap_alloc_old _ _ hb', by have hs' := hs; omega⟩
            clear hV hHeld
            have hHeld : V4.cell? ⟨w2.heap.size, 0, none⟩ = some (.slice af N cf) ∧ V4.cell? ⟨w2.heap.size, 1, none⟩ = some (.slice at' s.rules.titles.length ct) ∧ V4.cell? ⟨w2.heap.size, 2, none⟩ = some (.slice an s.rules.nicks.length cn) ∧ V4.cell? ⟨w2.heap.size, 3, none⟩ = some (.slice as' s.rules.streets.length cs) := ⟨(cellsS (KA.out.moved (m4)).b).1, (cellsS (KA.out.moved (m4)).b).2.1, (cellsS (KA.out.moved (m4)).b).2.2.1, (cellsS (KA.out.moved (m4)).b).2.2.2⟩
        rotate_left 2
        focus
          go_simp
          refine hK.out _ _ (⟨(cellsS (KA.out.moved (m1.alloc (.cells #[.int .i64 0, .int .i64 0, .slice none 0 0] 49))).b).1, (cellsS (KA.out.moved (m1.alloc (.cells #[.int .i64 0, .int .i64 0, .slice none 0 0] 49))).b).2.1, (cellsS (KA.out.moved (m1.alloc (.cells #[.int .i64 0, .int .i64 0, .slice none 0 0] 49))).b).2.2.1, (cellsS (KA.out.moved (m1.alloc (.cells #[.int .i64 0, .int .i64 0, .slice none 0 0] 49))).b).2.2.2⟩) (fun hHeld => ?_)
          clear hK K
          try simp only [List.getElem_toArray, List.getElem_cons_zero, List.getElem_cons_succ, Act.put, List.setIfInBounds_toArray, List.set_cons_zero, List.set_cons_succ]
          refine wph_name (fun V2 hV => ?_)
          have m2 : Moved D W5 V2 := by rw [hV]; exact m1.alloc (.cells #[.int .i64 0, .int .i64 0, .slice none 0 0] 49)
          have gA : V2.heap[V1.heap.size]? = some (.cells #[.int .i64 0, .int .i64 0, .slice none 0 0] 49 (0, 0)) := by rw [hV]; exact blk_new rfl
          have hrA : W5.heap.size ≤ V1.heap.size := m1.size
          have hv1 := hv1.move (w' := V2) (S' := fun b => D < b ∧ b ≠ V1.heap.size) (by rw [hV]; simp) fun b hb' hs => ⟨by rw [hV]; exact heap_alloc_old _ _ hb', by have hs' := hs; omega⟩
          clear hV hHeld
          have hHeld : V2.cell? ⟨w2.heap.size, 0, none⟩ = some (.slice af N cf) ∧ V2.cell? ⟨w2.heap.size, 1, none⟩ = some (.slice at' s.rules.titles.length ct) ∧ V2.cell? ⟨w2.heap.size, 2, none⟩ = some (.slice an s.rules.nicks.length cn) ∧ V2.cell? ⟨w2.heap.size, 3, none⟩ = some (.slice as' s.rules.streets.length cs) := ⟨(cellsS (KA.out.moved (m2)).b).1, (cellsS (KA.out.moved (m2)).b).2.1, (cellsS (KA.out.moved (m2)).b).2.2.1, (cellsS (KA.out.moved (m2)).b).2.2.2⟩
          refine wpAnyH_ready (rs := [5, 7]) (by kernel_rfl) (by simp) ?_
          refine AllReadyH.cons rfl (fun K hK => ?_) (AllReadyH.cons rfl (fun K hK => ?_) (AllReadyH.nil))
          focus
            go_simp
            refine (record_deal D (fun b => Wd.heap.size ≤ b) _ _ _ _ s 4 _ (KA.out.moved m2).m.deck (KA.out.moved m2).s HNe.out HSD.out (by decide) (by decide)).mono ?_
            rintro e V3 ⟨_, r2, rfl, ⟨s2, rfl, hv2⟩, -, hc2, hsh2, mv⟩
            have m3 := m2.trans mv
            have hltgA := lt_of_blk gA; have gA := mv.blk (by omega) gA
            have hv1 := hv1.move mv.size (S' := fun b => D < b ∧ b ≠ V1.heap.size) fun b hb' hs => ⟨mv.grown.block b hb' (by have hs' := hs; simp; omega), hs⟩
            have hv2 := hv2.move (w' := V3) (S' := fun b => D < b ∧ b ≠ V1.heap.size) (Nat.le_refl _) fun b hb' hs => ⟨rfl, by have h1 := m2.size; have hs' := hs; omega⟩
            obtain ⟨a2, c2, es2⟩ := hv2.slice; subst es2
            have HC2 := Lib.hid (show checkN s r2 = 0 ∧ ∀ x ∈ r2.vals, x.length ≤ 64 from ⟨hc2, hsh2⟩); clear hc2 hsh2 mv
            refine hK.out _ _ (⟨(cellsS (KA.out.moved (m3)).b).1, (cellsS (KA.out.moved (m3)).b).2.1, (cellsS (KA.out.moved (m3)).b).2.2.1, (cellsS (KA.out.moved (m3)).b).2.2.2⟩) (fun hHeld => ?_)
            clear hK K
            try simp only [List.getElem_toArray, List.getElem_cons_zero, List.getElem_cons_succ, Act.put, List.setIfInBounds_toArray, List.set_cons_zero, List.set_cons_succ]
            refine wpAnyH_ready (rs := [7]) (by kernel_rfl) (by simp) ?_
            refine AllReadyH.cons rfl (fun K hK => ?_) (AllReadyH.nil)
            go_simp
            refine hK.out _ _ (⟨(cellsS (KA.out.moved (m3.alloc (.cells #[.int .i64 0, .int .i64 0, .slice none 0 0] 49))).b).1, (cellsS (KA.out.moved (m3.alloc (.cells #[.int .i64 0, .int .i64 0, .slice none 0 0] 49))).b).2.1, (cellsS (KA.out.moved (m3.alloc (.cells #[.int .i64 0, .int .i64 0, .slice none 0 0] 49))).b).2.2.1, (cellsS (KA.out.moved (m3.alloc (.cells #[.int .i64 0, .int .i64 0, .slice none 0 0] 49))).b).2.2.2⟩) (fun hHeld => ?_)
            clear hK K
            try simp only [List.getElem_toArray, List.getElem_cons_zero, List.getElem_cons_succ, Act.put, List.setIfInBounds_toArray, List.set_cons_zero, List.set_cons_succ]
            refine wph_name (fun V4 hV => ?_)
            have m4 : Moved D W5 V4 := by rw [hV]; exact m3.alloc (.cells #[.int .i64 0, .int .i64 0, .slice none 0 0] 49)
            have hltgA := lt_of_blk gA; have gA : V4.heap[V1.heap.size]? = some (.cells #[.int .i64 0, .int .i64 0, .slice none 0 0] 49 (0, 0)) := by rw [hV]; exact blk_old gA
            have gB : V4.heap[V3.heap.size]? = some (.cells #[.int .i64 0, .int .i64 0, .slice none 0 0] 49 (0, 0)) := by rw [hV]; exact blk_new rfl
            have hrB : W5.heap.size ≤ V3.heap.size := m3.size
            have hab : V1.heap.size ≠ V3.heap.size := by omega
            have hv1 := hv1.move (w' := V4) (S' := fun b => D < b ∧ b ≠ V1.heap.size ∧ b ≠ V3.heap.size) (by rw [hV]; simp) fun b hb' hs => ⟨by rw [hV]; exact heap_alloc_old _ _ hb', by have hs' := hs; omega⟩
            have hv2 := hv2.move (w' := V4) (S' := fun b => D < b ∧ b ≠ V1.heap.size ∧ b ≠ V3.heap.size) (by rw [hV]; simp) fun b hb' hs => ⟨by rw [hV]; exact heap_alloc_old _ _ hb', by have hs' := hs; omega⟩
            clear hV hHeld
            have hHeld : V4.cell? ⟨w2.heap.size, 0, none⟩ = some (.slice af N cf) ∧ V4.cell? ⟨w2.heap.size, 1, none⟩ = some (.slice at' s.rules.titles.length ct) ∧ V4.cell? ⟨w2.heap.size, 2, none⟩ = some (.slice an s.rules.nicks.length cn) ∧ V4.cell? ⟨w2.heap.size, 3, none⟩ = some (.slice as' s.rules.streets.length cs) := ⟨(cellsS (KA.out.moved (m4)).b).1, (cellsS (KA.out.moved (m4)).b).2.1, (cellsS (KA.out.moved (m4)).b).2.2.1, (cellsS (KA.out.moved (m4)).b).2.2.2⟩
          rotate_left 1
          focus
            go_simp
            refine hK.out _ _ (⟨(cellsS (KA.out.moved (m2.alloc (.cells #[.int .i64 0, .int .i64 0, .slice none 0 0] 49))).b).1, (cellsS (KA.out.moved (m2.alloc (.cells #[.int .i64 0, .int .i64 0, .slice none 0 0] 49))).b).2.1, (cellsS (KA.out.moved (m2.alloc (.cells #[.int .i64 0, .int .i64 0, .slice none 0 0] 49))).b).2.2.1, (cellsS (KA.out.moved (m2.alloc (.cells #[.int .i64 0, .int .i64 0, .slice none 0 0] 49))).b).2.2.2⟩) (fun hHeld => ?_)
            clear hK K
            try simp only [List.getElem_toArray, List.getElem_cons_zero, List.getElem_cons_succ, Act.put, List.setIfInBounds_toArray, List.set_cons_zero, List.set_cons_succ]
            refine wph_name (fun V3 hV => ?_)
            have m3 : Moved D W5 V3 := by rw [hV]; exact m2.alloc (.cells #[.int .i64 0, .int .i64 0, .slice none 0 0] 49)
            have hltgA := lt_of_blk gA; have gA : V3.heap[V1.heap.size]? = some (.cells #[.int .i64 0, .int .i64 0, .slice none 0 0] 49 (0, 0)) := by rw [hV]; exact blk_old gA
            have gB : V3.heap[V2.heap.size]? = some (.cells #[.int .i64 0, .int .i64 0, .slice none 0 0] 49 (0, 0)) := by rw [hV]; exact blk_new rfl
            have hrB : W5.heap.size ≤ V2.heap.size := m2.size
            have hab : V1.heap.size ≠ V2.heap.size := by omega
            have hv1 := hv1.move (w' := V3) (S' := fun b => D < b ∧ b ≠ V1.heap.size ∧ b ≠ V2.heap.size) (by rw [hV]; simp) fun b hb' hs => ⟨by rw [hV]; exact heap_alloc_old _ _ hb', by have hs' := hs; omega⟩
            clear hV hHeld
            have hHeld : V3.cell? ⟨w2.heap.size, 0, none⟩ = some (.slice af N cf) ∧ V3.cell? ⟨w2.heap.size, 1, none⟩ = some (.slice at' s.rules.titles.length ct) ∧ V3.cell? ⟨w2.heap.size, 2, none⟩ = some (.slice an s.rules.nicks.length cn) ∧ V3.cell? ⟨w2.heap.size, 3, none⟩ = some (.slice as' s.rules.streets.length cs) := ⟨(cellsS (KA.out.moved (m3)).b).1, (cellsS (KA.out.moved (m3)).b).2.1, (cellsS (KA.out.moved (m3)).b).2.2.1, (cellsS (KA.out.moved (m3)).b).2.2.2⟩
            refine wpAnyH_ready (rs := [5]) (by kernel_rfl) (by simp) ?_
            refine AllReadyH.cons rfl (fun K hK => ?_) (AllReadyH.nil)
            go_simp
            refine (record_deal D (fun b => Wd.heap.size ≤ b) _ _ _ _ s 4 _ (KA.out.moved m3).m.deck (KA.out.moved m3).s HNe.out HSD.out (by decide) (by decide)).mono ?_
            rintro e V4 ⟨_, r2, rfl, ⟨s2, rfl, hv2⟩, -, hc2, hsh2, mv⟩
            have m4 := m3.trans mv
            have hltgA := lt_of_blk gA; have gA := mv.blk (by omega) gA
            have hltgB := lt_of_blk gB; have gB := mv.blk (by omega) gB
            have hv1 := hv1.move mv.size (S' := fun b => D < b ∧ b ≠ V1.heap.size ∧ b ≠ V2.heap.size) fun b hb' hs => ⟨mv.grown.block b hb' (by have hs' := hs; simp; omega), hs⟩
            have hv2 := hv2.move (w' := V4) (S' := fun b => D < b ∧ b ≠ V1.heap.size ∧ b ≠ V2.heap.size) (Nat.le_refl _) fun b hb' hs => ⟨rfl, by have h1 := m3.size; have hs' := hs; omega⟩
            obtain ⟨a2, c2, es2⟩ := hv2.slice; subst es2
            have HC2 := Lib.hid (show checkN s r2 = 0 ∧ ∀ x ∈ r2.vals, x.length ≤ 64 from ⟨hc2, hsh2⟩); clear hc2 hsh2 mv
            refine hK.out _ _ (⟨(cellsS (KA.out.moved (m4)).b).1, (cellsS (KA.out.moved (m4)).b).2.1, (cellsS (KA.out.moved (m4)).b).2.2.1, (cellsS (KA.out.moved (m4)).b).2.2.2⟩) (fun hHeld => ?_)
            clear hK K
            try simp only [List.getElem_toArray, List.getElem_cons_zero, List.getElem_cons_succ, Act.put, List.setIfInBounds_toArray, List.set_cons_zero, List.set_cons_succ]
        rotate_left 2
        focus
          go_simp
          refine hK.out _ _ (⟨(cellsS (KA.out.moved (m1.alloc (.cells #[.int .i64 0, .int .i64 0, .slice none 0 0] 49))).b).1, (cellsS (KA.out.moved (m1.alloc (.cells #[.int .i64 0, .int .i64 0, .slice none 0 0] 49))).b).2.1, (cellsS (KA.out.moved (m1.alloc (.cells #[.int .i64 0, .int .i64 0, .slice none 0 0] 49))).b).2.2.1, (cellsS (KA.out.moved (m1.alloc (.cells #[.int .i64 0, .int .i64 0, .slice none 0 0] 49))).b).2.2.2⟩) (fun hHeld => ?_)
          clear hK K
          try simp only [List.getElem_toArray, List.getElem_cons_zero, List.getElem_cons_succ, Act.put, List.setIfInBounds_toArray, List.set_cons_zero, List.set_cons_succ]
          refine wph_name (fun V2 hV => ?_)
          have m2 : Moved D W5 V2 := by rw [hV]; exact m1.alloc (.cells #[.int .i64 0, .int .i64 0, .slice none 0 0] 49)
          have gB : V2.heap[V1.heap.size]? = some (.cells #[.int .i64 0, .int .i64 0, .slice none 0 0] 49 (0, 0)) := by rw [hV]; exact blk_new rfl
          have hrB : W5.heap.size ≤ V1.heap.size := m1.size
          have hv1 := hv1.move (w' := V2) (S' := fun b => D < b ∧ b ≠ V1.heap.size) (by rw [hV]; simp) fun b hb' hs => ⟨by rw [hV]; exact heap_alloc_old _ _ hb', by have hs' := hs; omega⟩
          clear hV hHeld
          have hHeld : V2.cell? ⟨w2.heap.size, 0, none⟩ = some (.slice af N cf) ∧ V2.cell? ⟨w2.heap.size, 1, none⟩ = some (.slice at' s.rules.titles.length ct) ∧ V2.cell? ⟨w2.heap.size, 2, none⟩ = some (.slice an s.rules.nicks.length cn) ∧ V2.cell? ⟨w2.heap.size, 3, none⟩ = some (.slice as' s.rules.streets.length cs) := ⟨(cellsS (KA.out.moved (m2)).b).1, (cellsS (KA.out.moved (m2)).b).2.1, (cellsS (KA.out.moved (m2)).b).2.2.1, (cellsS (KA.out.moved (m2)).b).2.2.2⟩
          refine wpAnyH_ready (rs := [5, 6]) (by kernel_rfl) (by simp) ?_
          refine AllReadyH.cons rfl (fun K hK => ?_) (AllReadyH.cons rfl (fun K hK => ?_) (AllReadyH.nil))
          focus
            go_simp
            refine (record_deal D (fun b => Wd.heap.size ≤ b) _ _ _ _ s 4 _ (KA.out.moved m2).m.deck (KA.out.moved m2).s HNe.out HSD.out (by decide) (by decide)).mono ?_
            rintro e V3 ⟨_, r2, rfl, ⟨s2, rfl, hv2⟩, -, hc2, hsh2, mv⟩
            have m3 := m2.trans mv
            have hltgB := lt_of_blk gB; have gB := mv.blk (by omega) gB
            have hv1 := hv1.move mv.size (S' := fun b => D < b ∧ b ≠ V1.heap.size) fun b hb' hs => ⟨mv.grown.block b hb' (by have hs' := hs; simp; omega), hs⟩
            have hv2 := hv2.move (w' := V3) (S' := fun b => D < b ∧ b ≠ V1.heap.size) (Nat.le_refl _) fun b hb' hs => ⟨rfl, by have h1 := m2.size; have hs' := hs; omega⟩
            obtain ⟨a2, c2, es2⟩ := hv2.slice; subst es2
            have HC2 := Lib.hid (show checkN s r2 = 0 ∧ ∀ x ∈ r2.vals, x.length ≤ 64 from ⟨hc2, hsh2⟩); clear hc2 hsh2 mv
            refine hK.out _ _ (⟨(cellsS (KA.out.moved (m3)).b).1, (cellsS (KA.out.moved (m3)).b).2.1, (cellsS (KA.out.moved (m3)).b).2.2.1, (cellsS (KA.out.moved (m3)).b).2.2.2⟩) (fun hHeld => ?_)
            clear hK K
            try simp only [List.getElem_toArray, List.getElem_cons_zero, List.getElem_cons_succ, Act.put, List.setIfInBounds_toArray, List.set_cons_zero, List.set_cons_succ]
            refine wpAnyH_ready (rs := [6]) (by kernel_rfl) (by simp) ?_
            refine AllReadyH.cons rfl (fun K hK => ?_) (AllReadyH.nil)
            go_simp
            refine hK.out _ _ (⟨(cellsS (KA.out.moved (m3.alloc (.cells #[.int .i64 0, .int .i64 0, .slice none 0 0] 49))).b).1, (cellsS (KA.out.moved (m3.alloc (.cells #[.int .i64 0, .int .i64 0, .slice none 0 0] 49))).b).2.1, (cellsS (KA.out.moved (m3.alloc (.cells #[.int .i64 0, .int .i64 0, .slice none 0 0] 49))).b).2.2.1, (cellsS (KA.out.moved (m3.alloc (.cells #[.int .i64 0, .int .i64 0, .slice none 0 0] 49))).b).2.2.2⟩) (fun hHeld => ?_)
            clear hK K
            try simp only [List.getElem_toArray, List.getElem_cons_zero, List.getElem_cons_succ, Act.put, List.setIfInBounds_toArray, List.set_cons_zero, List.set_cons_succ]
            refine wph_name (fun V4 hV => ?_)
            have m4 : Moved D W5 V4 := by rw [hV]; exact m3.alloc (.cells #[.int .i64 0, .int .i64 0, .slice none 0 0] 49)
            have hltgB := lt_of_blk gB; have gB : V4.heap[V1.heap.size]? = some (.cells #[.int .i64 0, .int .i64 0, .slice none 0 0] 49 (0, 0)) := by rw [hV]; exact blk_old gB
            have gA : V4.heap[V3.heap.size]? = some (.cells #[.int .i64 0, .int .i64 0, .slice none 0 0] 49 (0, 0)) := by rw [hV]; exact blk_new rfl
            have hrA : W5.heap.size ≤ V3.heap.size := m3.size
            have hab : V3.heap.size ≠ V1.heap.size := by omega
            have hv1 := hv1.move (w' := V4) (S' := fun b => D < b ∧ b ≠ V3.heap.size ∧ b ≠ V1.heap.size) (by rw [hV]; simp) fun b hb' hs => ⟨by rw [hV]; exact heap_alloc_old _ _ hb', by have hs' := hs; omega⟩
            have hv2 := hv2.move (w' := V4) (S' := fun b => D < b ∧ b ≠ V3.heap.size ∧ b ≠ V1.heap.size) (by rw [hV]; simp) fun b hb' hs => ⟨by rw [hV]; exact heap_alloc_old _ _ hb', by have hs' := hs; omega⟩
            clear hV hHeld
            have hHeld : V4.cell? ⟨w2.heap.size, 0, none⟩ = some (.slice af N cf) ∧ V4.cell? ⟨w2.heap.size, 1, none⟩ = some (.slice at' s.rules.titles.length ct) ∧ V4.cell? ⟨w2.heap.size, 2, none⟩ = some (.slice an s.rules.nicks.length cn) ∧ V4.cell? ⟨w2.heap.size, 3, none⟩ = some (.slice as' s.rules.streets.length cs) := ⟨(cellsS (KA.out.moved (m4)).b).1, (cellsS (KA.out.moved (m4)).b).2.1, (cellsS (KA.out.moved (m4)).b).2.2.1, (cellsS (KA.out.moved (m4)).b).2.2.2⟩
          rotate_left 1
          focus
            go_simp
            refine hK.out _ _ (⟨(cellsS (KA.out.moved (m2.alloc (.cells #[.int .i64 0, .int .i64 0, .slice none 0 0] 49))).b).1, (cellsS (KA.out.moved (m2.alloc (.cells #[.int .i64 0, .int .i64 0, .slice none 0 0] 49))).b).2.1, (cellsS (KA.out.moved (m2.alloc (.cells #[.int .i64 0, .int .i64 0, .slice none 0 0] 49))).b).2.2.1, (cellsS (KA.out.moved (m2.alloc (.cells #[.int .i64 0, .int .i64 0, .slice none 0 0] 49))).b).2.2.2⟩) (fun hHeld => ?_)
            clear hK K
            try simp only [List.getElem_toArray, List.getElem_cons_zero, List.getElem_cons_succ, Act.put, List.setIfInBounds_toArray, List.set_cons_zero, List.set_cons_succ]
            refine wph_name (fun V3 hV => ?_)
            have m3 : Moved D W5 V3 := by rw [hV]; exact m2.alloc (.cells #[.int .i64 0, .int .i64 0, .slice none 0 0] 49)
            have hltgB := lt_of_blk gB; have gB : V3.heap[V1.heap.size]? = some (.cells #[.int .i64 0, .int .i64 0, .slice none 0 0] 49 (0, 0)) := by rw [hV]; exact blk_old gB
            have gA : V3.heap[V2.heap.size]? = some (.cells #[.int .i64 0, .int .i64 0, .slice none 0 0] 49 (0, 0)) := by rw [hV]; exact blk_new rfl
            have hrA : W5.heap.size ≤ V2.heap.size := m2.size
            have hab : V2.heap.size ≠ V1.heap.size := by omega
            have hv1 := hv1.move (w' := V3) (S' := fun b => D < b ∧ b ≠ V2.heap.size ∧ b ≠ V1.heap.size) (by rw [hV]; simp) fun b hb' hs => ⟨by rw [hV]; exact heap_alloc_old _ _ hb', by have hs' := hs; omega⟩
            clear hV hHeld
            have hHeld : V3.cell? ⟨w2.heap.size, 0, none⟩ = some (.slice af N cf) ∧ V3.cell? ⟨w2.heap.size, 1, none⟩ = some (.slice at' s.rules.titles.length ct) ∧ V3.cell? ⟨w2.heap.size, 2, none⟩ = some (.slice an s.rules.nicks.length cn) ∧ V3.cell? ⟨w2.heap.size, 3, none⟩ = some (.slice as' s.rules.streets.length cs) := ⟨(cellsS (KA.out.moved (m3)).b).1, (cellsS (KA.out.moved (m3)).b).2.1, (cellsS (KA.out.moved (m3)).b).2.2.1, (cellsS (KA.out.moved (m3)).b).2.2.2⟩
            refine wpAnyH_ready (rs := [5]) (by kernel_rfl) (by simp) ?_
            refine AllReadyH.cons rfl (fun K hK => ?_) (AllReadyH.nil)
            go_simp
            refine (record_deal D (fun b => Wd.heap.size ≤ b) _ _ _ _ s 4 _ (KA.out.moved m3).m.deck (KA.out.moved m3).s HNe.out HSD.out (by decide) (by decide)).mono ?_
            rintro e V4 ⟨_, r2, rfl, ⟨s2, rfl, hv2⟩, -, hc2, hsh2, mv⟩
            have m4 := m3.trans mv
            have hltgB := lt_of_blk gB; have gB := mv.blk (by omega) gB
            have hltgA := lt_of_blk gA; have gA := mv.blk (by omega) gA
            have hv1 := hv1.move mv.size (S' := fun b => D < b ∧ b ≠ V2.heap.size ∧ b ≠ V1.heap.size) fun b hb' hs => ⟨mv.grown.block b hb' (by have hs' := hs; simp; omega), hs⟩
            have hv2 := hv2.move (w' := V4) (S' := fun b => D < b ∧ b ≠ V2.heap.size ∧ b ≠ V1.heap.size) (Nat.le_refl _) fun b hb' hs => ⟨rfl, by have h1 := m3.size; have hs' := hs; omega⟩
            obtain ⟨a2, c2, es2⟩ := hv2.slice; subst es2
            have HC2 := Lib.hid (show checkN s r2 = 0 ∧ ∀ x ∈ r2.vals, x.length ≤ 64 from ⟨hc2, hsh2⟩); clear hc2 hsh2 mv
            refine hK.out _ _ (⟨(cellsS (KA.out.moved (m4)).b).1, (cellsS (KA.out.moved (m4)).b).2.1, (cellsS (KA.out.moved (m4)).b).2.2.1, (cellsS (KA.out.moved (m4)).b).2.2.2⟩) (fun hHeld => ?_)
            clear hK K
            try simp only [List.getElem_toArray, List.getElem_cons_zero, List.getElem_cons_succ, Act.put, List.setIfInBounds_toArray, List.set_cons_zero, List.set_cons_succ]
      rotate_left 6
      focus
        go_simp
        refine hK.out _ _ (⟨(cellsS (KA.out.moved (mD.alloc (.cells #[.int .i64 0, .int .i64 0, .slice none 0 0] 49))).b).1, (cellsS (KA.out.moved (mD.alloc (.cells #[.int .i64 0, .int .i64 0, .slice none 0 0] 49))).b).2.1, (cellsS (KA.out.moved (mD.alloc (.cells #[.int .i64 0, .int .i64 0, .slice none 0 0] 49))).b).2.2.1, (cellsS (KA.out.moved (mD.alloc (.cells #[.int .i64 0, .int .i64 0, .slice none 0 0] 49))).b).2.2.2⟩) (fun hHeld => ?_)
        clear hK K
        try simp only [List.getElem_toArray, List.getElem_cons_zero, List.getElem_cons_succ, Act.put, List.setIfInBounds_toArray, List.set_cons_zero, List.set_cons_succ]
        refine wph_name (fun V1 hV => ?_)
        have m1 : Moved D W5 V1 := by rw [hV]; exact mD.alloc (.cells #[.int .i64 0, .int .i64 0, .slice none 0 0] 49)
        have gA : V1.heap[W5.heap.size]? = some (.cells #[.int .i64 0, .int .i64 0, .slice none 0 0] 49 (0, 0)) := by rw [hV]; exact blk_new rfl
        have hrA : W5.heap.size ≤ W5.heap.size := mD.size
        clear hV hHeld
        have hHeld : V1.cell? ⟨w2.heap.size, 0, none⟩ = some (.slice af N cf) ∧ V1.cell? ⟨w2.heap.size, 1, none⟩ = some (.slice at' s.rules.titles.length ct) ∧ V1.cell? ⟨w2.heap.size, 2, none⟩ = some (.slice an s.rules.nicks.length cn) ∧ V1.cell? ⟨w2.heap.size, 3, none⟩ = some (.slice as' s.rules.streets.length cs) := ⟨(cellsS (KA.out.moved (m1)).b).1, (cellsS (KA.out.moved (m1)).b).2.1, (cellsS (KA.out.moved (m1)).b).2.2.1, (cellsS (KA.out.moved (m1)).b).2.2.2⟩
        refine wpAnyH_ready (rs := [2, 7]) (by kernel_rfl) (by simp) ?_
        refine AllReadyH.cons rfl (fun K hK => ?_) (AllReadyH.cons rfl (fun K hK => ?_) (AllReadyH.nil))
        focus
          go_simp
          refine (record_deal D (fun b => Wd.heap.size ≤ b) _ _ _ _ s 4 _ (KA.out.moved m1).m.deck (KA.out.moved m1).s HNe.out HSD.out (by decide) (by decide)).mono ?_
          rintro e V2 ⟨_, r1, rfl, ⟨s1, rfl, hv1⟩, -, hc1, hsh1, mv⟩
          have m2 := m1.trans mv
          have hltgA := lt_of_blk gA; have gA := mv.blk (by omega) gA
          have hv1 := hv1.move (w' := V2) (S' := fun b => D < b ∧ b ≠ W5.heap.size) (Nat.le_refl _) fun b hb' hs => ⟨rfl, by have h1 := m1.size; have hs' := hs; omega⟩
          obtain ⟨a1, c1, es1⟩ := hv1.slice; subst es1
          have HC1 := Lib.hid (show checkN s r1 = 0 ∧ ∀ x ∈ r1.vals, x.length ≤ 64 from ⟨hc1, hsh1⟩); clear hc1 hsh1 mv
          refine hK.out _ _ (⟨(cellsS (KA.out.moved (m2)).b).1, (cellsS (KA.out.moved (m2)).b).2.1, (cellsS (KA.out.moved (m2)).b).2.2.1, (cellsS (KA.out.moved (m2)).b).2.2.2⟩) (fun hHeld => ?_)
          clear hK K
          try simp only [List.getElem_toArray, List.getElem_cons_zero, List.getElem_cons_succ, Act.put, List.setIfInBounds_toArray, List.set_cons_zero, List.set_cons_succ]
          refine wpAnyH_ready (rs := [5, 7]) (by kernel_rfl) (by simp) ?_
          refine AllReadyH.cons rfl (fun K hK => ?_) (AllReadyH.cons rfl (fun K hK => ?_) (AllReadyH.nil))
          focus
            go_simp
            refine (record_deal D (fun b => Wd.heap.size ≤ b) _ _ _ _ s 4 _ (KA.out.moved m2).m.deck (KA.out.moved m2).s HNe.out HSD.out (by decide) (by decide)).mono ?_
            rintro e V3 ⟨_, r2, rfl, ⟨s2, rfl, hv2⟩, -, hc2, hsh2, mv⟩
            have m3 := m2.trans mv
            have hltgA := lt_of_blk gA; have gA := mv.blk (by omega) gA
            have hv1 := hv1.move mv.size (S' := fun b => D < b ∧ b ≠ W5.heap.size) fun b hb' hs => ⟨mv.grown.block b hb' (by have hs' := hs; simp; omega), hs⟩
            have hv2 := hv2.move (w' := V3) (S' := fun b => D < b ∧ b ≠ W5.heap.size) (Nat.le_refl _) fun b hb' hs => ⟨rfl, by have h1 := m2.size; have hs' := hs; omega⟩
            obtain ⟨a2, c2, es2⟩ := hv2.slice; subst es2
            have HC2 := Lib.hid (show checkN s r2 = 0 ∧ ∀ x ∈ r2.vals, x.length ≤ 64 from ⟨hc2, hsh2⟩); clear hc2 hsh2 mv
            refine hK.out _ _ (⟨(cellsS (KA.out.moved (m3)).b).1, (cellsS (KA.out.moved (m3)).b).2.1, (cellsS (KA.out.moved (m3)).b).2.2.1, (cellsS (KA.out.moved (m3)).b).2.2.2⟩) (fun hHeld => ?_)
            clear hK K
            try simp only [List.getElem_toArray, List.getElem_cons_zero, List.getElem_cons_succ, Act.put, List.setIfInBounds_toArray, List.set_cons_zero, List.set_cons_succ]
            refine wpAnyH_ready (rs := [7]) (by kernel_rfl) (by simp) ?_
            refine AllReadyH.cons rfl (fun K hK => ?_) (AllReadyH.nil)
            go_simp
            refine hK.out _ _ (⟨(cellsS (KA.out.moved (m3.alloc (.cells #[.int .i64 0, .int .i64 0, .slice none 0 0] 49))).b).1, (cellsS (KA.out.moved (m3.alloc (.cells #[.int .i64 0, .int .i64 0, .slice none 0 0] 49))).b).2.1, (cellsS (KA.out.moved (m3.alloc (.cells #[.int .i64 0, .int .i64 0, .slice none 0 0] 49))).b).2.2.1, (cellsS (KA.out.moved (m3.alloc (.cells #[.int .i64 0, .int .i64 0, .slice none 0 0] 49))).b).2.2.2⟩) (fun hHeld => ?_)
            clear hK K
            try simp only [List.getElem_toArray, List.getElem_cons_zero, List.getElem_cons_succ, Act.put, List.setIfInBounds_toArray, List.set_cons_zero, List.set_cons_succ]
            refine wph_name (fun V4 hV => ?_)
            have m4 : Moved D W5 V4 := by rw [hV]; exact m3.alloc (.cells #[.int .i64 0, .int .i64 0, .slice none 0 0] 49)
            have hltgA := lt_of_blk gA; have gA : V4.heap[W5.heap.size]? = some (.cells #[.int .i64 0, .int .i64 0, .slice none 0 0] 49 (0, 0)) := by rw [hV]; exact blk_old gA
            have gB : V4.heap[V3.heap.size]? = some (.cells #[.int .i64 0, .int .i64 0, .slice none 0 0] 49 (0, 0)) := by rw [hV]; exact blk_new rfl
            have hrB : W5.heap.size ≤ V3.heap.size := m3.size
            have hab : W5.heap.size ≠ V3.heap.size := by omega
            have hv1 := hv1.move (w' := V4) (S' := fun b => D < b ∧ b ≠ W5.heap.size ∧ b ≠ V3.heap.size) (by rw [hV]; simp) fun b hb' hs => ⟨by rw [hV]; exact heap_alloc_old _ _ hb', by have hs' := hs; omega⟩
            have hv2 := hv2.move (w' := V4) (S' := fun b => D < b ∧ b ≠ W5.heap.size ∧ b ≠ V3.heap.size) (by rw [hV]; simp) fun b hb' hs => ⟨by rw [hV]; exact heap_alloc_old _ _ hb', by have hs' := hs; omega⟩
            clear hV hHeld
            have hHeld : V4.cell? ⟨w2.heap.size, 0, none⟩ = some (.slice af N cf) ∧ V4.cell? ⟨w2.heap.size, 1, none⟩ = some (.slice at' s.rules.titles.length ct) ∧ V4.cell? ⟨w2.heap.size, 2, none⟩ = some (.slice an s.rules.nicks.length cn) ∧ V4.cell? ⟨w2.heap.size, 3, none⟩ = some (.slice as' s.rules.streets.length cs) := ⟨(cellsS (KA.out.moved (m4)).b).1, (cellsS (KA.out.moved (m4)).b).2.1, (cellsS (KA.out.moved (m4)).b).2.2.1, (cellsS (KA.out.moved (m4)).b).2.2.2⟩
          rotate_left 1
          focus
            go_simp
            refine hK.out _ _ (⟨(cellsS (KA.out.moved (m2.alloc (.cells #[.int .i64 0, .int .i64 0, .slice none 0 0] 49))).b).1, (cellsS (KA.out.moved (m2.alloc (.cells #[.int .i64 0, .int .i64 0, .slice none 0 0] 49))).b).2.1, (cellsS (KA.out.moved (m2.alloc (.cells #[.int .i64 0, .int .i64 0, .slice none 0 0] 49))).b).2.2.1, (cellsS (KA.out.moved (m2.alloc (.cells #[.int .i64 0, .int .i64 0, .slice none 0 0] 49))).b).2.2.2⟩) (fun hHeld => ?_)
            clear hK K
            try simp only [List.getElem_toArray, List.getElem_cons_zero, List.getElem_cons_succ, Act.put, List.setIfInBounds_toArray, List.set_cons_zero, List.set_cons_succ]
            refine wph_name (fun V3 hV => ?_)
            have m3 : Moved D W5 V3 := by rw [hV]; exact m2.alloc (.cells #[.int .i64 0, .int .i64 0, .slice none 0 0] 49)
            have hltgA := lt_of_blk gA; have gA : V3.heap[W5.heap.size]? = some (.cells #[.int .i64 0, .int .i64 0, .slice none 0 0] 49 (0, 0)) := by rw [hV]; exact blk_old gA
            have gB : V3.heap[V2.heap.size]? = some (.cells #[.int .i64 0, .int .i64 0, .slice none 0 0] 49 (0, 0)) := by rw [hV]; exact blk_new rfl
            have hrB : W5.heap.size ≤ V2.heap.size := m2.size
            have hab : W5.heap.size ≠ V2.heap.size := by omega
            have hv1 := hv1.move (w' := V3) (S' := fun b => D < b ∧ b ≠ W5.heap.size ∧ b ≠ V2.heap.size) (by rw [hV]; simp) fun b hb' hs => ⟨by rw [hV]; exact heap_alloc_old _ _ hb', by have hs' := hs; omega⟩
            clear hV hHeld
            have hHeld : V3.cell? ⟨w2.heap.size, 0, none⟩ = some (.slice af N cf) ∧ V3.cell? ⟨w2.heap.size, 1, none⟩ = some (.slice at' s.rules.titles.length ct) ∧ V3.cell? ⟨w2.heap.size, 2, none⟩ = some (.slice an s.rules.nicks.length cn) ∧ V3.cell? ⟨w2.heap.size, 3, none⟩ = some (.slice as' s.rules.streets.length cs) := ⟨(cellsS (KA.out.moved (m3)).b).1, (cellsS (KA.out.moved (m3)).b).2.1, (cellsS (KA.out.moved (m3)).b).2.2.1, (cellsS (KA.out.moved (m3)).b).2.2.2⟩
            refine wpAnyH_ready (rs := [5]) (by kernel_rfl) (by simp) ?_
            refine AllReadyH.cons rfl (fun K hK => ?_) (AllReadyH.nil)
            go_simp
            refine (record_deal D (fun b => Wd.heap.size ≤ b) _ _ _ _ s 4 _ (KA.out.moved m3).m.deck (KA.out.moved m3).s HNe.out HSD.out (by decide) (by decide)).mono ?_
            rintro e V4 ⟨_, r2, rfl, ⟨s2, rfl, hv2⟩, -, hc2, hsh2, mv⟩
            have m4 := m3.trans mv
            have hltgA := lt_of_blk gA; have gA := mv.blk (by omega) gA
            have hltgB := lt_of_blk gB; have gB := mv.blk (by omega) gB
            have hv1 := hv1.move mv.size (S' := fun b => D < b ∧ b ≠ W5.heap.size ∧ b ≠ V2.heap.size) fun b hb' hs => ⟨mv.grown.block b hb' (by have hs' := hs; simp; omega), hs⟩
            have hv2 := hv2.move (w' := V4) (S' := fun b => D < b ∧ b ≠ W5.heap.size ∧ b ≠ V2.heap.size) (Nat.le_refl _) fun b hb' hs => ⟨rfl, by have h1 := m3.size; have hs' := hs; omega⟩
            obtain ⟨a2, c2, es2⟩ := hv2.slice; subst es2
            have HC2 := Lib.hid (show checkN s r2 = 0 ∧ ∀ x ∈ r2.vals, x.length ≤ 64 from ⟨hc2, hsh2⟩); clear hc2 hsh2 mv
            refine hK.out _ _ (⟨(cellsS (KA.out.moved (m4)).b).1, (cellsS (KA.out.moved (m4)).b).2.1, (cellsS (KA.out.moved (m4)).b).2.2.1, (cellsS (KA.out.moved (m4)).b).2.2.2⟩) (fun hHeld => ?_)
            clear hK K
            try simp only [List.getElem_toArray, List.getElem_cons_zero, List.getElem_cons_succ, Act.put, List.setIfInBounds_toArray, List.set_cons_zero, List.set_cons_succ]
        rotate_left 2
        focus
          go_simp
          refine hK.out _ _ (⟨(cellsS (KA.out.moved (m1.alloc (.cells #[.int .i64 0, .int .i64 0, .slice none 0 0] 49))).b).1, (cellsS (KA.out.moved (m1.alloc (.cells #[.int .i64 0, .int .i64 0, .slice none 0 0] 49))).b).2.1, (cellsS (KA.out.moved (m1.alloc (.cells #[.int .i64 0, .int .i64 0, .slice none 0 0] 49))).b).2.2.1, (cellsS (KA.out.moved (m1.alloc (.cells #[.int .i64 0, .int .i64 0, .slice none 0 0] 49))).b).2.2.2⟩) (fun hHeld => ?_)
          clear hK K
          try simp only [List.getElem_toArray, List.getElem_cons_zero, List.getElem_cons_succ, Act.put, List.setIfInBounds_toArray, List.set_cons_zero, List.set_cons_succ]
          refine wph_name (fun V2 hV => ?_)
          have m2 : Moved D W5 V2 := by rw [hV]; exact m1.alloc (.cells #[.int .i64 0, .int .i64 0, .slice none 0 0] 49)
          have hltgA := lt_of_blk gA; have gA : V2.heap[W5.heap.size]? = some (.cells #[.int .i64 0, .int .i64 0, .slice none 0 0] 49 (0, 0)) := by rw [hV]; exact blk_old gA
          have gB : V2.heap[V1.heap.size]? = some (.cells #[.int .i64 0, .int .i64 0, .slice none 0 0] 49 (0, 0)) := by rw [hV]; exact blk_new rfl
          have hrB : W5.heap.size ≤ V1.heap.size := m1.size
          have hab : W5.heap.size ≠ V1.heap.size := by omega
          clear hV hHeld
          have hHeld : V2.cell? ⟨w2.heap.size, 0, none⟩ = some (.slice af N cf) ∧ V2.cell? ⟨w2.heap.size, 1, none⟩ = some (.slice at' s.rules.titles.length ct) ∧ V2.cell? ⟨w2.heap.size, 2, none⟩ = some (.slice an s.rules.nicks.length cn) ∧ V2.cell? ⟨w2.heap.size, 3, none⟩ = some (.slice as' s.rules.streets.length cs) := ⟨(cellsS (KA.out.moved (m2)).b).1, (cellsS (KA.out.moved (m2)).b).2.1, (cellsS (KA.out.moved (m2)).b).2.2.1, (cellsS (KA.out.moved (m2)).b).2.2.2⟩
          refine wpAnyH_ready (rs := [2]) (by kernel_rfl) (by simp) ?_
          refine AllReadyH.cons rfl (fun K hK => ?_) (AllReadyH.nil)
          go_simp
          refine (record_deal D (fun b => Wd.heap.size ≤ b) _ _ _ _ s 4 _ (KA.out.moved m2).m.deck (KA.out.moved m2).s HNe.out HSD.out (by decide) (by decide)).mono ?_
          rintro e V3 ⟨_, r1, rfl, ⟨s1, rfl, hv1⟩, -, hc1, hsh1, mv⟩
          have m3 := m2.trans mv
          have hltgA := lt_of_blk gA; have gA := mv.blk (by omega) gA
          have hltgB := lt_of_blk gB; have gB := mv.blk (by omega) gB
          have hv1 := hv1.move (w' := V3) (S' := fun b => D < b ∧ b ≠ W5.heap.size ∧ b ≠ V1.heap.size) (Nat.le_refl _) fun b hb' hs => ⟨rfl, by have h1 := m2.size; have hs' := hs; omega⟩
          obtain ⟨a1, c1, es1⟩ := hv1.slice; subst es1
          have HC1 := Lib.hid (show checkN s r1 = 0 ∧ ∀ x ∈ r1.vals, x.length ≤ 64 from ⟨hc1, hsh1⟩); clear hc1 hsh1 mv
          refine hK.out _ _ (⟨(cellsS (KA.out.moved (m3)).b).1, (cellsS (KA.out.moved (m3)).b).2.1, (cellsS (KA.out.moved (m3)).b).2.2.1, (cellsS (KA.out.moved (m3)).b).2.2.2⟩) (fun hHeld => ?_)
          clear hK K
          try simp only [List.getElem_toArray, List.getElem_cons_zero, List.getElem_cons_succ, Act.put, List.setIfInBounds_toArray, List.set_cons_zero, List.set_cons_succ]
          refine wpAnyH_ready (rs := [5]) (by kernel_rfl) (by simp) ?_
          refine AllReadyH.cons rfl (fun K hK => ?_) (AllReadyH.nil)
          go_simp
          refine (record_deal D (fun b => Wd.heap.size ≤ b) _ _ _ _ s 4 _ (KA.out.moved m3).m.deck (KA.out.moved m3).s HNe.out HSD.out (by decide) (by decide)).mono ?_
          rintro e V4 ⟨_, r2, rfl, ⟨s2, rfl, hv2⟩, -, hc2, hsh2, mv⟩
          have m4 := m3.trans mv
          have hltgA := lt_of_blk gA; have gA := mv.blk (by omega) gA
          have hltgB := lt_of_blk gB; have gB := mv.blk (by omega) gB
          have hv1 := hv1.move mv.size (S' := fun b => D < b ∧ b ≠ W5.heap.size ∧ b ≠ V1.heap.size) fun b hb' hs => ⟨mv.grown.block b hb' (by have hs' := hs; simp; omega), hs⟩
          have hv2 := hv2.move (w' := V4) (S' := fun b => D < b ∧ b ≠ W5.heap.size ∧ b ≠ V1.heap.size) (Nat.le_refl _) fun b hb' hs => ⟨rfl, by have h1 := m3.size; have hs' := hs; omega⟩
          obtain ⟨a2, c2, es2⟩ := hv2.slice; subst es2
          have HC2 := Lib.hid (show checkN s r2 = 0 ∧ ∀ x ∈ r2.vals, x.length ≤ 64 from ⟨hc2, hsh2⟩); clear hc2 hsh2 mv
          refine hK.out _ _ (⟨(cellsS (KA.out.moved (m4)).b).1, (cellsS (KA.out.moved (m4)).b).2.1, (cellsS (KA.out.moved (m4)).b).2.2.1, (cellsS (KA.out.moved (m4)).b).2.2.2⟩) (fun hHeld => ?_)
          clear hK K
          try simp only [List.getElem_toArray, List.getElem_cons_zero, List.getElem_cons_succ, Act.put, List.setIfInBounds_toArray, List.set_cons_zero, List.set_cons_succ]
      rotate_left 3
      focus
        go_simp
        refine hK.out _ _ (⟨(cellsS (KA.out.moved (mD.alloc (.cells #[.int .i64 0, .int .i64 0, .slice none 0 0] 49))).b).1, (cellsS (KA.out.moved (mD.alloc (.cells #[.int .i64 0, .int .i64 0, .slice none 0 0] 49))).b).2.1, (cellsS (KA.out.moved (mD.alloc (.cells #[.int .i64 0, .int .i64 0, .slice none 0 0] 49))).b).2.2.1, (cellsS (KA.out.moved (mD.alloc (.cells #[.int .i64 0, .int .i64 0, .slice none 0 0] 49))).b).2.2.2⟩) (fun hHeld => ?_)
        clear hK K
        try simp only [List.getElem_toArray, List.getElem_cons_zero, List.getElem_cons_succ, Act.put, List.setIfInBounds_toArray, List.set_cons_zero, List.set_cons_succ]
        refine wph_name (fun V1 hV => ?_)
        have m1 : Moved D W5 V1 := by rw [hV]; exact mD.alloc (.cells #[.int .i64 0, .int .i64 0, .slice none 0 0] 49)
        have gB : V1.heap[W5.heap.size]? = some (.cells #[.int .i64 0, .int .i64 0, .slice none 0 0] 49 (0, 0)) := by rw [hV]; exact blk_new rfl
        have hrB : W5.heap.size ≤ W5.heap.size := mD.size
        clear hV hHeld
        have hHeld : V1.cell? ⟨w2.heap.size, 0, none⟩ = some (.slice af N cf) ∧ V1.cell? ⟨w2.heap.size, 1, none⟩ = some (.slice at' s.rules.titles.length ct) ∧ V1.cell? ⟨w2.heap.size, 2, none⟩ = some (.slice an s.rules.nicks.length cn) ∧ V1.cell? ⟨w2.heap.size, 3, none⟩ = some (.slice as' s.rules.streets.length cs) := ⟨(cellsS (KA.out.moved (m1)).b).1, (cellsS (KA.out.moved (m1)).b).2.1, (cellsS (KA.out.moved (m1)).b).2.2.1, (cellsS (KA.out.moved (m1)).b).2.2.2⟩
        refine wpAnyH_ready (rs := [2, 6]) (by kernel_rfl) (by simp) ?_
        refine AllReadyH.cons rfl (fun K hK => ?_) (AllReadyH.cons rfl (fun K hK => ?_) (AllReadyH.nil))
        focus
          go_simp
          refine (record_deal D (fun b => Wd.heap.size ≤ b) _ _ _ _ s 4 _ (KA.out.moved m1).m.deck (KA.out.moved m1).s HNe.out HSD.out (by decide) (by decide)).mono ?_
          rintro e V2 ⟨_, r1, rfl, ⟨s1, rfl, hv1⟩, -, hc1, hsh1, mv⟩
          have m2 := m1.trans mv
          have hltgB := lt_of_blk gB; have gB := mv.blk (by omega) gB
          have hv1 := hv1.move (w' := V2) (S' := fun b => D < b ∧ b ≠ W5.heap.size) (Nat.le_refl _) fun b hb' hs => ⟨rfl, by have h1 := m1.size; have hs' := hs; omega⟩
          obtain ⟨a1, c1, es1⟩ := hv1.slice; subst es1
          have HC1 := Lib.hid (show checkN s r1 = 0 ∧ ∀ x ∈ r1.vals, x.length ≤ 64 from ⟨hc1, hsh1⟩); clear hc1 hsh1 mv
          refine hK.out _ _ (⟨(cellsS (KA.out.moved (m2)).b).1, (cellsS (KA.out.moved (m2)).b).2.1, (cellsS (KA.out.moved (m2)).b).2.2.1, (cellsS (KA.out.moved (m2)).b).2.2.2⟩) (fun hHeld => ?_)
          clear hK K
          try simp only [List.getElem_toArray, List.getElem_cons_zero, List.getElem_cons_succ, Act.put, List.setIfInBounds_toArray, List.set_cons_zero, List.set_cons_succ]
          refine wpAnyH_ready (rs := [5, 6]) (by kernel_rfl) (by simp) ?_
          refine AllReadyH.cons rfl (fun K hK => ?_) (AllReadyH.cons rfl (fun K hK => ?_) (AllReadyH.nil))
          focus
            go_simp
            refine (record_deal D (fun b => Wd.heap.size ≤ b) _ _ _ _ s 4 _ (KA.out.moved m2).m.deck (KA.out.moved m2).s HNe.out HSD.out (by decide) (by decide)).mono ?_
            rintro e V3 ⟨_, r2, rfl, ⟨s2, rfl, hv2⟩, -, hc2, hsh2, mv⟩
            have m3 := m2.trans mv
            have hltgB := lt_of_blk gB; have gB := mv.blk (by omega) gB
            have hv1 := hv1.move mv.size (S' := fun b => D < b ∧ b ≠ W5.heap.size) fun b hb' hs => ⟨mv.grown.block b hb' (by have hs' := hs; simp; omega), hs⟩
            have hv2 := hv2.move (w' := V3) (S' := fun b => D < b ∧ b ≠ W5.heap.size) (Nat.le_refl _) fun b hb' hs => ⟨rfl, by have h1 := m2.size; have hs' := hs; omega⟩
            obtain ⟨a2, c2, es2⟩ := hv2.slice; subst es2
            have HC2 := Lib.hid (show checkN s r2 = 0 ∧ ∀ x ∈ r2.vals, x.length ≤ 64 from ⟨hc2, hsh2⟩); clear hc2 hsh2 mv
            refine hK.out _ _ (⟨(cellsS (KA.out.moved (m3)).b).1, (cellsS (KA.out.moved (m3)).b).2.1, (cellsS (KA.out.moved (m3)).b).2.2.1, (cellsS (KA.out.moved (m3)).b).2.2.2⟩) (fun hHeld => ?_)
            clear hK K
            try simp only [List.getElem_toArray, List.getElem_cons_zero, List.getElem_cons_succ, Act.put, List.setIfInBounds_toArray, List.set_cons_zero, List.set_cons_succ]
            refine wpAnyH_ready (rs := [6]) (by kernel_rfl) (by simp) ?_
            refine AllReadyH.cons rfl (fun K hK => ?_) (AllReadyH.nil)
            go_simp
            refine hK.out _ _ (⟨(cellsS (KA.out.moved (m3.alloc (.cells #[.int .i64 0, .int .i64 0, .slice none 0 0] 49))).b).1, (cellsS (KA.out.moved (m3.alloc (.cells #[.int .i64 0, .int .i64 0, .slice none 0 0] 49))).b).2.1, (cellsS (KA.out.moved (m3.alloc (.cells #[.int .i64 0, .int .i64 0, .slice none 0 0] 49))).b).2.2.1, (cellsS (KA.out.moved (m3.alloc (.cells #[.int .i64 0, .int .i64 0, .slice none 0 0] 49))).b).2.2.2⟩) (fun hHeld => ?_)
            clear hK K
            try simp only [List.getElem_toArray, List.getElem_cons_zero, List.getElem_cons_succ, Act.put, List.setIfInBounds_toArray, List.set_cons_zero, List.set_cons_succ]
            refine wph_name (fun V4 hV => ?_)
            have m4 : Moved D W5 V4 := by rw [hV]; exact m3.alloc (.cells #[.int .i64 0, .int .i64 0, .slice none 0 0] 49)
            have hltgB := lt_of_blk gB; have gB : V4.heap[W5.heap.size]? = some (.cells #[.int .i64 0, .int .i64 0, .slice none 0 0] 49 (0, 0)) := by rw [hV]; exact blk_old gB
            have gA : V4.heap[V3.heap.size]? = some (.cells #[.int .i64 0, .int .i64 0, .slice none 0 0] 49 (0, 0)) := by rw [hV]; exact blk_new rfl
            have hrA : W5.heap.size ≤ V3.heap.size := m3.size
            have hab : V3.heap.size ≠ W5.heap.size := by omega
            have hv1 := hv1.move (w' := V4) (S' := fun b => D < b ∧ b ≠ V3.heap.size ∧ b ≠ W5.heap.size) (by rw [hV]; simp) fun b hb' hs => ⟨by rw [hV]; exact heap_alloc_old _ _ hb', by have hs' := hs; omega⟩
            have hv2 := hv2.move (w' := V4) (S' := fun b => D < b ∧ b ≠ V3.heap.size ∧ b ≠ W5.heap.size) (by rw [hV]; simp) fun b hb' hs => ⟨by rw [hV]; exact heap_alloc_old _ _ hb', by have hs' := hs; omega⟩
            clear hV hHeld
            have hHeld : V4.cell? ⟨w2.heap.size, 0, none⟩ = some (.slice af N cf) ∧ V4.cell? ⟨w2.heap.size, 1, none⟩ = some (.slice at' s.rules.titles.length ct) ∧ V4.cell? ⟨w2.heap.size, 2, none⟩ = some (.slice an s.rules.nicks.length cn) ∧ V4.cell? ⟨w2.heap.size, 3, none⟩ = some (.slice as' s.rules.streets.length cs) := ⟨(cellsS (KA.out.moved (m4)).b).1, (cellsS (KA.out.moved (m4)).b).2.1, (cellsS (KA.out.moved (m4)).b).2.2.1, (cellsS (KA.out.moved (m4)).b).2.2.2⟩
          rotate_left 1
          focus
            go_simp
            refine hK.out _ _ (⟨(cellsS (KA.out.moved (m2.alloc (.cells #[.int .i64 0, .int .i64 0, .slice none 0 0] 49))).b).1, (cellsS (KA.out.moved (m2.alloc (.cells #[.int .i64 0, .int .i64 0, .slice none 0 0] 49))).b).2.1, (cellsS (KA.out.moved (m2.alloc (.cells #[.int .i64 0, .int .i64 0, .slice none 0 0] 49))).b).2.2.1, (cellsS (KA.out.moved (m2.alloc (.cells #[.int .i64 0, .int .i64 0, .slice none 0 0] 49))).b).2.2.2⟩) (fun hHeld => ?_)
            clear hK K
            try simp only [List.getElem_toArray, List.getElem_cons_zero, List.getElem_cons_succ, Act.put, List.setIfInBounds_toArray, List.set_cons_zero, List.set_cons_succ]
            refine wph_name (fun V3 hV => ?_)
            have m3 : Moved D W5 V3 := by rw [hV]; exact m2.alloc (.cells #[.int .i64 0, .int .i64 0, .slice none 0 0] 49)
            have hltgB := lt_of_blk gB; have gB : V3.heap[W5.heap.size]? = some (.cells #[.int .i64 0, .int .i64 0, .slice none 0 0] 49 (0, 0)) := by rw [hV]; exact blk_old gB
            have gA : V3.heap[V2.heap.size]? = some (.cells #[.int .i64 0, .int .i64 0, .slice none 0 0] 49 (0, 0)) := by rw [hV]; exact blk_new rfl
            have hrA : W5.heap.size ≤ V2.heap.size := m2.size
            have hab : V2.heap.size ≠ W5.heap.size := by omega
            have hv1 := hv1.move (w' := V3) (S' := fun b => D < b ∧ b ≠ V2.heap.size ∧ b ≠ W5.heap.size) (by rw [hV]; simp) fun b hb' hs => ⟨by rw [hV]; exact heap_alloc_old _ _ hb', by have hs' := hs; omega⟩
            clear hV hHeld
            have hHeld : V3.cell? ⟨w2.heap.size, 0, none⟩ = some (.slice af N cf) ∧ V3.cell? ⟨w2.heap.size, 1, none⟩ = some (.slice at' s.rules.titles.length ct) ∧ V3.cell? ⟨w2.heap.size, 2, none⟩ = some (.slice an s.rules.nicks.length cn) ∧ V3.cell? ⟨w2.heap.size, 3, none⟩ = some (.slice as' s.rules.streets.length cs) := ⟨(cellsS (KA.out.moved (m3)).b).1, (cellsS (KA.out.moved (m3)).b).2.1, (cellsS (KA.out.moved (m3)).b).2.2.1, (cellsS (KA.out.moved (m3)).b).2.2.2⟩
            refine wpAnyH_ready (rs := [5]) (by kernel_rfl) (by simp) ?_
            refine AllReadyH.cons rfl (fun K hK => ?_) (AllReadyH.nil)
            go_simp
            refine (record_deal D (fun b => Wd.heap.size ≤ b) _ _ _ _ s 4 _ (KA.out.moved m3).m.deck (KA.out.moved m3).s HNe.out HSD.out (by decide) (by decide)).mono ?_
            rintro e V4 ⟨_, r2, rfl, ⟨s2, rfl, hv2⟩, -, hc2, hsh2, mv⟩
            have m4 := m3.trans mv
            have hltgB := lt_of_blk gB; have gB := mv.blk (by omega) gB
            have hltgA := lt_of_blk gA; have gA := mv.blk (by omega) gA
            have hv1 := hv1.move mv.size (S' := fun b => D < b ∧ b ≠ V2.heap.size ∧ b ≠ W5.heap.size) fun b hb' hs => ⟨mv.grown.block b hb' (by have hs' := hs; simp; omega), hs⟩
            have hv2 := hv2.move (w' := V4) (S' := fun b => D < b ∧ b ≠ V2.heap.size ∧ b ≠ W5.heap.size) (Nat.le_refl _) fun b hb' hs => ⟨rfl, by have h1 := m3.size; have hs' := hs; omega⟩
            obtain ⟨a2, c2, es2⟩ := hv2.slice; subst es2
            have HC2 := Lib.hid (show checkN s r2 = 0 ∧ ∀ x ∈ r2.vals, x.length ≤ 64 from ⟨hc2, hsh2⟩); clear hc2 hsh2 mv
            refine hK.out _ _ (⟨(cellsS (KA.out.moved (m4)).b).1, (cellsS (KA.out.moved (m4)).b).2.1, (cellsS (KA.out.moved (m4)).b).2.2.1, (cellsS (KA.out.moved (m4)).b).2.2.2⟩) (fun hHeld => ?_)
            clear hK K
            try simp only [List.getElem_toArray, List.getElem_cons_zero, List.getElem_cons_succ, Act.put, List.setIfInBounds_toArray, List.set_cons_zero, List.set_cons_succ]
        rotate_left 2
        focus
          go_simp
          refine hK.out _ _ (⟨(cellsS (KA.out.moved (m1.alloc (.cells #[.int .i64 0, .int .i64 0, .slice none 0 0] 49))).b).1, (cellsS (KA.out.moved (m1.alloc (.cells #[.int .i64 0, .int .i64 0, .slice none 0 0] 49))).b).2.1, (cellsS (KA.out.moved (m1.alloc (.cells #[.int .i64 0, .int .i64 0, .slice none 0 0] 49))).b).2.2.1, (cellsS (KA.out.moved (m1.alloc (.cells #[.int .i64 0, .int .i64 0, .slice none 0 0] 49))).b).2.2.2⟩) (fun hHeld => ?_)
          clear hK K
          try simp only [List.getElem_toArray, List.getElem_cons_zero, List.getElem_cons_succ, Act.put, List.setIfInBounds_toArray, List.set_cons_zero, List.set_cons_succ]
          refine wph_name (fun V2 hV => ?_)
          have m2 : Moved D W5 V2 := by rw [hV]; exact m1.alloc (.cells #[.int .i64 0, .int .i64 0, .slice none 0 0] 49)
          have hltgB := lt_of_blk gB; have gB : V2.heap[W5.heap.size]? = some (.cells #[.int .i64 0, .int .i64 0, .slice none 0 0] 49 (0, 0)) := by rw [hV]; exact blk_old gB
          have gA : V2.heap[V1.heap.size]? = some (.cells #[.int .i64 0, .int .i64 0, .slice none 0 0] 49 (0, 0)) := by rw [hV]; exact blk_new rfl
          have hrA : W5.heap.size ≤ V1.heap.size := m1.size
          have hab : V1.heap.size ≠ W5.heap.size := by omega
          clear hV hHeld
          have hHeld : V2.cell? ⟨w2.heap.size, 0, none⟩ = some (.slice af N cf) ∧ V2.cell? ⟨w2.heap.size, 1, none⟩ = some (.slice at' s.rules.titles.length ct) ∧ V2.cell? ⟨w2.heap.size, 2, none⟩ = some (.slice an s.rules.nicks.length cn) ∧ V2.cell? ⟨w2.heap.size, 3, none⟩ = some (.slice as' s.rules.streets.length cs) := ⟨(cellsS (KA.out.moved (m2)).b).1, (cellsS (KA.out.moved (m2)).b).2.1, (cellsS (KA.out.moved (m2)).b).2.2.1, (cellsS (KA.out.moved (m2)).b).2.2.2⟩
          refine wpAnyH_ready (rs := [2]) (by kernel_rfl) (by simp) ?_
          refine AllReadyH.cons rfl (fun K hK => ?_) (AllReadyH.nil)
          go_simp
          refine (record_deal D (fun b => Wd.heap.size ≤ b) _ _ _ _ s 4 _ (KA.out.moved m2).m.deck (KA.out.moved m2).s HNe.out HSD.out (by decide) (by decide)).mono ?_
          rintro e V3 ⟨_, r1, rfl, ⟨s1, rfl, hv1⟩, -, hc1, hsh1, mv⟩
          have m3 := m2.trans mv
          have hltgB := lt_of_blk gB; have gB := mv.blk (by omega) gB
          have hltgA := lt_of_blk gA; have gA := mv.blk (by omega) gA
          have hv1 := hv1.move (w' := V3) (S' := fun b => D < b ∧ b ≠ V1.heap.size ∧ b ≠ W5.heap.size) (Nat.le_refl _) fun b hb' hs => ⟨rfl, by have h1 := m2.size; have hs' := hs; omega⟩
          obtain ⟨a1, c1, es1⟩ := hv1.slice; subst es1
          have HC1 := Lib.hid (show checkN s r1 = 0 ∧ ∀ x ∈ r1.vals, x.length ≤ 64 from ⟨hc1, hsh1⟩); clear hc1 hsh1 mv
          refine hK.out _ _ (⟨(cellsS (KA.out.moved (m3)).b).1, (cellsS (KA.out.moved (m3)).b).2.1, (cellsS (KA.out.moved (m3)).b).2.2.1, (cellsS (KA.out.moved (m3)).b).2.2.2⟩) (fun hHeld => ?_)
          clear hK K
          try simp only [List.getElem_toArray, List.getElem_cons_zero, List.getElem_cons_succ, Act.put, List.setIfInBounds_toArray, List.set_cons_zero, List.set_cons_succ]
          refine wpAnyH_ready (rs := [5]) (by kernel_rfl) (by simp) ?_
          refine AllReadyH.cons rfl (fun K hK => ?_) (AllReadyH.nil)
          go_simp
          refine (record_deal D (fun b => Wd.heap.size ≤ b) _ _ _ _ s 4 _ (KA.out.moved m3).m.deck (KA.out.moved m3).s HNe.out HSD.out (by decide) (by decide)).mono ?_
          rintro e V4 ⟨_, r2, rfl, ⟨s2, rfl, hv2⟩, -, hc2, hsh2, mv⟩
          have m4 := m3.trans mv
          have hltgB := lt_of_blk gB; have gB := mv.blk (by omega) gB
          have hltgA := lt_of_blk gA; have gA := mv.blk (by omega) gA
          have hv1 := hv1.move mv.size (S' := fun b => D < b ∧ b ≠ V1.heap.size ∧ b ≠ W5.heap.size) fun b hb' hs => ⟨mv.grown.block b hb' (by have hs' := hs; simp; omega), hs⟩
          have hv2 := hv2.move (w' := V4) (S' := fun b => D < b ∧ b ≠ V1.heap.size ∧ b ≠ W5.heap.size) (Nat.le_refl _) fun b hb' hs => ⟨rfl, by have h1 := m3.size; have hs' := hs; omega⟩
          obtain ⟨a2, c2, es2⟩ := hv2.slice; subst es2
          have HC2 := Lib.hid (show checkN s r2 = 0 ∧ ∀ x ∈ r2.vals, x.length ≤ 64 from ⟨hc2, hsh2⟩); clear hc2 hsh2 mv
          refine hK.out _ _ (⟨(cellsS (KA.out.moved (m4)).b).1, (cellsS (KA.out.moved (m4)).b).2.1, (cellsS (KA.out.moved (m4)).b).2.2.1, (cellsS (KA.out.moved (m4)).b).2.2.2⟩) (fun hHeld => ?_)
          clear hK K
          try simp only [List.getElem_toArray, List.getElem_cons_zero, List.getElem_cons_succ, Act.put, List.setIfInBounds_toArray, List.set_cons_zero, List.set_cons_succ]
      all_goals
        have lA := lt_of_blk gA; obtain ⟨xA0, xA1, xA2⟩ := cells3 gA; have fA0 := frozen_of_row _ _ 0 _ _ gA; have fA1 := frozen_of_row _ _ 1 _ _ gA; have fA2 := frozen_of_row _ _ 2 _ _ gA
        have lB := lt_of_blk gB; obtain ⟨xB0, xB1, xB2⟩ := cells3 gB; have fB0 := frozen_of_row _ _ 0 _ _ gB; have fB1 := frozen_of_row _ _ 1 _ _ gB; have fB2 := frozen_of_row _ _ 2 _ _ gB
        have ms := ((m4.set (a := ⟨_, 0, none⟩) hrA (.int .i64 r1.id)).set (a := ⟨_, 1, none⟩) hrA (.int .i64 r1.ver)).set (a := ⟨_, 2, none⟩) hrA (.slice a1 r1.vals.length c1)
        have mt := ((ms.set (a := ⟨_, 0, none⟩) hrB (.int .i64 r2.id)).set (a := ⟨_, 1, none⟩) hrB (.int .i64 r2.ver)).set (a := ⟨_, 2, none⟩) hrB (.slice a2 r2.vals.length c2)
        refine wpAnyH_ready (rs := [8]) (by kernel_rfl) (by simp) ?_
        refine AllReadyH.cons rfl (fun K hK => ?_) AllReadyH.nil
        go_simp
        refine hK.out _ _ (⟨(cellsS (KA.out.moved (ms)).b).1, (cellsS (KA.out.moved (ms)).b).2.1, (cellsS (KA.out.moved (ms)).b).2.2.1, (cellsS (KA.out.moved (ms)).b).2.2.2⟩) (fun hHeld => ?_)
        clear hK K
        try simp only [List.getElem_toArray, List.getElem_cons_zero, List.getElem_cons_succ, Act.put, List.setIfInBounds_toArray, List.set_cons_zero, List.set_cons_succ]
        refine wpAnyH_ready (rs := [9]) (by kernel_rfl) (by simp) ?_
        refine AllReadyH.cons rfl (fun K hK => ?_) AllReadyH.nil
        go_simp
        refine hK.out _ _ (⟨(cellsS (KA.out.moved (mt)).b).1, (cellsS (KA.out.moved (mt)).b).2.1, (cellsS (KA.out.moved (mt)).b).2.2.1, (cellsS (KA.out.moved (mt)).b).2.2.2⟩) (fun hHeld => ?_)
        clear hK K
        try simp only [List.getElem_toArray, List.getElem_cons_zero, List.getElem_cons_succ, Act.put, List.setIfInBounds_toArray, List.set_cons_zero, List.set_cons_succ]
        refine wpAnyH_done (by kernel_rfl) ?_ _
        refine NoPanic.normal ?_
        go_wp2_with fail
        go_meet
        exact ⟨_, _, _, _, r1, r2, rfl, rfl, blk_far (blk_far (blk_far (blk_set (blk_set (blk_set gA))) hab) hab) hab, blk_set (blk_set (blk_set (blk_far (blk_far (blk_far gB hab.symm) hab.symm) hab.symm))), (((((hv1.far (fun b hb => hb.2.1)).far (fun b hb => hb.2.1)).far (fun b hb => hb.2.1)).far (fun b hb => hb.2.2)).far (fun b hb => hb.2.2)).far (fun b hb => hb.2.2), (((((hv2.far (fun b hb => hb.2.1)).far (fun b hb => hb.2.1)).far (fun b hb => hb.2.1)).far (fun b hb => hb.2.2)).far (fun b hb => hb.2.2)).far (fun b hb => hb.2.2), HC1, HC2, mt, hrA, hrB, hab⟩
    case rest =>
      obtain ⟨wB, hwB⟩ : ∃ u, u = wc := ⟨_, rfl⟩
      subst hwB
      obtain ⟨ra, rb, sa, sb, r1, r2, rfl, rfl, ga, gb, hva, hvb, HC1, HC2, mw, hra, hrb, hab⟩ := hcut
      obtain ⟨aa, ca, rfl⟩ := hva.slice
      obtain ⟨ab, cb, rfl⟩ := hvb.slice
      have zW5 := KA.out.m.deck.lt
      have hnD : ra ≠ D := by omega
      have KB := Lib.hid (KA.out.moved mw)
      have zBD := KB.out.m.deck.lt
      have hl1 : r1.vals.length = N := (checkN_ok HC1.out.1).2.2.1.trans HNN.out
      have hl2 : r2.vals.length = N := (checkN_ok HC2.out.1).2.2.1.trans HNN.out
      have HRa := Lib.hid (show RecIn s P r1 from ⟨HSD.out.check, HC1.out.1, HPD.out.len.trans HNN.out.symm, HPD.out.ok, HC1.out.2⟩)
      have HRb := Lib.hid (show RecIn s P r2 from ⟨HSD.out.check, HC2.out.1, HPD.out.len.trans HNN.out.symm, HPD.out.ok, HC2.out.2⟩)
      obtain ⟨f, hf⟩ : ∃ f : Nat, at_ % N = f := ⟨_, rfl⟩
      have hfN : f < N := by rw [← hf]; exact Nat.mod_lt _ (by omega)
      have hfm : (at_ : Int) % (N : Int) = (f : Int) := by rw [← hf]; exact (Int.natCast_emod at_ N).symm
      have hft : (at_ : Int).tmod (N : Int) = (f : Int) := by rw [Int.tmod_eq_emod_of_nonneg (by omega)]; exact hfm
      have hN0 : ((N : Int) == 0) = false := by simp; omega
      have HRc := Lib.hid (RecIn.changed (id := 9) (ver := 2) (f := f) HRa.out HRb.out rfl (by rw [HNN.out]; exact hfN))
      have hf1 : f < r1.vals.length := by omega
      have hf2 : f < r2.vals.length := by omega
      have hp1 : 0 < r1.vals.length := by omega
      have hn1 : r1.vals.length ≤ 5 := by omega
      have hn2 : r2.vals.length ≤ 5 := by omega
      have HL1 := Lib.hid hl1; have HL2 := Lib.hid hl2
      have HGA := Lib.hid ga; have HGB := Lib.hid gb; have HVA := Lib.hid hva; have HVB := Lib.hid hvb
      have la := lt_of_blk ga; have lb := lt_of_blk gb
      obtain ⟨xa0, xa1, xa2⟩ := cells3 ga
      have HRd := Lib.hid (Vec.reads (k := 1) (fun _ => rfl) hva)
      have hcn : ([] : List (List UInt8)).length + r1.vals.length ≤ 1000000000 := by simp; omega
      clear hf hl1 hl2 ga gb hva hvb mw KA HC1 HC2 p0 p1 p2 p3 mD hrb hra
      go_wp2_with (at_builtin; refine wpList_append_v rfl (.const (.slice none 0 0)) (.tmp 50) 27 rfl 9 (.string ⟨#[]⟩) 1 16 encS (fun _ => rfl) oneG Tryz.underlying27 infoS rfl (by decide) (by decide) (w0 := wB) (v := .slice none 0 0) (A := []) (B := r1.vals) rfl (OwnV.start _ _ _ _) rfl HRd.out hcn ?_; intro v6 w6 ho6 hk6 hz6; obtain ⟨a6, c6, ev6⟩ := own_slice ho6.1; subst ev6)
      refine wp_world (fun W7 hW7 => ?_)
      have hb67 : Below w6.heap.size w6 W7 := by rw [hW7]; exact (Below.refl w6.heap.size w6).alloc (Nat.le_refl _) _
      have hc7 : W7.heap[w6.heap.size]? = some (.cells #[.int .i64 9, .int .i64 2, .slice a6 r1.vals.length c6] 49 (0, 0)) := by rw [hW7]; exact blk_new rfl
      clear hW7
      obtain ⟨g, cap6, cur6, eg, hg, hh6, -, -, -, -⟩ : ∃ g cap cur, Value.slice a6 r1.vals.length c6 = .slice (some ⟨g, 0, none⟩) r1.vals.length cap ∧ wB.heap.size ≤ g ∧ w6.heap[g]? = some (.cells cur 9 (0, 0)) ∧ True ∧ True ∧ True ∧ True := by
        rcases ho6.1.2 with ⟨_, h0⟩ | ⟨g, cap, cur, e, hg, hh, _⟩
        · rw [List.nil_append] at h0; omega
        · exact ⟨g, cap, cur, e, hg, hh, trivial, trivial, trivial, trivial⟩
      cases eg
      have hv6 : Vec w6 (fun b => wB.heap.size ≤ b) 1 encS (.slice (some ⟨g, 0, none⟩) r1.vals.length c6) r1.vals := OwnV.vec (size := 1) (enc := encS) (fun _ => rfl) ho6
      have hb6 := ho6.2
      have lg6 := lt_of_blk hh6
      obtain ⟨bb, ob, rfl, lbb, hcb⟩ := HVB.out.get f hf2
      have x0 := hcb 0 _ rfl
      rw [Nat.mul_one, Nat.add_zero] at x0
      obtain ⟨x, hx⟩ : ∃ x, r2.vals[f] = x := ⟨_, rfl⟩
      have hxd : r2.vals.getD f [] = x := by rw [getD_at _ _ hf2]; exact hx
      rw [hx] at x0
      have hz6 := hb6.size; have hz67 := hb67.size
      have x7 := (hb67.cell (p := ⟨bb, ob + f, none⟩) (by show bb < _; omega)).trans ((hb6.cell (p := ⟨bb, ob + f, none⟩) lbb).trans x0)
      have hgb7 := blk_below hb67 (by omega) (blk_below hb6 lb HGB.out)
      obtain ⟨o0, o1, eo, lo, hco⟩ := hv6.get f hf1
      cases eo
      have yc := hco 0 _ rfl
      rw [Nat.mul_one, Nat.add_zero, Nat.zero_add] at yc
      have yc7 := (hb67.cell (p := ⟨g, f, none⟩) lg6).trans yc
      have hg7 := blk_below hb67 lg6 hh6
      have fz7 := frozen_of_row _ _ f _ _ hg7
      have lg7 := lt_of_blk hg7
      obtain ⟨z0, z1, z2⟩ := cells3 hc7
      obtain ⟨q0, q1, q2⟩ := cells3 hgb7
      have lc7 := lt_of_blk hc7
      have hgc : w6.heap.size ≠ g := by omega
      have hgr : rb ≠ g := by omega
      have hgx : bb ≠ g := by omega
      have hf1' : (f : Int) < (r1.vals.length : Int) := by omega
      have hf2' : (f : Int) < (r2.vals.length : Int) := by omega
      have HC7 := Lib.hid hc7; have HGB7 := Lib.hid hgb7
      have m7 : Moved D wB W7 := ((Moved.start KB.out.m.deck).below hb6).below hb67
      have HM7 := Lib.hid m7
      have hvc := Vec.setS (((hv6.below hb67).below ((Below.refl W7.heap.size W7).drew))) f hf1 x
      rw [Nat.zero_add] at hvc
      have HVC := Lib.hid hvc
      have HX := Lib.hid hxd
      clear hb67 hc7 hh6 hv6 hb6 hcb hx hxd x0 hgb7 hco yc hg7 m7 hvc ho6 hk6 xa0 xa1 xa2 hcn
      refine wp_region_noPanic ?_
      refine wp_region_held_drew (S := (fun w' => w'.cell? ⟨w6.heap.size, 2, none⟩ = some (.slice (some ⟨g, 0, none⟩) r1.vals.length c6) ∧ w'.cell? ⟨rb, 2, none⟩ = some (.slice (some ⟨bb, ob, none⟩) r2.vals.length cb) ∧ w'.cell? ⟨bb, ob + f, none⟩ = some (strV x))) (by kernel_rfl) (⟨z2, q2, x7⟩) (fun hHeld => ?_)
      refine wpAnyH_take (i := 0) (v := ?_) rfl (by kernel_rfl) (by kernel_rfl) (by kernel_rfl) (fun _ _ _ h => h) (Or.inl ⟨by rfl, ?_⟩) (by assumption) ?_
      rotate_left 1
      · (intro wS hSw; (try dsimp only at hSw); go_simp; try with_reducible rfl)
      try simp only [List.getElem_toArray, List.getElem_cons_zero, List.getElem_cons_succ, Act.put, List.setIfInBounds_toArray, List.set_cons_zero, List.set_cons_succ]
      refine wpAnyH_take (i := 1) (v := ?_) rfl (by kernel_rfl) (by kernel_rfl) (by kernel_rfl) (fun _ _ _ h => h) (Or.inl ⟨by rfl, ?_⟩) (by assumption) ?_
      rotate_left 1
      · (intro wS hSw; (try dsimp only at hSw); go_simp; try with_reducible rfl)
      try simp only [List.getElem_toArray, List.getElem_cons_zero, List.getElem_cons_succ, Act.put, List.setIfInBounds_toArray, List.set_cons_zero, List.set_cons_succ]
      refine wpAnyH_take (i := 2) (v := ?_) rfl (by kernel_rfl) (by kernel_rfl) (by kernel_rfl) (fun _ _ _ h => h) (Or.inl ⟨by rfl, ?_⟩) (by assumption) ?_
      rotate_left 1
      · (intro wS hSw; (try dsimp only at hSw); go_simp; try with_reducible rfl)
      try simp only [List.getElem_toArray, List.getElem_cons_zero, List.getElem_cons_succ, Act.put, List.setIfInBounds_toArray, List.set_cons_zero, List.set_cons_succ]
      refine wpAnyH_take (i := 3) (v := ?_) rfl (by kernel_rfl) (by kernel_rfl) (by kernel_rfl) (fun _ _ _ h => h) (Or.inl ⟨by rfl, ?_⟩) (by assumption) ?_
      rotate_left 1
      · (intro wS hSw; (try dsimp only at hSw); go_simp; try with_reducible rfl)
      try simp only [List.getElem_toArray, List.getElem_cons_zero, List.getElem_cons_succ, Act.put, List.setIfInBounds_toArray, List.set_cons_zero, List.set_cons_succ]
      refine wpAnyH_take (i := 4) (v := ?_) rfl (by kernel_rfl) (by kernel_rfl) (by kernel_rfl) (fun _ _ _ h => h) (Or.inl ⟨by rfl, ?_⟩) (by assumption) ?_
      rotate_left 1
      · (intro wS hSw; (try dsimp only at hSw); go_simp; try with_reducible rfl)
      try simp only [List.getElem_toArray, List.getElem_cons_zero, List.getElem_cons_succ, Act.put, List.setIfInBounds_toArray, List.set_cons_zero, List.set_cons_succ]
      refine wpAnyH_take (i := 5) (v := ?_) rfl (by kernel_rfl) (by kernel_rfl) (by kernel_rfl) (fun _ _ _ h => h) (Or.inl ⟨by rfl, ?_⟩) (by assumption) ?_
      rotate_left 1
      · (intro wS hSw; (try dsimp only at hSw); go_simp; try with_reducible rfl)
      try simp only [List.getElem_toArray, List.getElem_cons_zero, List.getElem_cons_succ, Act.put, List.setIfInBounds_toArray, List.set_cons_zero, List.set_cons_succ]
      refine wpAnyH_take (i := 6) (v := ?_) rfl (by kernel_rfl) (by kernel_rfl) (by kernel_rfl) (fun _ _ _ h => h) (Or.inl ⟨by rfl, ?_⟩) (by assumption) ?_
      rotate_left 1
      · (intro wS hSw; (try dsimp only at hSw); go_simp; try with_reducible rfl)
      try simp only [List.getElem_toArray, List.getElem_cons_zero, List.getElem_cons_succ, Act.put, List.setIfInBounds_toArray, List.set_cons_zero, List.set_cons_succ]
      refine wpAnyH_take (i := 7) (v := ?_) rfl (by kernel_rfl) (by kernel_rfl) (by kernel_rfl) (fun _ _ _ h => h) (Or.inl ⟨by rfl, ?_⟩) (by assumption) ?_
      rotate_left 1
      · (intro wS hSw; (try dsimp only at hSw); go_simp; try with_reducible rfl)
      try simp only [List.getElem_toArray, List.getElem_cons_zero, List.getElem_cons_succ, Act.put, List.setIfInBounds_toArray, List.set_cons_zero, List.set_cons_succ]
      refine wpAnyH_take (i := 8) (v := ?_) rfl (by kernel_rfl) (by kernel_rfl) (by kernel_rfl) (fun _ _ _ h => h) (Or.inl ⟨by rfl, ?_⟩) (by assumption) ?_
      rotate_left 1
      · (intro wS hSw; (try dsimp only at hSw); go_simp; try with_reducible rfl)
      try simp only [List.getElem_toArray, List.getElem_cons_zero, List.getElem_cons_succ, Act.put, List.setIfInBounds_toArray, List.set_cons_zero, List.set_cons_succ]
      refine wpAnyH_ready (rs := [9]) (by kernel_rfl) (by simp) ?_
      refine AllReadyH.cons rfl (fun K hK => ?_) AllReadyH.nil
      go_simp
      refine hK.out _ _ (⟨(World.cell?_setCell_other _ _ _ _ (by intro e; have e1 := congrArg Addr.block e; exact hgc e1.symm)).trans z2, (World.cell?_setCell_other _ _ _ _ (by intro e; have e1 := congrArg Addr.block e; exact hgr e1.symm)).trans q2, (World.cell?_setCell_other _ _ _ _ (by intro e; have e1 := congrArg Addr.block e; exact hgx e1.symm)).trans x7⟩) (fun hHeld => ?_)
      clear hK K
      try simp only [List.getElem_toArray, List.getElem_cons_zero, List.getElem_cons_succ, Act.put, List.setIfInBounds_toArray, List.set_cons_zero, List.set_cons_succ]
      refine wpAnyH_done (by kernel_rfl) ?_ _
      refine NoPanic.normal ?_
      refine exitk_world (fun Wz hWz => ?_)
      have hmz : Moved D wB Wz := by rw [hWz]; exact (HM7.out.drew).set (a := ⟨g, f, none⟩) hg _
      have hcz : Wz.heap[w6.heap.size]? = some (.cells #[.int .i64 9, .int .i64 2, .slice (some ⟨g, 0, none⟩) r1.vals.length c6] 49 (0, 0)) := by rw [hWz]; exact blk_far HC7.out hgc
      have hvz : Vec Wz (fun b => wB.heap.size ≤ b) 1 encS (.slice (some ⟨g, 0, none⟩) r1.vals.length c6) (r1.vals.set f x) := by rw [hWz]; exact HVC.out
      have hga := hmz.blk hnD HGA.out
      have HVAz := Lib.hid (HVA.out.move (S' := fun b => D < b) hmz.size fun b hb hs => ⟨hmz.grown.block b hb (by have := hs.1; simp; omega), hs.1⟩)
      have KZ := Lib.hid (KB.out.moved hmz)
      have HRc2 := Lib.hid (show RecIn s P ⟨9, 2, r1.vals.set f x⟩ by rw [← HX.out]; exact HRc.out)
      have HCz := Lib.hid hcz; have HVz := Lib.hid hvz
      obtain ⟨F1, hF1⟩ : ∃ F, fieldsN s P k r1.vals P.length = F := ⟨_, rfl⟩
      obtain ⟨F2, hF2⟩ : ∃ F, fieldsN s P k (r1.vals.set f x) P.length = F := ⟨_, rfl⟩
      have HFw1 := Lib.hid (show ∀ b ∈ F1, b.words.length ≤ 1000000 by rw [← hF1]; exact fieldsN_words HPD.out.ok (Nat.le_refl _))
      have hX1 : encN s P k r1 = ⟨r1.id, r1.ver, F1⟩ := by rw [← hF1]; rfl
      have hX2 : encN s P k ⟨9, 2, r1.vals.set f x⟩ = ⟨9, 2, F2⟩ := by rw [← hF2]; rfl
      have hlF1 : F1.length = N := by rw [← hF1, fieldsN_len]; exact HPD.out.len
      have hlF2 : F2.length = N := by rw [← hF2, fieldsN_len]; exact HPD.out.len
      have HX1 := Lib.hid hX1; have HX2 := Lib.hid hX2; have HF1 := Lib.hid hF1; have HF2 := Lib.hid hF2; have HlF1 := Lib.hid hlF1; have HlF2 := Lib.hid hlF2
      obtain ⟨p0, p1, p2, p3⟩ := cellsS KZ.out.b; obtain ⟨k0, k1⟩ := cells2K KZ.out.kk; obtain ⟨a0, a1, a2⟩ := cells3 hga
      clear hWz hmz hcz hvz hga hF1 hF2 hX1 hX2 hlF1 hlF2 HVC HVA HVB HGA HGB HC7 HGB7 HM7 KB yc7 x7 fz7 z0 z1 z2 q0 q1 q2 hHeld HRc HX
      go_wp2_with fail
      refine (erecord_yes (fun b => Wd.heap.size ≤ b) _ _ _ _ s P _ k r1 _ Wz KZ.out.s KZ.out.p.any HVAz.out.any HRa.out).mono ?_
      rw [HX1.out]
      rintro e wX ⟨_, rfl, ⟨su, rfl, hbu⟩, hb⟩
      dsimp only at hbu ⊢
      obtain ⟨ax, cx, rfl⟩ := hbu.slice
      have HBX := Lib.hid (hbu.move (w' := wX) (T := Any1) (Nat.le_refl _) fun b hb _ => ⟨rfl, trivial⟩)
      have KX := Lib.hid (KZ.out.below hb)
      have HCx := Lib.hid (blk_below hb (lt_of_blk HCz.out) HCz.out)
      have HVx := Lib.hid (HVz.out.below hb)
      clear hbu hb p0 p1 p2 p3 k0 k1 a0 a1 a2 KZ HCz HVz HVAz
      obtain ⟨p0, p1, p2, p3⟩ := cellsS KX.out.b; obtain ⟨k0, k1⟩ := cells2K KX.out.kk; obtain ⟨b0, b1, b2⟩ := cells3 HCx.out
      have lyX := lt_of_blk KX.out.b; have lkX := lt_of_blk KX.out.kk; have lcX := lt_of_blk HCx.out
      go_wp2_with fail
      refine wp_calls_world (fun W9 hW9 => ?_)
      have hb9 : Below wX.heap.size wX W9 := by rw [hW9]; exact (Below.refl wX.heap.size wX).alloc (Nat.le_refl _) _
      have hx9 : W9.heap[wX.heap.size]? = some (.cells #[.int .i64 r1.id, .int .i64 r1.ver, .slice ax F1.length cx] 57 (0, 0)) := by rw [hW9]; exact blk_new rfl
      clear hW9
      have K9 := KX.out.below hb9
      refine (erecord_yes (fun b => Wd.heap.size ≤ b) _ _ _ _ s P _ k ⟨9, 2, r1.vals.set f x⟩ _ W9 K9.s K9.p.any (HVx.out.below hb9).any HRc2.out).mono ?_
      rw [HX2.out]
      rintro e wY ⟨_, rfl, ⟨sv, rfl, hbv⟩, hb⟩
      dsimp only at hbv ⊢
      obtain ⟨ay, cy, rfl⟩ := hbv.slice
      have HBY := Lib.hid (hbv.move (w' := wY) (T := Any1) (Nat.le_refl _) fun b hb _ => ⟨rfl, trivial⟩)
      have hx10 := blk_below hb (lt_of_blk hx9) hx9
      have lxy := lt_of_blk hx10
      have HX10 := Lib.hid hx10
      have HBX2 := Lib.hid ((HBX.out.below hb9).below hb)
      have KY := Lib.hid (K9.below hb)
      have HCy := Lib.hid (blk_below hb (lt_of_blk (blk_below hb9 lcX HCx.out)) (blk_below hb9 lcX HCx.out))
      have HVy := Lib.hid ((HVx.out.below hb9).below hb)
      obtain ⟨u0, u1, u2⟩ := cells3 hx10
      have dz : ((0 : Int) != 0) = false := rfl
      have dl1 : ((F1.length : Int) != (N : Int)) = false := by rw [HlF1.out]; simp
      have dl2 : ((F2.length : Int) != (N : Int)) = false := by rw [HlF2.out]; simp
      clear hbv hb hb9 hx9 hx10 K9 KX p0 p1 p2 p3 k0 k1 b0 b1 b2 lyX lkX lcX HBX HVx HCx HX1 HX2
      go_wp2_with fail
      refine wp_world (fun W0 hW0 => ?_)
      have hb0 : Below wY.heap.size wY W0 := by rw [hW0]; exact (Below.refl wY.heap.size wY).alloc (Nat.le_refl _) _
      have hy0 : W0.heap[wY.heap.size]? = some (.cells #[.int .i64 9, .int .i64 2, .slice ay F2.length cy] 57 (0, 0)) := by rw [hW0]; exact blk_new rfl
      have HX0 := Lib.hid (blk_below hb0 (lt_of_blk HX10.out) HX10.out); have HY0 := Lib.hid hy0; have HC0 := Lib.hid (blk_below hb0 (lt_of_blk HCy.out) HCy.out)
      have HV0 := Lib.hid ((HVy.out.below hb0).any); have HBX0 := Lib.hid (HBX2.out.below hb0); have HBY0 := Lib.hid (HBY.out.below hb0)
      have HP0 := Lib.hid ((KY.out.p.below hb0).any)
      have HBe := Lib.hid ((KY.out.m.below hb0).base HB1.out (by omega))
      have hPN : P.length = N := HPD.out.len
      have HPN := Lib.hid hPN
      have hCl : (r1.vals.set f x).length = r1.vals.length := List.length_set
      obtain ⟨C, hC⟩ : ∃ C, r1.vals.set f x = C := ⟨_, rfl⟩
      have hCd : ∀ j, j ≠ f → C.getD j [] = r1.vals.getD j [] := fun j hj => by rw [← hC]; exact getD_set _ _ _ _ hj
      have hRC : RecIn s P ⟨9, 2, C⟩ := by rw [← hC]; exact HRc2.out
      have hF2 : fieldsN s P k C P.length = F2 := by rw [← hC]; exact HF2.out
      have hVC : Vec W0 Any1 1 encS (.slice (some ⟨g, 0, none⟩) r1.vals.length c6) C := by rw [← hC]; exact HV0.out
      have HCd := Lib.hid hCd; have HRC := Lib.hid hRC; have HFC := Lib.hid hF2; have HVC := Lib.hid hVC; have HCl := Lib.hid (show C.length = N by rw [← hC, hCl]; exact HL1.out)
      clear hW0 hb0 hy0 u0 u1 u2 HX10 HCy HVy HBX2 HBY KY hPN hCl hC hCd hRC hF2 hVC HRc2 HF2 HV0 hHeld dl1 dl2 dz hfm hft hN0
      go_loopw [18] (fun i wr => ∃ j : Nat, i = .int .i64 j ∧ j ≤ N ∧ Below W0.heap.size W0 wr) (fun i _ => N - (intOf i).toNat)
      case atStart => exact ⟨0, rfl, by omega, Below.refl _ _⟩
      case round =>
        obtain ⟨j, rfl, hj, hbw⟩ := hrel
        have HBW := Lib.hid hbw
        by_cases hlt : j < N
        · have hq : decide ((j : Int) < N) = true := by simp; omega
          have hjP : j < P.length := by rw [HPN.out]; exact hlt
          have hjC : j < C.length := by rw [HCl.out]; exact hlt
          have hj1 : j < F1.length := by rw [HlF1.out]; exact hlt
          have hj2 : j < F2.length := by rw [HlF2.out]; exact hlt
          have i1 : (j : Int) < (P.length : Int) := by omega
          have i2 : (j : Int) < (F1.length : Int) := by omega
          have i3 : (j : Int) < (F2.length : Int) := by omega
          have i4 : (j : Int) < (r1.vals.length : Int) := by have := HL1.out; omega
          have hxr := blk_below hbw (lt_of_blk HX0.out) HX0.out; have hyr := blk_below hbw (lt_of_blk HY0.out) HY0.out; have hcr := blk_below hbw (lt_of_blk HC0.out) HC0.out
          obtain ⟨-, -, x2⟩ := cells3 hxr; obtain ⟨-, -, y2⟩ := cells3 hyr; obtain ⟨-, -, c2⟩ := cells3 hcr
          obtain ⟨pb, po, rfl, lpb, hcp⟩ := (HP0.out.below hbw).get j hjP
          have s2 := hcp 2 _ rfl
          obtain ⟨bx, ox, cX, rfl, lbx, X0, X1, hatX⟩ := (HBX0.out.below hbw).at j hj1
          obtain ⟨by_, oy, cY, rfl, lby, Y0, Y1, hatY⟩ := (HBY0.out.below hbw).at j hj2
          obtain ⟨bc, oc, ec, lbc, hcc⟩ := (HVC.out.below hbw).get j hjC
          cases ec
          have v0 := hcc 0 _ rfl
          rw [Nat.mul_one, Nat.add_zero, Nat.zero_add] at v0
          obtain ⟨pj, hpj⟩ : ∃ pj, P[j] = pj := ⟨_, rfl⟩
          have hpd : P.getD j default = pj := by rw [getD_at _ _ hjP]; exact hpj
          obtain ⟨V, hV⟩ : ∃ V, C[j] = V := ⟨_, rfl⟩
          have hVd : C.getD j [] = V := by rw [getD_at _ _ hjC]; exact hV
          rw [hpj] at s2; rw [hV] at v0
          have hlen : cY.len = (F2.getD j noBits).len := by
            obtain ⟨sx, e, _⟩ := hatY
            have e0 := congrArg (fun v => match v with | Value.agg cs => cs.getD 0 undef | _ => undef) e
            have e1 : Value.int .i64 cY.len = Value.int .i64 (F2.getD j noBits).len := e0
            injection e1
          have hF2j : F2.getD j noBits = fieldN s pj k C j := by rw [← HFC.out, getD_fields _ _ _ _ _ _ hjP, hpd]
          have hok : ParOk pj := by rw [← hpd]; exact HPD.out.ok.par j hjP
          have hiff : (F2.getD j noBits).len = 0 ↔ V = [] := by
            obtain ⟨_, _, _, hno⟩ := checkN_ok HRC.out.rec_
            have hnj := normA_get s C 0 hno j hjC
            rw [Nat.zero_add] at hnj
            rw [hF2j, ← hVd]
            exact fieldN_len hok (by rw [findN_in HSD.out.check (by rw [HNN.out]; exact hlt)]) hnj
          have hsame : j ≠ f → pj.salt ≠ (f : Int) → cmpB (F1.getD j noBits) (F2.getD j noBits) = 0 := fun h1 h2 => by
            rw [hF2j, ← HF1.out, getD_fields _ _ _ _ _ _ hjP, hpd, fieldN_same h1 h2 HCd.out]; exact cmpB_self _
          have hw1 : (F1.getD j noBits).words.length ≤ 1000000 := by rw [getD_at _ _ hj1]; exact HFw1.out _ (List.getElem_mem hj1)
          obtain ⟨xl, xA, xn, xc⟩ := cX
          obtain ⟨yl, yA, yn, yc⟩ := cY
          dsimp only at X0 X1 Y0 Y1 hlen
          have HSame := Lib.hid hsame; have HAtX := Lib.hid hatX; have HAtY := Lib.hid hatY; have HIff := Lib.hid (show yl = 0 ↔ V = [] by rw [hlen]; exact hiff)
          have lxr := lt_of_blk hxr; have lyr := lt_of_blk hyr; have lcr := lt_of_blk hcr
          clear hcp hcc hpj hpd hV hVd hlen hF2j hok hiff hsame hatX hatY hxr hyr hcr hjP hjC hj1 hj2
          go_wp2_with fail
          go_cut [128] (fun s128 wx => s128 = .bool false ∧ Below wr.heap.size wr wx)
          case first =>
            have bD : Below wr.heap.size wr wr.drew := (Below.refl _ _).drew
            by_cases e1 : j = f
            · have d1 : ((j : Int) != (f : Int)) = false := by rw [e1]; simp
              clear e1
              refine wp_region_noPanic ?_
              refine wp_region_held_drew (S := (fun w' => w'.cell? ⟨pb, po + j * 3 + 2, none⟩ = some (.int .i64 pj.salt) ∧ w'.cell? ⟨wX.heap.size, 2, none⟩ = some (.slice (some ⟨bx, ox, none⟩) F1.length cx) ∧ w'.cell? ⟨wY.heap.size, 2, none⟩ = some (.slice (some ⟨by_, oy, none⟩) F2.length cy) ∧ w'.cell? ⟨bx, ox + j * 2, none⟩ = some (.int .i64 xl) ∧ w'.cell? ⟨bx, ox + j * 2 + 1, none⟩ = some (.slice xA xn xc) ∧ w'.cell? ⟨by_, oy + j * 2, none⟩ = some (.int .i64 yl) ∧ w'.cell? ⟨by_, oy + j * 2 + 1, none⟩ = some (.slice yA yn yc))) (by kernel_rfl) (⟨s2, x2, y2, X0, X1, Y0, Y1⟩) (fun hHeld => ?_)
              refine wpAnyH_take (i := 0) (v := ?_) rfl (by kernel_rfl) (by kernel_rfl) (by kernel_rfl) (fun _ _ _ h => h) (Or.inl ⟨by rfl, ?_⟩) (by assumption) ?_
              rotate_left 1
              · (intro wS hSw; (try dsimp only at hSw); go_simp; try with_reducible rfl)
              try simp only [List.getElem_toArray, List.getElem_cons_zero, List.getElem_cons_succ, Act.put, List.setIfInBounds_toArray, List.set_cons_zero, List.set_cons_succ]
              refine wpAnyH_take (i := 1) (v := ?_) rfl (by kernel_rfl) (by kernel_rfl) (by kernel_rfl) (fun _ _ _ h => h) (Or.inl ⟨by rfl, ?_⟩) (by assumption) ?_
              rotate_left 1
              · (intro wS hSw; (try dsimp only at hSw); go_simp; try with_reducible rfl)
              try simp only [List.getElem_toArray, List.getElem_cons_zero, List.getElem_cons_succ, Act.put, List.setIfInBounds_toArray, List.set_cons_zero, List.set_cons_succ]
              refine wpAnyH_take (i := 2) (v := ?_) rfl (by kernel_rfl) (by kernel_rfl) (by kernel_rfl) (fun _ _ _ h => h) (Or.inl ⟨by rfl, ?_⟩) (by assumption) ?_
              rotate_left 1
              · (intro wS hSw; (try dsimp only at hSw); go_simp; try with_reducible rfl)
              try simp only [List.getElem_toArray, List.getElem_cons_zero, List.getElem_cons_succ, Act.put, List.setIfInBounds_toArray, List.set_cons_zero, List.set_cons_succ]
              refine wpAnyH_take (i := 3) (v := ?_) rfl (by kernel_rfl) (by kernel_rfl) (by kernel_rfl) (fun _ _ _ h => h) (Or.inl ⟨by rfl, ?_⟩) (by assumption) ?_
              rotate_left 1
              · (intro wS hSw; (try dsimp only at hSw); go_simp; try with_reducible rfl)
              try simp only [List.getElem_toArray, List.getElem_cons_zero, List.getElem_cons_succ, Act.put, List.setIfInBounds_toArray, List.set_cons_zero, List.set_cons_succ]
              refine wpAnyH_take (i := 4) (v := undef) rfl (by kernel_rfl) (by kernel_rfl) (by kernel_rfl) (fun _ _ _ h => h) (Or.inr ⟨by rfl, rfl⟩) (by assumption) ?_
              try simp only [List.getElem_toArray, List.getElem_cons_zero, List.getElem_cons_succ, Act.put, List.setIfInBounds_toArray, List.set_cons_zero, List.set_cons_succ]
              refine wpAnyH_take (i := 5) (v := undef) rfl (by kernel_rfl) (by kernel_rfl) (by kernel_rfl) (fun _ _ _ h => h) (Or.inr ⟨by rfl, rfl⟩) (by assumption) ?_
              try simp only [List.getElem_toArray, List.getElem_cons_zero, List.getElem_cons_succ, Act.put, List.setIfInBounds_toArray, List.set_cons_zero, List.set_cons_succ]
              refine wpAnyH_take (i := 6) (v := undef) rfl (by kernel_rfl) (by kernel_rfl) (by kernel_rfl) (fun _ _ _ h => h) (Or.inr ⟨by rfl, rfl⟩) (by assumption) ?_
              try simp only [List.getElem_toArray, List.getElem_cons_zero, List.getElem_cons_succ, Act.put, List.setIfInBounds_toArray, List.set_cons_zero, List.set_cons_succ]
              refine wpAnyH_take (i := 7) (v := undef) rfl (by kernel_rfl) (by kernel_rfl) (by kernel_rfl) (fun _ _ _ h => h) (Or.inr ⟨by rfl, rfl⟩) (by assumption) ?_
              try simp only [List.getElem_toArray, List.getElem_cons_zero, List.getElem_cons_succ, Act.put, List.setIfInBounds_toArray, List.set_cons_zero, List.set_cons_succ]
              refine wpAnyH_take (i := 8) (v := undef) rfl (by kernel_rfl) (by kernel_rfl) (by kernel_rfl) (fun _ _ _ h => h) (Or.inr ⟨by rfl, rfl⟩) (by assumption) ?_
              try simp only [List.getElem_toArray, List.getElem_cons_zero, List.getElem_cons_succ, Act.put, List.setIfInBounds_toArray, List.set_cons_zero, List.set_cons_succ]
              refine wpAnyH_take (i := 9) (v := undef) rfl (by kernel_rfl) (by kernel_rfl) (by kernel_rfl) (fun _ _ _ h => h) (Or.inr ⟨by rfl, rfl⟩) (by assumption) ?_
              try simp only [List.getElem_toArray, List.getElem_cons_zero, List.getElem_cons_succ, Act.put, List.setIfInBounds_toArray, List.set_cons_zero, List.set_cons_succ]
              refine wpAnyH_take (i := 10) (v := undef) rfl (by kernel_rfl) (by kernel_rfl) (by kernel_rfl) (fun _ _ _ h => h) (Or.inr ⟨by rfl, rfl⟩) (by assumption) ?_
              try simp only [List.getElem_toArray, List.getElem_cons_zero, List.getElem_cons_succ, Act.put, List.setIfInBounds_toArray, List.set_cons_zero, List.set_cons_succ]
              refine wpAnyH_take (i := 11) (v := ?_) rfl (by kernel_rfl) (by kernel_rfl) (by kernel_rfl) (fun _ _ _ h => h) (Or.inl ⟨by rfl, ?_⟩) (by assumption) ?_
              rotate_left 1
              · (intro wS hSw; (try dsimp only at hSw); go_simp; try with_reducible rfl)
              try simp only [List.getElem_toArray, List.getElem_cons_zero, List.getElem_cons_succ, Act.put, List.setIfInBounds_toArray, List.set_cons_zero, List.set_cons_succ]
              refine wpAnyH_take (i := 12) (v := ?_) rfl (by kernel_rfl) (by kernel_rfl) (by kernel_rfl) (fun _ _ _ h => h) (Or.inl ⟨by rfl, ?_⟩) (by assumption) ?_
              rotate_left 1
              · (intro wS hSw; (try dsimp only at hSw); go_simp; try with_reducible rfl)
              try simp only [List.getElem_toArray, List.getElem_cons_zero, List.getElem_cons_succ, Act.put, List.setIfInBounds_toArray, List.set_cons_zero, List.set_cons_succ]
              refine wpAnyH_take (i := 13) (v := undef) rfl (by kernel_rfl) (by kernel_rfl) (by kernel_rfl) (fun _ _ _ h => h) (Or.inr ⟨by rfl, rfl⟩) (by assumption) ?_
              try simp only [List.getElem_toArray, List.getElem_cons_zero, List.getElem_cons_succ, Act.put, List.setIfInBounds_toArray, List.set_cons_zero, List.set_cons_succ]
              refine wpAnyH_take (i := 14) (v := undef) rfl (by kernel_rfl) (by kernel_rfl) (by kernel_rfl) (fun _ _ _ h => h) (Or.inr ⟨by rfl, rfl⟩) (by assumption) ?_
              try simp only [List.getElem_toArray, List.getElem_cons_zero, List.getElem_cons_succ, Act.put, List.setIfInBounds_toArray, List.set_cons_zero, List.set_cons_succ]
              refine wpAnyH_take (i := 15) (v := undef) rfl (by kernel_rfl) (by kernel_rfl) (by kernel_rfl) (fun _ _ _ h => h) (Or.inr ⟨by rfl, rfl⟩) (by assumption) ?_
              try simp only [List.getElem_toArray, List.getElem_cons_zero, List.getElem_cons_succ, Act.put, List.setIfInBounds_toArray, List.set_cons_zero, List.set_cons_succ]
              refine wpAnyH_take (i := 16) (v := undef) rfl (by kernel_rfl) (by kernel_rfl) (by kernel_rfl) (fun _ _ _ h => h) (Or.inr ⟨by rfl, rfl⟩) (by assumption) ?_
              try simp only [List.getElem_toArray, List.getElem_cons_zero, List.getElem_cons_succ, Act.put, List.setIfInBounds_toArray, List.set_cons_zero, List.set_cons_succ]
              refine wpAnyH_take (i := 17) (v := undef) rfl (by kernel_rfl) (by kernel_rfl) (by kernel_rfl) (fun _ _ _ h => h) (Or.inr ⟨by rfl, rfl⟩) (by assumption) ?_
              try simp only [List.getElem_toArray, List.getElem_cons_zero, List.getElem_cons_succ, Act.put, List.setIfInBounds_toArray, List.set_cons_zero, List.set_cons_succ]
              refine wpAnyH_take (i := 18) (v := undef) rfl (by kernel_rfl) (by kernel_rfl) (by kernel_rfl) (fun _ _ _ h => h) (Or.inr ⟨by rfl, rfl⟩) (by assumption) ?_
              try simp only [List.getElem_toArray, List.getElem_cons_zero, List.getElem_cons_succ, Act.put, List.setIfInBounds_toArray, List.set_cons_zero, List.set_cons_succ]
              refine wpAnyH_take (i := 19) (v := undef) rfl (by kernel_rfl) (by kernel_rfl) (by kernel_rfl) (fun _ _ _ h => h) (Or.inr ⟨by rfl, rfl⟩) (by assumption) ?_
              try simp only [List.getElem_toArray, List.getElem_cons_zero, List.getElem_cons_succ, Act.put, List.setIfInBounds_toArray, List.set_cons_zero, List.set_cons_succ]
              refine wpAnyH_take (i := 20) (v := undef) rfl (by kernel_rfl) (by kernel_rfl) (by kernel_rfl) (fun _ _ _ h => h) (Or.inr ⟨by rfl, rfl⟩) (by assumption) ?_
              try simp only [List.getElem_toArray, List.getElem_cons_zero, List.getElem_cons_succ, Act.put, List.setIfInBounds_toArray, List.set_cons_zero, List.set_cons_succ]
              refine wpAnyH_take (i := 21) (v := undef) rfl (by kernel_rfl) (by kernel_rfl) (by kernel_rfl) (fun _ _ _ h => h) (Or.inr ⟨by rfl, rfl⟩) (by assumption) ?_
              try simp only [List.getElem_toArray, List.getElem_cons_zero, List.getElem_cons_succ, Act.put, List.setIfInBounds_toArray, List.set_cons_zero, List.set_cons_succ]
              refine wpAnyH_take (i := 22) (v := undef) rfl (by kernel_rfl) (by kernel_rfl) (by kernel_rfl) (fun _ _ _ h => h) (Or.inr ⟨by rfl, rfl⟩) (by assumption) ?_
              try simp only [List.getElem_toArray, List.getElem_cons_zero, List.getElem_cons_succ, Act.put, List.setIfInBounds_toArray, List.set_cons_zero, List.set_cons_succ]
              refine wpAnyH_take (i := 23) (v := undef) rfl (by kernel_rfl) (by kernel_rfl) (by kernel_rfl) (fun _ _ _ h => h) (Or.inr ⟨by rfl, rfl⟩) (by assumption) ?_
              try simp only [List.getElem_toArray, List.getElem_cons_zero, List.getElem_cons_succ, Act.put, List.setIfInBounds_toArray, List.set_cons_zero, List.set_cons_succ]
              refine wpAnyH_take (i := 24) (v := undef) rfl (by kernel_rfl) (by kernel_rfl) (by kernel_rfl) (fun _ _ _ h => h) (Or.inr ⟨by rfl, rfl⟩) (by assumption) ?_
              try simp only [List.getElem_toArray, List.getElem_cons_zero, List.getElem_cons_succ, Act.put, List.setIfInBounds_toArray, List.set_cons_zero, List.set_cons_succ]
              refine wpAnyH_take (i := 25) (v := ?_) rfl (by kernel_rfl) (by kernel_rfl) (by kernel_rfl) (fun _ _ _ h => h) (Or.inl ⟨by rfl, ?_⟩) (by assumption) ?_
              rotate_left 1
              · (intro wS hSw; (try dsimp only at hSw); go_simp; try with_reducible rfl)
              try simp only [List.getElem_toArray, List.getElem_cons_zero, List.getElem_cons_succ, Act.put, List.setIfInBounds_toArray, List.set_cons_zero, List.set_cons_succ]
              refine wpAnyH_done (by kernel_rfl) ?_ _
              refine NoPanic.normal ?_
              go_wp2_with fail
              go_meet
              exact ⟨rfl, bD⟩
            · have d1 : ((j : Int) != (f : Int)) = true := by simp; omega
              by_cases e2 : pj.salt = (f : Int)
              · have d2 : (pj.salt != (f : Int)) = false := by rw [e2]; simp
                clear e1 e2
                refine wp_region_noPanic ?_
                refine wp_region_held_drew (S := (fun w' => w'.cell? ⟨pb, po + j * 3 + 2, none⟩ = some (.int .i64 pj.salt) ∧ w'.cell? ⟨wX.heap.size, 2, none⟩ = some (.slice (some ⟨bx, ox, none⟩) F1.length cx) ∧ w'.cell? ⟨wY.heap.size, 2, none⟩ = some (.slice (some ⟨by_, oy, none⟩) F2.length cy) ∧ w'.cell? ⟨bx, ox + j * 2, none⟩ = some (.int .i64 xl) ∧ w'.cell? ⟨bx, ox + j * 2 + 1, none⟩ = some (.slice xA xn xc) ∧ w'.cell? ⟨by_, oy + j * 2, none⟩ = some (.int .i64 yl) ∧ w'.cell? ⟨by_, oy + j * 2 + 1, none⟩ = some (.slice yA yn yc))) (by kernel_rfl) (⟨s2, x2, y2, X0, X1, Y0, Y1⟩) (fun hHeld => ?_)
                refine wpAnyH_take (i := 0) (v := ?_) rfl (by kernel_rfl) (by kernel_rfl) (by kernel_rfl) (fun _ _ _ h => h) (Or.inl ⟨by rfl, ?_⟩) (by assumption) ?_
                rotate_left 1
                · (intro wS hSw; (try dsimp only at hSw); go_simp; try with_reducible rfl)
                try simp only [List.getElem_toArray, List.getElem_cons_zero, List.getElem_cons_succ, Act.put, List.setIfInBounds_toArray, List.set_cons_zero, List.set_cons_succ]
                refine wpAnyH_take (i := 1) (v := ?_) rfl (by kernel_rfl) (by kernel_rfl) (by kernel_rfl) (fun _ _ _ h => h) (Or.inl ⟨by rfl, ?_⟩) (by assumption) ?_
                rotate_left 1
                · (intro wS hSw; (try dsimp only at hSw); go_simp; try with_reducible rfl)
                try simp only [List.getElem_toArray, List.getElem_cons_zero, List.getElem_cons_succ, Act.put, List.setIfInBounds_toArray, List.set_cons_zero, List.set_cons_succ]
                refine wpAnyH_take (i := 2) (v := ?_) rfl (by kernel_rfl) (by kernel_rfl) (by kernel_rfl) (fun _ _ _ h => h) (Or.inl ⟨by rfl, ?_⟩) (by assumption) ?_
                rotate_left 1
                · (intro wS hSw; (try dsimp only at hSw); go_simp; try with_reducible rfl)
                try simp only [List.getElem_toArray, List.getElem_cons_zero, List.getElem_cons_succ, Act.put, List.setIfInBounds_toArray, List.set_cons_zero, List.set_cons_succ]
                refine wpAnyH_take (i := 3) (v := ?_) rfl (by kernel_rfl) (by kernel_rfl) (by kernel_rfl) (fun _ _ _ h => h) (Or.inl ⟨by rfl, ?_⟩) (by assumption) ?_
                rotate_left 1
                · (intro wS hSw; (try dsimp only at hSw); go_simp; try with_reducible rfl)
                try simp only [List.getElem_toArray, List.getElem_cons_zero, List.getElem_cons_succ, Act.put, List.setIfInBounds_toArray, List.set_cons_zero, List.set_cons_succ]
                refine wpAnyH_take (i := 4) (v := ?_) rfl (by kernel_rfl) (by kernel_rfl) (by kernel_rfl) (fun _ _ _ h => h) (Or.inl ⟨by rfl, ?_⟩) (by assumption) ?_
                rotate_left 1
                · (intro wS hSw; (try dsimp only at hSw); go_simp; try with_reducible rfl)
                try simp only [List.getElem_toArray, List.getElem_cons_zero, List.getElem_cons_succ, Act.put, List.setIfInBounds_toArray, List.set_cons_zero, List.set_cons_succ]
                refine wpAnyH_take (i := 5) (v := ?_) rfl (by kernel_rfl) (by kernel_rfl) (by kernel_rfl) (fun _ _ _ h => h) (Or.inl ⟨by rfl, ?_⟩) (by assumption) ?_
                rotate_left 1
                · (intro wS hSw; (try dsimp only at hSw); go_simp; try with_reducible rfl)
                try simp only [List.getElem_toArray, List.getElem_cons_zero, List.getElem_cons_succ, Act.put, List.setIfInBounds_toArray, List.set_cons_zero, List.set_cons_succ]
                refine wpAnyH_take (i := 6) (v := ?_) rfl (by kernel_rfl) (by kernel_rfl) (by kernel_rfl) (fun _ _ _ h => h) (Or.inl ⟨by rfl, ?_⟩) (by assumption) ?_
                rotate_left 1
                · (intro wS hSw; (try dsimp only at hSw); go_simp; try with_reducible rfl)
                try simp only [List.getElem_toArray, List.getElem_cons_zero, List.getElem_cons_succ, Act.put, List.setIfInBounds_toArray, List.set_cons_zero, List.set_cons_succ]
                refine wpAnyH_take (i := 7) (v := ?_) rfl (by kernel_rfl) (by kernel_rfl) (by kernel_rfl) (fun _ _ _ h => h) (Or.inl ⟨by rfl, ?_⟩) (by assumption) ?_
                rotate_left 1
                · (intro wS hSw; (try dsimp only at hSw); go_simp; try with_reducible rfl)
                try simp only [List.getElem_toArray, List.getElem_cons_zero, List.getElem_cons_succ, Act.put, List.setIfInBounds_toArray, List.set_cons_zero, List.set_cons_succ]
                refine wpAnyH_take (i := 8) (v := ?_) rfl (by kernel_rfl) (by kernel_rfl) (by kernel_rfl) (fun _ _ _ h => h) (Or.inl ⟨by rfl, ?_⟩) (by assumption) ?_
                rotate_left 1
                · (intro wS hSw; (try dsimp only at hSw); go_simp; try with_reducible rfl)
                try simp only [List.getElem_toArray, List.getElem_cons_zero, List.getElem_cons_succ, Act.put, List.setIfInBounds_toArray, List.set_cons_zero, List.set_cons_succ]
                refine wpAnyH_take (i := 9) (v := ?_) rfl (by kernel_rfl) (by kernel_rfl) (by kernel_rfl) (fun _ _ _ h => h) (Or.inl ⟨by rfl, ?_⟩) (by assumption) ?_
                rotate_left 1
                · (intro wS hSw; (try dsimp only at hSw); go_simp; try with_reducible rfl)
                try simp only [List.getElem_toArray, List.getElem_cons_zero, List.getElem_cons_succ, Act.put, List.setIfInBounds_toArray, List.set_cons_zero, List.set_cons_succ]
                refine wpAnyH_take (i := 10) (v := ?_) rfl (by kernel_rfl) (by kernel_rfl) (by kernel_rfl) (fun _ _ _ h => h) (Or.inl ⟨by rfl, ?_⟩) (by assumption) ?_
                rotate_left 1
                · (intro wS hSw; (try dsimp only at hSw); go_simp; try with_reducible rfl)
                try simp only [List.getElem_toArray, List.getElem_cons_zero, List.getElem_cons_succ, Act.put, List.setIfInBounds_toArray, List.set_cons_zero, List.set_cons_succ]
                refine wpAnyH_take (i := 11) (v := ?_) rfl (by kernel_rfl) (by kernel_rfl) (by kernel_rfl) (fun _ _ _ h => h) (Or.inl ⟨by rfl, ?_⟩) (by assumption) ?_
                rotate_left 1
                · (intro wS hSw; (try dsimp only at hSw); go_simp; try with_reducible rfl)
                try simp only [List.getElem_toArray, List.getElem_cons_zero, List.getElem_cons_succ, Act.put, List.setIfInBounds_toArray, List.set_cons_zero, List.set_cons_succ]
                refine wpAnyH_take (i := 12) (v := ?_) rfl (by kernel_rfl) (by kernel_rfl) (by kernel_rfl) (fun _ _ _ h => h) (Or.inl ⟨by rfl, ?_⟩) (by assumption) ?_
                rotate_left 1
                · (intro wS hSw; (try dsimp only at hSw); go_simp; try with_reducible rfl)
                try simp only [List.getElem_toArray, List.getElem_cons_zero, List.getElem_cons_succ, Act.put, List.setIfInBounds_toArray, List.set_cons_zero, List.set_cons_succ]
                refine wpAnyH_take (i := 13) (v := undef) rfl (by kernel_rfl) (by kernel_rfl) (by kernel_rfl) (fun _ _ _ h => h) (Or.inr ⟨by rfl, rfl⟩) (by assumption) ?_
                try simp only [List.getElem_toArray, List.getElem_cons_zero, List.getElem_cons_succ, Act.put, List.setIfInBounds_toArray, List.set_cons_zero, List.set_cons_succ]
                refine wpAnyH_take (i := 14) (v := undef) rfl (by kernel_rfl) (by kernel_rfl) (by kernel_rfl) (fun _ _ _ h => h) (Or.inr ⟨by rfl, rfl⟩) (by assumption) ?_
                try simp only [List.getElem_toArray, List.getElem_cons_zero, List.getElem_cons_succ, Act.put, List.setIfInBounds_toArray, List.set_cons_zero, List.set_cons_succ]
                refine wpAnyH_take (i := 15) (v := undef) rfl (by kernel_rfl) (by kernel_rfl) (by kernel_rfl) (fun _ _ _ h => h) (Or.inr ⟨by rfl, rfl⟩) (by assumption) ?_
                try simp only [List.getElem_toArray, List.getElem_cons_zero, List.getElem_cons_succ, Act.put, List.setIfInBounds_toArray, List.set_cons_zero, List.set_cons_succ]
                refine wpAnyH_take (i := 16) (v := undef) rfl (by kernel_rfl) (by kernel_rfl) (by kernel_rfl) (fun _ _ _ h => h) (Or.inr ⟨by rfl, rfl⟩) (by assumption) ?_
                try simp only [List.getElem_toArray, List.getElem_cons_zero, List.getElem_cons_succ, Act.put, List.setIfInBounds_toArray, List.set_cons_zero, List.set_cons_succ]
                refine wpAnyH_take (i := 17) (v := undef) rfl (by kernel_rfl) (by kernel_rfl) (by kernel_rfl) (fun _ _ _ h => h) (Or.inr ⟨by rfl, rfl⟩) (by assumption) ?_
                try simp only [List.getElem_toArray, List.getElem_cons_zero, List.getElem_cons_succ, Act.put, List.setIfInBounds_toArray, List.set_cons_zero, List.set_cons_succ]
                refine wpAnyH_take (i := 18) (v := undef) rfl (by kernel_rfl) (by kernel_rfl) (by kernel_rfl) (fun _ _ _ h => h) (Or.inr ⟨by rfl, rfl⟩) (by assumption) ?_
                try simp only [List.getElem_toArray, List.getElem_cons_zero, List.getElem_cons_succ, Act.put, List.setIfInBounds_toArray, List.set_cons_zero, List.set_cons_succ]
                refine wpAnyH_take (i := 19) (v := undef) rfl (by kernel_rfl) (by kernel_rfl) (by kernel_rfl) (fun _ _ _ h => h) (Or.inr ⟨by rfl, rfl⟩) (by assumption) ?_
                try simp only [List.getElem_toArray, List.getElem_cons_zero, List.getElem_cons_succ, Act.put, List.setIfInBounds_toArray, List.set_cons_zero, List.set_cons_succ]
                refine wpAnyH_take (i := 20) (v := undef) rfl (by kernel_rfl) (by kernel_rfl) (by kernel_rfl) (fun _ _ _ h => h) (Or.inr ⟨by rfl, rfl⟩) (by assumption) ?_
                try simp only [List.getElem_toArray, List.getElem_cons_zero, List.getElem_cons_succ, Act.put, List.setIfInBounds_toArray, List.set_cons_zero, List.set_cons_succ]
                refine wpAnyH_take (i := 21) (v := undef) rfl (by kernel_rfl) (by kernel_rfl) (by kernel_rfl) (fun _ _ _ h => h) (Or.inr ⟨by rfl, rfl⟩) (by assumption) ?_
                try simp only [List.getElem_toArray, List.getElem_cons_zero, List.getElem_cons_succ, Act.put, List.setIfInBounds_toArray, List.set_cons_zero, List.set_cons_succ]
                refine wpAnyH_take (i := 22) (v := undef) rfl (by kernel_rfl) (by kernel_rfl) (by kernel_rfl) (fun _ _ _ h => h) (Or.inr ⟨by rfl, rfl⟩) (by assumption) ?_
                try simp only [List.getElem_toArray, List.getElem_cons_zero, List.getElem_cons_succ, Act.put, List.setIfInBounds_toArray, List.set_cons_zero, List.set_cons_succ]
                refine wpAnyH_take (i := 23) (v := undef) rfl (by kernel_rfl) (by kernel_rfl) (by kernel_rfl) (fun _ _ _ h => h) (Or.inr ⟨by rfl, rfl⟩) (by assumption) ?_
                try simp only [List.getElem_toArray, List.getElem_cons_zero, List.getElem_cons_succ, Act.put, List.setIfInBounds_toArray, List.set_cons_zero, List.set_cons_succ]
                refine wpAnyH_take (i := 24) (v := undef) rfl (by kernel_rfl) (by kernel_rfl) (by kernel_rfl) (fun _ _ _ h => h) (Or.inr ⟨by rfl, rfl⟩) (by assumption) ?_
                try simp only [List.getElem_toArray, List.getElem_cons_zero, List.getElem_cons_succ, Act.put, List.setIfInBounds_toArray, List.set_cons_zero, List.set_cons_succ]
                refine wpAnyH_take (i := 25) (v := ?_) rfl (by kernel_rfl) (by kernel_rfl) (by kernel_rfl) (fun _ _ _ h => h) (Or.inl ⟨by rfl, ?_⟩) (by assumption) ?_
                rotate_left 1
                · (intro wS hSw; (try dsimp only at hSw); go_simp; try with_reducible rfl)
                try simp only [List.getElem_toArray, List.getElem_cons_zero, List.getElem_cons_succ, Act.put, List.setIfInBounds_toArray, List.set_cons_zero, List.set_cons_succ]
                refine wpAnyH_done (by kernel_rfl) ?_ _
                refine NoPanic.normal ?_
                go_wp2_with fail
                go_meet
                exact ⟨rfl, bD⟩
              · have d2 : (pj.salt != (f : Int)) = true := by simpa using e2
                have hz := HSame.out e1 e2
                have d3 : ((0 : Int) != 0) = false := rfl
                clear e1 e2
                refine wp_region_noPanic ?_
                refine wp_region_held_drew (S := (fun w' => w'.cell? ⟨pb, po + j * 3 + 2, none⟩ = some (.int .i64 pj.salt) ∧ w'.cell? ⟨wX.heap.size, 2, none⟩ = some (.slice (some ⟨bx, ox, none⟩) F1.length cx) ∧ w'.cell? ⟨wY.heap.size, 2, none⟩ = some (.slice (some ⟨by_, oy, none⟩) F2.length cy) ∧ w'.cell? ⟨bx, ox + j * 2, none⟩ = some (.int .i64 xl) ∧ w'.cell? ⟨bx, ox + j * 2 + 1, none⟩ = some (.slice xA xn xc) ∧ w'.cell? ⟨by_, oy + j * 2, none⟩ = some (.int .i64 yl) ∧ w'.cell? ⟨by_, oy + j * 2 + 1, none⟩ = some (.slice yA yn yc))) (by kernel_rfl) (⟨s2, x2, y2, X0, X1, Y0, Y1⟩) (fun hHeld => ?_)
                refine wpAnyH_take (i := 0) (v := ?_) rfl (by kernel_rfl) (by kernel_rfl) (by kernel_rfl) (fun _ _ _ h => h) (Or.inl ⟨by rfl, ?_⟩) (by assumption) ?_
                rotate_left 1
                · (intro wS hSw; (try dsimp only at hSw); go_simp; try with_reducible rfl)
                try simp only [List.getElem_toArray, List.getElem_cons_zero, List.getElem_cons_succ, Act.put, List.setIfInBounds_toArray, List.set_cons_zero, List.set_cons_succ]
                refine wpAnyH_take (i := 1) (v := ?_) rfl (by kernel_rfl) (by kernel_rfl) (by kernel_rfl) (fun _ _ _ h => h) (Or.inl ⟨by rfl, ?_⟩) (by assumption) ?_
                rotate_left 1
                · (intro wS hSw; (try dsimp only at hSw); go_simp; try with_reducible rfl)
                try simp only [List.getElem_toArray, List.getElem_cons_zero, List.getElem_cons_succ, Act.put, List.setIfInBounds_toArray, List.set_cons_zero, List.set_cons_succ]
                refine wpAnyH_take (i := 2) (v := ?_) rfl (by kernel_rfl) (by kernel_rfl) (by kernel_rfl) (fun _ _ _ h => h) (Or.inl ⟨by rfl, ?_⟩) (by assumption) ?_
                rotate_left 1
                · (intro wS hSw; (try dsimp only at hSw); go_simp; try with_reducible rfl)
                try simp only [List.getElem_toArray, List.getElem_cons_zero, List.getElem_cons_succ, Act.put, List.setIfInBounds_toArray, List.set_cons_zero, List.set_cons_succ]
                refine wpAnyH_take (i := 3) (v := ?_) rfl (by kernel_rfl) (by kernel_rfl) (by kernel_rfl) (fun _ _ _ h => h) (Or.inl ⟨by rfl, ?_⟩) (by assumption) ?_
                rotate_left 1
                · (intro wS hSw; (try dsimp only at hSw); go_simp; try with_reducible rfl)
                try simp only [List.getElem_toArray, List.getElem_cons_zero, List.getElem_cons_succ, Act.put, List.setIfInBounds_toArray, List.set_cons_zero, List.set_cons_succ]
                refine wpAnyH_take (i := 4) (v := ?_) rfl (by kernel_rfl) (by kernel_rfl) (by kernel_rfl) (fun _ _ _ h => h) (Or.inl ⟨by rfl, ?_⟩) (by assumption) ?_
                rotate_left 1
                · (intro wS hSw; (try dsimp only at hSw); go_simp; try with_reducible rfl)
                try simp only [List.getElem_toArray, List.getElem_cons_zero, List.getElem_cons_succ, Act.put, List.setIfInBounds_toArray, List.set_cons_zero, List.set_cons_succ]
                refine wpAnyH_take (i := 5) (v := ?_) rfl (by kernel_rfl) (by kernel_rfl) (by kernel_rfl) (fun _ _ _ h => h) (Or.inl ⟨by rfl, ?_⟩) (by assumption) ?_
                rotate_left 1
                · (intro wS hSw; (try dsimp only at hSw); go_simp; try with_reducible rfl)
                try simp only [List.getElem_toArray, List.getElem_cons_zero, List.getElem_cons_succ, Act.put, List.setIfInBounds_toArray, List.set_cons_zero, List.set_cons_succ]
                refine wpAnyH_take (i := 6) (v := ?_) rfl (by kernel_rfl) (by kernel_rfl) (by kernel_rfl) (fun _ _ _ h => h) (Or.inl ⟨by rfl, ?_⟩) (by assumption) ?_
                rotate_left 1
                · (intro wS hSw; (try dsimp only at hSw); go_simp; try with_reducible rfl)
                try simp only [List.getElem_toArray, List.getElem_cons_zero, List.getElem_cons_succ, Act.put, List.setIfInBounds_toArray, List.set_cons_zero, List.set_cons_succ]
                refine wpAnyH_take (i := 7) (v := ?_) rfl (by kernel_rfl) (by kernel_rfl) (by kernel_rfl) (fun _ _ _ h => h) (Or.inl ⟨by rfl, ?_⟩) (by assumption) ?_
                rotate_left 1
                · (intro wS hSw; (try dsimp only at hSw); go_simp; try with_reducible rfl)
                try simp only [List.getElem_toArray, List.getElem_cons_zero, List.getElem_cons_succ, Act.put, List.setIfInBounds_toArray, List.set_cons_zero, List.set_cons_succ]
                refine wpAnyH_take (i := 8) (v := ?_) rfl (by kernel_rfl) (by kernel_rfl) (by kernel_rfl) (fun _ _ _ h => h) (Or.inl ⟨by rfl, ?_⟩) (by assumption) ?_
                rotate_left 1
                · (intro wS hSw; (try dsimp only at hSw); go_simp; try with_reducible rfl)
                try simp only [List.getElem_toArray, List.getElem_cons_zero, List.getElem_cons_succ, Act.put, List.setIfInBounds_toArray, List.set_cons_zero, List.set_cons_succ]
                refine wpAnyH_take (i := 9) (v := ?_) rfl (by kernel_rfl) (by kernel_rfl) (by kernel_rfl) (fun _ _ _ h => h) (Or.inl ⟨by rfl, ?_⟩) (by assumption) ?_
                rotate_left 1
                · (intro wS hSw; (try dsimp only at hSw); go_simp; try with_reducible rfl)
                try simp only [List.getElem_toArray, List.getElem_cons_zero, List.getElem_cons_succ, Act.put, List.setIfInBounds_toArray, List.set_cons_zero, List.set_cons_succ]
                refine wpAnyH_take (i := 10) (v := ?_) rfl (by kernel_rfl) (by kernel_rfl) (by kernel_rfl) (fun _ _ _ h => h) (Or.inl ⟨by rfl, ?_⟩) (by assumption) ?_
                rotate_left 1
                · (intro wS hSw; (try dsimp only at hSw); go_simp; try with_reducible rfl)
                try simp only [List.getElem_toArray, List.getElem_cons_zero, List.getElem_cons_succ, Act.put, List.setIfInBounds_toArray, List.set_cons_zero, List.set_cons_succ]
                refine wpAnyH_take (i := 11) (v := ?_) rfl (by kernel_rfl) (by kernel_rfl) (by kernel_rfl) (fun _ _ _ h => h) (Or.inl ⟨by rfl, ?_⟩) (by assumption) ?_
                rotate_left 1
                · (intro wS hSw; (try dsimp only at hSw); go_simp; try with_reducible rfl)
                try simp only [List.getElem_toArray, List.getElem_cons_zero, List.getElem_cons_succ, Act.put, List.setIfInBounds_toArray, List.set_cons_zero, List.set_cons_succ]
                refine wpAnyH_take (i := 12) (v := ?_) rfl (by kernel_rfl) (by kernel_rfl) (by kernel_rfl) (fun _ _ _ h => h) (Or.inl ⟨by rfl, ?_⟩) (by assumption) ?_
                rotate_left 1
                · (intro wS hSw; (try dsimp only at hSw); go_simp; try with_reducible rfl)
                try simp only [List.getElem_toArray, List.getElem_cons_zero, List.getElem_cons_succ, Act.put, List.setIfInBounds_toArray, List.set_cons_zero, List.set_cons_succ]
                refine wpAnyH_take (i := 13) (v := ?_) rfl (by kernel_rfl) (by kernel_rfl) (by kernel_rfl) (fun _ _ _ h => h) (Or.inl ⟨by rfl, ?_⟩) (by assumption) ?_
                rotate_left 1
                · (intro wS hSw; (try dsimp only at hSw); go_simp; try with_reducible rfl)
                try simp only [List.getElem_toArray, List.getElem_cons_zero, List.getElem_cons_succ, Act.put, List.setIfInBounds_toArray, List.set_cons_zero, List.set_cons_succ]
                refine wpAnyH_take (i := 14) (v := ?_) rfl (by kernel_rfl) (by kernel_rfl) (by kernel_rfl) (fun _ _ _ h => h) (Or.inl ⟨by rfl, ?_⟩) (by assumption) ?_
                rotate_left 1
                · (intro wS hSw; (try dsimp only at hSw); go_simp; try with_reducible rfl)
                try simp only [List.getElem_toArray, List.getElem_cons_zero, List.getElem_cons_succ, Act.put, List.setIfInBounds_toArray, List.set_cons_zero, List.set_cons_succ]
                refine wpAnyH_take (i := 15) (v := ?_) rfl (by kernel_rfl) (by kernel_rfl) (by kernel_rfl) (fun _ _ _ h => h) (Or.inl ⟨by rfl, ?_⟩) (by assumption) ?_
                rotate_left 1
                · (intro wS hSw; (try dsimp only at hSw); go_simp; try with_reducible rfl)
                try simp only [List.getElem_toArray, List.getElem_cons_zero, List.getElem_cons_succ, Act.put, List.setIfInBounds_toArray, List.set_cons_zero, List.set_cons_succ]
                refine wpAnyH_take (i := 16) (v := ?_) rfl (by kernel_rfl) (by kernel_rfl) (by kernel_rfl) (fun _ _ _ h => h) (Or.inl ⟨by rfl, ?_⟩) (by assumption) ?_
                rotate_left 1
                · (intro wS hSw; (try dsimp only at hSw); go_simp; try with_reducible rfl)
                try simp only [List.getElem_toArray, List.getElem_cons_zero, List.getElem_cons_succ, Act.put, List.setIfInBounds_toArray, List.set_cons_zero, List.set_cons_succ]
                refine wpAnyH_take (i := 17) (v := ?_) rfl (by kernel_rfl) (by kernel_rfl) (by kernel_rfl) (fun _ _ _ h => h) (Or.inl ⟨by rfl, ?_⟩) (by assumption) ?_
                rotate_left 1
                · (intro wS hSw; (try dsimp only at hSw); go_simp; try with_reducible rfl)
                try simp only [List.getElem_toArray, List.getElem_cons_zero, List.getElem_cons_succ, Act.put, List.setIfInBounds_toArray, List.set_cons_zero, List.set_cons_succ]
                refine wpAnyH_take (i := 18) (v := ?_) rfl (by kernel_rfl) (by kernel_rfl) (by kernel_rfl) (fun _ _ _ h => h) (Or.inl ⟨by rfl, ?_⟩) (by assumption) ?_
                rotate_left 1
                · (intro wS hSw; (try dsimp only at hSw); go_simp; try with_reducible rfl)
                try simp only [List.getElem_toArray, List.getElem_cons_zero, List.getElem_cons_succ, Act.put, List.setIfInBounds_toArray, List.set_cons_zero, List.set_cons_succ]
                refine wpAnyH_take (i := 19) (v := ?_) rfl (by kernel_rfl) (by kernel_rfl) (by kernel_rfl) (fun _ _ _ h => h) (Or.inl ⟨by rfl, ?_⟩) (by assumption) ?_
                rotate_left 1
                · (intro wS hSw; (try dsimp only at hSw); go_simp; try with_reducible rfl)
                try simp only [List.getElem_toArray, List.getElem_cons_zero, List.getElem_cons_succ, Act.put, List.setIfInBounds_toArray, List.set_cons_zero, List.set_cons_succ]
                refine wpAnyH_take (i := 20) (v := ?_) rfl (by kernel_rfl) (by kernel_rfl) (by kernel_rfl) (fun _ _ _ h => h) (Or.inl ⟨by rfl, ?_⟩) (by assumption) ?_
                rotate_left 1
                · (intro wS hSw; (try dsimp only at hSw); go_simp; try with_reducible rfl)
                try simp only [List.getElem_toArray, List.getElem_cons_zero, List.getElem_cons_succ, Act.put, List.setIfInBounds_toArray, List.set_cons_zero, List.set_cons_succ]
                refine wpAnyH_take (i := 21) (v := ?_) rfl (by kernel_rfl) (by kernel_rfl) (by kernel_rfl) (fun _ _ _ h => h) (Or.inl ⟨by rfl, ?_⟩) (by assumption) ?_
                rotate_left 1
                · (intro wS hSw; (try dsimp only at hSw); go_simp; try with_reducible rfl)
                try simp only [List.getElem_toArray, List.getElem_cons_zero, List.getElem_cons_succ, Act.put, List.setIfInBounds_toArray, List.set_cons_zero, List.set_cons_succ]
                refine wpAnyH_take (i := 22) (v := ?_) rfl (by kernel_rfl) (by kernel_rfl) (by kernel_rfl) (fun _ _ _ h => h) (Or.inl ⟨by rfl, ?_⟩) (by assumption) ?_
                rotate_left 1
                · (intro wS hSw; (try dsimp only at hSw); go_simp; try with_reducible rfl)
                try simp only [List.getElem_toArray, List.getElem_cons_zero, List.getElem_cons_succ, Act.put, List.setIfInBounds_toArray, List.set_cons_zero, List.set_cons_succ]
                refine wpAnyH_ready (rs := [23]) (by kernel_rfl) (by simp) ?_
                refine AllReadyH.cons rfl (fun K hK => ?_) AllReadyH.nil
                go_simp
                refine (rcmpB_any Any1 Any1 _ _ (F1.getD j noBits) (F2.getD j noBits) _ (HAtX.out.below bD) (HAtY.out.below bD) hw1).mono ?_; rw [hz]; rintro e wq ⟨rfl, hb⟩; have bq := bD.trans hb; clear hb
                refine hK.out _ _ (⟨(bq.cell (p := ⟨pb, po + j * 3 + 2, none⟩) lpb).trans s2, (bq.cell (p := ⟨wX.heap.size, 2, none⟩) lxr).trans x2, (bq.cell (p := ⟨wY.heap.size, 2, none⟩) lyr).trans y2, (bq.cell (p := ⟨bx, ox + j * 2, none⟩) lbx).trans X0, (bq.cell (p := ⟨bx, ox + j * 2 + 1, none⟩) lbx).trans X1, (bq.cell (p := ⟨by_, oy + j * 2, none⟩) lby).trans Y0, (bq.cell (p := ⟨by_, oy + j * 2 + 1, none⟩) lby).trans Y1⟩) (fun hHeld => ?_)
                clear hK K
                try simp only [List.getElem_toArray, List.getElem_cons_zero, List.getElem_cons_succ, Act.put, List.setIfInBounds_toArray, List.set_cons_zero, List.set_cons_succ]
                refine wpAnyH_take (i := 24) (v := ?_) rfl (by kernel_rfl) (by kernel_rfl) (by kernel_rfl) (fun _ _ _ h => h) (Or.inl ⟨by rfl, ?_⟩) (by assumption) ?_
                rotate_left 1
                · (intro wS hSw; (try dsimp only at hSw); go_simp; try with_reducible rfl)
                try simp only [List.getElem_toArray, List.getElem_cons_zero, List.getElem_cons_succ, Act.put, List.setIfInBounds_toArray, List.set_cons_zero, List.set_cons_succ]
                refine wpAnyH_take (i := 25) (v := ?_) rfl (by kernel_rfl) (by kernel_rfl) (by kernel_rfl) (fun _ _ _ h => h) (Or.inl ⟨by rfl, ?_⟩) (by assumption) ?_
                rotate_left 1
                · (intro wS hSw; (try dsimp only at hSw); go_simp; try with_reducible rfl)
                try simp only [List.getElem_toArray, List.getElem_cons_zero, List.getElem_cons_succ, Act.put, List.setIfInBounds_toArray, List.set_cons_zero, List.set_cons_succ]
                refine wpAnyH_done (by kernel_rfl) ?_ _
                refine NoPanic.normal ?_
                go_wp2_with fail
                go_meet
                exact ⟨rfl, bq⟩
          case rest =>
            obtain ⟨rfl, hbc⟩ := hcut
            have y2' := (hbc.cell (p := ⟨wY.heap.size, 2, none⟩) lyr).trans y2
            have Y0' := (hbc.cell (p := ⟨by_, oy + j * 2, none⟩) lby).trans Y0
            have c2' := (hbc.cell (p := ⟨w6.heap.size, 2, none⟩) lcr).trans c2
            have v0' := (hbc.cell (p := ⟨g, j, none⟩) lbc).trans v0
            have HBC := Lib.hid hbc
            clear hbc s2 x2 y2 X0 X1 Y0 Y1 c2 v0 hbw
            obtain ⟨bo, hex, dl⟩ : ∃ bo : Bool, V.isEmpty = bo ∧ (yl == (0 : Int)) = bo := by
              by_cases hV : V = []
              · exact ⟨true, by rw [hV]; rfl, by rw [HIff.out.2 hV]; rfl⟩
              · exact ⟨false, by simpa using hV, by simp; intro h; exact hV (HIff.out.1 h)⟩
            go_wp2_with fail
            refine wp_region_noPanic ?_
            refine wp_region_held_drew (S := (fun w' => w'.cell? ⟨wY.heap.size, 2, none⟩ = some (.slice (some ⟨by_, oy, none⟩) F2.length cy) ∧ w'.cell? ⟨by_, oy + j * 2, none⟩ = some (.int .i64 yl) ∧ w'.cell? ⟨w6.heap.size, 2, none⟩ = some (.slice (some ⟨g, 0, none⟩) r1.vals.length c6) ∧ w'.cell? ⟨g, j, none⟩ = some (strV V))) (by kernel_rfl) (⟨y2', Y0', c2', v0'⟩) (fun hHeld => ?_)
            refine wpAnyH_take (i := 0) (v := ?_) rfl (by kernel_rfl) (by kernel_rfl) (by kernel_rfl) (fun _ _ _ h => h) (Or.inl ⟨by rfl, ?_⟩) (by assumption) ?_
            rotate_left 1
            · (intro wS hSw; (try dsimp only at hSw); go_simp; try with_reducible rfl)
            try simp only [List.getElem_toArray, List.getElem_cons_zero, List.getElem_cons_succ, Act.put, List.setIfInBounds_toArray, List.set_cons_zero, List.set_cons_succ]
            refine wpAnyH_take (i := 1) (v := ?_) rfl (by kernel_rfl) (by kernel_rfl) (by kernel_rfl) (fun _ _ _ h => h) (Or.inl ⟨by rfl, ?_⟩) (by assumption) ?_
            rotate_left 1
            · (intro wS hSw; (try dsimp only at hSw); go_simp; try with_reducible rfl)
            try simp only [List.getElem_toArray, List.getElem_cons_zero, List.getElem_cons_succ, Act.put, List.setIfInBounds_toArray, List.set_cons_zero, List.set_cons_succ]
            refine wpAnyH_take (i := 2) (v := ?_) rfl (by kernel_rfl) (by kernel_rfl) (by kernel_rfl) (fun _ _ _ h => h) (Or.inl ⟨by rfl, ?_⟩) (by assumption) ?_
            rotate_left 1
            · (intro wS hSw; (try dsimp only at hSw); go_simp; try with_reducible rfl)
            try simp only [List.getElem_toArray, List.getElem_cons_zero, List.getElem_cons_succ, Act.put, List.setIfInBounds_toArray, List.set_cons_zero, List.set_cons_succ]
            refine wpAnyH_take (i := 3) (v := ?_) rfl (by kernel_rfl) (by kernel_rfl) (by kernel_rfl) (fun _ _ _ h => h) (Or.inl ⟨by rfl, ?_⟩) (by assumption) ?_
            rotate_left 1
            · (intro wS hSw; (try dsimp only at hSw); go_simp; try with_reducible rfl)
            try simp only [List.getElem_toArray, List.getElem_cons_zero, List.getElem_cons_succ, Act.put, List.setIfInBounds_toArray, List.set_cons_zero, List.set_cons_succ]
            refine wpAnyH_take (i := 4) (v := ?_) rfl (by kernel_rfl) (by kernel_rfl) (by kernel_rfl) (fun _ _ _ h => h) (Or.inl ⟨by rfl, ?_⟩) (by assumption) ?_
            rotate_left 1
            · (intro wS hSw; (try dsimp only at hSw); go_simp; try with_reducible rfl)
            try simp only [List.getElem_toArray, List.getElem_cons_zero, List.getElem_cons_succ, Act.put, List.setIfInBounds_toArray, List.set_cons_zero, List.set_cons_succ]
            refine wpAnyH_take (i := 5) (v := ?_) rfl (by kernel_rfl) (by kernel_rfl) (by kernel_rfl) (fun _ _ _ h => h) (Or.inl ⟨by rfl, ?_⟩) (by assumption) ?_
            rotate_left 1
            · (intro wS hSw; (try dsimp only at hSw); go_simp; try with_reducible rfl)
            try simp only [List.getElem_toArray, List.getElem_cons_zero, List.getElem_cons_succ, Act.put, List.setIfInBounds_toArray, List.set_cons_zero, List.set_cons_succ]
            refine wpAnyH_take (i := 6) (v := ?_) rfl (by kernel_rfl) (by kernel_rfl) (by kernel_rfl) (fun _ _ _ h => h) (Or.inl ⟨by rfl, ?_⟩) (by assumption) ?_
            rotate_left 1
            · (intro wS hSw; (try dsimp only at hSw); go_simp; try with_reducible rfl)
            try simp only [List.getElem_toArray, List.getElem_cons_zero, List.getElem_cons_succ, Act.put, List.setIfInBounds_toArray, List.set_cons_zero, List.set_cons_succ]
            refine wpAnyH_take (i := 7) (v := ?_) rfl (by kernel_rfl) (by kernel_rfl) (by kernel_rfl) (fun _ _ _ h => h) (Or.inl ⟨by rfl, ?_⟩) (by assumption) ?_
            rotate_left 1
            · (intro wS hSw; (try dsimp only at hSw); go_simp; try with_reducible rfl)
            try simp only [List.getElem_toArray, List.getElem_cons_zero, List.getElem_cons_succ, Act.put, List.setIfInBounds_toArray, List.set_cons_zero, List.set_cons_succ]
            refine wpAnyH_take (i := 8) (v := ?_) rfl (by kernel_rfl) (by kernel_rfl) (by kernel_rfl) (fun _ _ _ h => h) (Or.inl ⟨by rfl, ?_⟩) (by assumption) ?_
            rotate_left 1
            · (intro wS hSw; (try dsimp only at hSw); go_simp; try with_reducible rfl)
            try simp only [List.getElem_toArray, List.getElem_cons_zero, List.getElem_cons_succ, Act.put, List.setIfInBounds_toArray, List.set_cons_zero, List.set_cons_succ]
            refine wpAnyH_take (i := 9) (v := ?_) rfl (by kernel_rfl) (by kernel_rfl) (by kernel_rfl) (fun _ _ _ h => h) (Or.inl ⟨by rfl, ?_⟩) (by assumption) ?_
            rotate_left 1
            · (intro wS hSw; (try dsimp only at hSw); go_simp; try with_reducible rfl)
            try simp only [List.getElem_toArray, List.getElem_cons_zero, List.getElem_cons_succ, Act.put, List.setIfInBounds_toArray, List.set_cons_zero, List.set_cons_succ]
            refine wpAnyH_take (i := 10) (v := ?_) rfl (by kernel_rfl) (by kernel_rfl) (by kernel_rfl) (fun _ _ _ h => h) (Or.inl ⟨by rfl, ?_⟩) (by assumption) ?_
            rotate_left 1
            · (intro wS hSw; (try dsimp only at hSw); go_simp; try with_reducible rfl)
            try simp only [List.getElem_toArray, List.getElem_cons_zero, List.getElem_cons_succ, Act.put, List.setIfInBounds_toArray, List.set_cons_zero, List.set_cons_succ]
            refine wpAnyH_take (i := 11) (v := ?_) rfl (by kernel_rfl) (by kernel_rfl) (by kernel_rfl) (fun _ _ _ h => h) (Or.inl ⟨by rfl, ?_⟩) (by assumption) ?_
            rotate_left 1
            · (intro wS hSw; (try dsimp only at hSw); go_simp; try with_reducible rfl)
            try simp only [List.getElem_toArray, List.getElem_cons_zero, List.getElem_cons_succ, Act.put, List.setIfInBounds_toArray, List.set_cons_zero, List.set_cons_succ]
            refine wpAnyH_take (i := 12) (v := ?_) rfl (by kernel_rfl) (by kernel_rfl) (by kernel_rfl) (fun _ _ _ h => h) (Or.inl ⟨by rfl, ?_⟩) (by assumption) ?_
            rotate_left 1
            · (intro wS hSw; (try dsimp only at hSw); go_simp; try with_reducible rfl)
            try simp only [List.getElem_toArray, List.getElem_cons_zero, List.getElem_cons_succ, Act.put, List.setIfInBounds_toArray, List.set_cons_zero, List.set_cons_succ]
            refine wpAnyH_take (i := 13) (v := ?_) rfl (by kernel_rfl) (by kernel_rfl) (by kernel_rfl) (fun _ _ _ h => h) (Or.inl ⟨by rfl, ?_⟩) (by assumption) ?_
            rotate_left 1
            · (intro wS hSw; (try dsimp only at hSw); go_simp; try with_reducible rfl)
            try simp only [List.getElem_toArray, List.getElem_cons_zero, List.getElem_cons_succ, Act.put, List.setIfInBounds_toArray, List.set_cons_zero, List.set_cons_succ]
            refine wpAnyH_done (by kernel_rfl) ?_ _
            refine NoPanic.normal ?_
            cases bo
            · go_wp2_with fail
              go_roundw
              case rel => exact ⟨j + 1, by go_num, by omega, HBW.out.trans ((HBC.out.drew).mono HBW.out.size)⟩
              case measure => simp [intOf]; omega
            · go_wp2_with fail
              go_roundw
              case rel => exact ⟨j + 1, by go_num, by omega, HBW.out.trans ((HBC.out.drew).mono HBW.out.size)⟩
              case measure => simp [intOf]; omega
        · have hq : decide ((j : Int) < N) = false := by simp; omega
          go_wp2_with fail
          go_ret
          exact ⟨rfl, HBe.out.trans (hbw.mono HBe.out.size)⟩
  · have hd : decide (n ≤ 400) = false := by simpa using hn
    clear hr hn
    go_enter Tryz.func4, Tryz.ntmps4
    go_wp2_with fail
    refine (awake_e _).mono ?_; rintro e w1 ⟨rfl, hb1⟩
    go_wp2_with fail
    refine (few_any a n cap _).mono ?_; rintro e w' ⟨rfl, rfl⟩
    go_wp2_with fail
    refine (awake_e _).mono ?_; rintro e w2 ⟨rfl, hb2⟩
    go_wp2_with fail
    go_ret
    exact ⟨rfl, hb1.trans (hb2.mono hb1.size)⟩
end Go.Proofs.YtmakailcpkogdaaGreatDoor
end
section
namespace Go.Proofs.YtmakailcpkogdaaGreatDoor.encodeDepends
open Go.ChangeShapes Go.WideShapes Go.ChangeAt Go.RowKit Go.Joins
open Go.ChangeMaps (open_string shut_string)
set_option linter.unusedVariables false

theorem own : ownKnob Tryz.prog.godebug = none := by kernel_rfl
theorem laidOut : laidOutB Tryz.prog = true := by kernel_rfl

set_option maxRecDepth 100000 in
theorem lifted (os : Os) (started : os.Started) (H : Type) (enc : TypeId × Value → H) :
    ReturnsInHanded {} Tryz.checked os 4 .any (fun w args => (Rows.encodeDependsSpec.pre enc Tryz.prog Tryz.f4 Rows.encodeDependsRow.domain false w args ∧ laidMetH Tryz.prog Rows.encodeDependsRow.laid w) ∧ sizedMet enc Tryz.prog Tryz.f4 (OpenSpec.ofChange Rows.encodeDependsSpec) false w args) (Rows.encodeDependsSpec.post enc Tryz.prog Tryz.f4 false true false false) := by
  refine returnsInHanded_of_change_and (C := Tryz.checked) (X := fun w _ => laidMetH Tryz.prog Rows.encodeDependsRow.laid w) (fun _ _ _ hh h => h.of_heap hh) own started (by kernel_rfl) Tryz.func4
    (ChangeSpec.witness_shaped (enc := enc) (C := Tryz.checked) (os := os) (X := fun w _ => laidMetH Tryz.prog Rows.encodeDependsRow.laid w) false (World.laidAll Tryz.prog os Rows.encodeDependsRow.laid) #[.slice none 0 0, .int .u8 0] 8 (World.laidAll_os _ _ _)
      (World.shaped_of_ZipB (by kernel_rfl) (by kernel_rfl)) (by kernel_rfl) (by kernel_rfl) (by kernel_rfl)
      (by rw [MakeChecks.laidMetH_plain _ _ _ (by kernel_rfl)]; exact laidMet_laidAll _ (by kernel_rfl) (by kernel_rfl))) ?_
  intro W base args ds gs before hval0 hW hcnd _ hLaid _
  have hval : ∀ (j : Nat) t v, Tryz.f4.params[j]? = some t → args[j]? = some v → Value.okWide Tryz.prog W .any base t v := hval0
  have hW' := hW
  obtain ⟨p, q, hA0, hV, rfl, hfz, hnd⟩ := hW
  have hA : DataW.TrodAll enc Tryz.prog W 0 (fun _ => true) true Tryz.f4.params.toList args.toList ds p := hA0
  rw [Tryz.params4] at hA hval
  obtain ⟨v0, vs0, d0, ds0, p0, q0, hargs, rfl, rfl, h0, r0⟩ := trodAll_cons hA
  obtain ⟨v1, vs1, d1, ds1, p1, q1, rfl, rfl, rfl, h1, r1⟩ := trodAll_cons r0
  obtain ⟨rfl, rfl, rfl⟩ := trodAll_nil r1
  obtain rfl : args = #[v0, v1] := by cases args; simp_all
  obtain ⟨rfl, rfl⟩ := trodVars_none hV
  obtain ⟨a0, len0, cap0, rfl⟩ := okWide_slice Tryz.underlying22 (hval 0 22 v0 rfl rfl)
  have k0 := h0
  have lt0 : ∀ x ∈ p0, x.block < W.heap.size := by obtain ⟨m, hm⟩ := k0; exact DataW.trod_lt m _ _ _ hm
  obtain ⟨z0, w0⟩ : ∃ zs, IsRow .i64 W a0 len0 cap0 zs := by
    obtain ⟨fuel, hf⟩ := h0
    rcases open_ints Tryz.underlying22 Tryz.underlying3 (by kernel_rfl) hf with ⟨hcs, _⟩ | ⟨x, l, c, zs, hcs, _, hl, hm, hz, _, hcell, hwz⟩
    · simp [Value.cells] at hcs
      obtain ⟨rfl, rfl, rfl⟩ := hcs
      exact ⟨[], .inl ⟨rfl, rfl, rfl, rfl⟩⟩
    · simp [Value.cells] at hcs
      obtain ⟨rfl, rfl, rfl⟩ := hcs
      exact ⟨zs, .inr ⟨_, rfl, hl, hm, by simpa using hz, hcell, hwz⟩⟩
  have k1 := h1
  have lt1 : ∀ x ∈ p1, x.block < W.heap.size := by obtain ⟨m, hm⟩ := k1; exact DataW.trod_lt m _ _ _ hm
  obtain ⟨x1, rfl, hd1, hp1, w1⟩ := open_int Tryz.underlying5 (hval 1 5 v1 rfl rfl) h1
  clear hA0 hval0
  refine (edepends_walk a0 len0 cap0 z0 x1 W w0 w1).mono fun e W' ⟨he, bel⟩ => ?_
  subst he
  exact ⟨_, rfl, _, _, _, [], _, [], hW', trodAll_mk1 (shut_bool Tryz.underlying4 _), (trodAll_cons_mk (Below.trod laidOut (by kernel_rfl) (of_decide_eq_true (by kernel_rfl)) k0 bel lt0) (trodAll_cons_mk (Below.trod laidOut (by kernel_rfl) (of_decide_eq_true (by kernel_rfl)) k1 bel lt1) trodAll_mk0)), rfl, bel.frame _, fun h => by cases h⟩

set_option maxRecDepth 100000 in
set_option maxHeartbeats 100000000 in
theorem over : Rows.encodeDependsRow.holds Tryz.pinned (OpenSpec.ofChange Rows.encodeDependsSpec) :=
  OpenClaim.holds_of_wide 4 Tryz.f4 rfl rfl rfl rfl rfl rfl rfl ⟨rfl, rfl, rfl, rfl, rfl⟩ rfl rfl rfl rfl rfl (by as_aux_lemma => kernel_rfl) Tryz.func4 closed
    (of_decide_eq_true (by as_aux_lemma => kernel_rfl)) (by unfold Func.isWrapper; first | (rw [if_pos (by decide +kernel)]; kernel_rfl) | (rw [if_neg (by decide +kernel)]; exact ⟨rfl, rfl⟩))
    (fun os started H enc _ => lifted os started H enc)

set_option maxRecDepth 100000 in
set_option maxHeartbeats 100000000 in
/-- THE STATEMENT -/
theorem proved : Rows.EncodeDependsCardSaid :=
  Claim7.holds_tied_plain_at .later [] [.data, .data, .data, .data, .pinned] true (true, "2572fc081a092b3e8f883af2bc7fe2f3d6e70fb678b0b48358c326ab32c7ae55") true
    over (fun _ h => by cases h) (by as_aux_lemma => kernel_rfl) (fun _ h => by cases h) encodeDepends_row_tie rfl ⟨rfl, rfl⟩ (by as_aux_lemma => kernel_rfl) rfl
    (fun f fn hf hfn => by
      obtain rfl : f = 4 := Option.some.inj ((show Tryz.prog.funcNamed Rows.encodeDependsRow.func = some 4 by kernel_rfl).symm.trans hf) |>.symm
      obtain rfl : fn = Tryz.f4 := (Option.some.inj (Tryz.func4.symm.trans hfn)).symm
      exact ⟨by kernel_rfl, fun j t ht => by
        rw [Tryz.params4] at ht
        have hm : t ∈ [22, 5] := by simpa using Array.mem_of_getElem? ht
        have hall : ([22, 5].all fun u => !Tryz.prog.wantsStandIn u) = true := by kernel_rfl
        exact (show Tryz.prog.wantsStandIn t = false by simpa using List.all_eq_true.1 hall t hm)⟩)
    (by as_aux_lemma => kernel_rfl)
#print axioms proved
end Go.Proofs.YtmakailcpkogdaaGreatDoor.encodeDepends
end
