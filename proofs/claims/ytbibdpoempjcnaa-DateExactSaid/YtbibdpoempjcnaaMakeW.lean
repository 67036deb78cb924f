/- recordlinkmake: Mod, two and Written: a date written in one of three forms. -/
import Derived.Test.YtbibdpoempjcnaaDateDig
import Derived.Deep.RegionHeld3
set_option linter.unusedSimpArgs false
set_option linter.unusedVariables false
namespace Go.Proofs.Ytbibdpoempjcnaa
open Go.RowKit Cal
attribute [local go_sem] dg_len
@[local go_sem] theorem bytes_append (a b : List UInt8) : (⟨a.toArray⟩ : ByteArray) ++ ⟨b.toArray⟩ = ⟨(a ++ b).toArray⟩ := by
  apply ByteArray.ext; simp
theorem ret_str {a b : List UInt8} (h : a = b) : Ending.returned (.string ⟨a.toArray⟩) = .returned (.string ⟨b.toArray⟩) := by rw [h]
theorem dgb (n : Int) (h : 0 ≤ n) : byteV (UInt8.ofNat (48 + (n % 10).toNat)) = .int .u8 (48 + n % 10) := by
  have : (UInt8.ofNat (48 + (n % 10).toNat)).toNat = 48 + (n % 10).toNat := by rw [UInt8.toNat_ofNat']; omega
  unfold byteV; rw [this]; congr 1; omega
theorem owns_new {w : World} {B : Nat} {e : TypeId} (l : List UInt8) (hB : B ≤ w.heap.size) (hl : l.length ≤ 1000) :
    (w.alloc (.cells (l.map byteV).toArray e)).ownsRow B e 1 (.slice (some ⟨w.heap.size, 0, none⟩) l.length l.length) l.length (l.map byteV) :=
  ⟨by simp, .inr ⟨_, _, _, rfl, hB, blk_new rfl, Nat.le_refl _, size_le_maxLen (by omega), by simp, by rw [List.take_of_length_le (by simp)]⟩⟩
set_option maxHeartbeats 400000 in
theorem two_any (n : Int) (w : World) (h0 : 0 ≤ n) (h1 : n ≤ 99) :
    Calls Try.prog 38 #[.int .i64 n] w fun e w' => e = .returned (.string ⟨(dg n 2).toArray⟩) ∧ Below w.heap.size w w' := by
  have ha : 0 ≤ n / 10 % 10 ∧ n / 10 % 10 ≤ 9 := by omega
  have hb : 0 ≤ n % 10 ∧ n % 10 ≤ 9 := by omega
  obtain ⟨ha1, ha2⟩ := ha
  obtain ⟨hb1, hb2⟩ := hb
  have hcv : ∀ w : World, (convert 56 9 (.slice (some ⟨w.heap.size, 0, none⟩) 2 2)).run Try.prog (w.alloc (.cells #[.int .u8 (48 + n / 10 % 10), .int .u8 (48 + n % 10)] 5)) = .ok (.string ⟨(dg n 2).toArray⟩) (w.alloc (.cells #[.int .u8 (48 + n / 10 % 10), .int .u8 (48 + n % 10)] 5)) := by
    intro w
    have ho := owns_new (w := w) (B := 0) (e := 5) (dg n 2) (Nat.zero_le _) (by rw [dg_len]; omega)
    rw [dg_len] at ho
    have e1 : (dg n 2).map byteV = [.int .u8 (48 + n / 10 % 10), .int .u8 (48 + n % 10)] := by
      simp only [dg, List.nil_append, List.cons_append, List.map_cons, List.map_nil]
      rw [dgb _ (by omega), dgb _ h0]
    rw [e1] at ho
    exact run_convert_owned (dg n 2) (by rw [e1]; exact ho) Try.underlying56 Try.underlying5 Try.underlying9
  go_enter Try.func38, Try.ntmps38
  go_wp2
  go_ret
  exact ⟨rfl, (Below.refl _ _).alloc (Nat.le_refl _) _⟩

theorem dg_two (n : Int) : dg n 4 = dg (n / 100) 2 ++ dg n 2 := by
  simp only [dg, List.nil_append, List.append_assoc]
  have e1 : n / 10 / 10 = n / 100 := by omega
  rw [e1]
theorem dg_mod (n : Int) (h : 0 ≤ n) : dg (n % 100) 2 = dg n 2 := by
  simp only [dg, List.nil_append]
  have e1 : n % 100 / 10 % 10 = n / 10 % 10 := by omega
  have e2 : n % 100 % 10 = n % 10 := by omega
  rw [e1, e2]
/-- a date in one of three forms -/
def writtenL (y m d form : Int) : List UInt8 :=
  if form = 0 then dg y 4 ++ [45] ++ dg m 2 ++ [45] ++ dg d 2 else if form = 1 then dg d 2 ++ [46] ++ dg m 2 ++ [46] ++ dg y 4 else dg m 2 ++ [47] ++ dg d 2 ++ [47] ++ dg y 4
set_option maxHeartbeats 400000 in
theorem mod_any (x n : Int) (w : World) (hx : 0 ≤ x) (hx2 : x ≤ 1000000000000) (hn : 1 ≤ n) (hn2 : n ≤ 1000000000) :
    Calls Try.prog 29 #[.int .i64 x, .int .i64 n] w fun e w' => e = .returned (.int .i64 (x % n)) ∧ w = w' := by
  have h1 : 0 ≤ x % n := Int.emod_nonneg _ (by omega)
  have h2 : x % n < n := Int.emod_lt_of_pos _ (by omega)
  have h3 : 0 ≤ x % n + n := by omega
  have H4 := Lib.hid (show (x % n + n) % n = x % n by rw [Int.add_emod_right]; exact Int.emod_eq_of_lt h1 h2)
  go_enter Try.func29, Try.ntmps29
  go_wp2
  go_ret
  exact ⟨ret_int (by have := H4.out; simp [this]), rfl⟩
set_option maxHeartbeats 1000000 in
theorem written_any (y m d form : Int) (w : World) (hb : 1800 ≤ y ∧ y ≤ 2199 ∧ 0 ≤ m ∧ m ≤ 13 ∧ 1 ≤ d ∧ d ≤ 32) (hf : 0 ≤ form ∧ form ≤ 2) :
    Calls Try.prog 17 #[.agg #[.int .i64 y, .int .i64 m, .int .i64 d], .int .i64 form] w fun e w' => e = .returned (.string ⟨(writtenL y m d form).toArray⟩) ∧ Below w.heap.size w w' := by
  obtain ⟨b1, b2, b3, b4, b5, b6⟩ := hb
  obtain ⟨f1, f2⟩ := hf
  have q1 : 0 ≤ y / 100 ∧ y / 100 ≤ 99 := by omega
  have q2 : 0 ≤ y % 100 ∧ y % 100 ≤ 99 := by omega
  obtain ⟨q1, q1'⟩ := q1
  obtain ⟨q2, q2'⟩ := q2
  have HM := fun w => Lib.hid (mod_any form 3 w f1 (by omega) (by omega) (by omega))
  rw [show form % 3 = form by omega] at HM
  go_enter Try.func17, Try.ntmps17
  go_wp2_with fail
  have m99 : m ≤ 99 := by omega
  have d99 : d ≤ 99 := by omega
  have d0 : 0 ≤ d := by omega
  have e1 : IntKind.i64.wrap (y.tdiv 100) = y / 100 := by rw [Int.tdiv_eq_ediv_of_nonneg (by omega)]; exact IntWalk.i64_in _ ⟨by omega, by omega⟩
  have e2 : y.tmod 100 = y % 100 := Int.tmod_eq_emod_of_nonneg (by omega)
  refine wp_region_noPanic ?_
  refine wp_region_held_drew (S := (fun w' => w'.cell? ⟨w.heap.size, 0, none⟩ = some (.int .i64 y) ∧ w'.cell? ⟨w.heap.size, 1, none⟩ = some (.int .i64 m) ∧ w'.cell? ⟨w.heap.size, 2, none⟩ = some (.int .i64 d))) (by kernel_rfl) (⟨by simp, by simp, by simp⟩) (fun hHeld => ?_)
  refine wpAnyH_take (i := 0) (v := ?_) rfl (by kernel_rfl) (by kernel_rfl) (by kernel_rfl) (fun _ _ _ h => h) (Or.inl ⟨by rfl, ?_⟩) (by assumption) ?_
  rotate_left 1
  · (intro wS hSw; (try dsimp only at hSw); go_simp; try with_reducible rfl)
  try simp only [List.getElem_toArray, List.getElem_cons_zero, List.getElem_cons_succ, Act.put, List.setIfInBounds_toArray, List.set_cons_zero, List.set_cons_succ]
  refine wpAnyH_take (i := 1) (v := ?_) rfl (by kernel_rfl) (by kernel_rfl) (by kernel_rfl) (fun _ _ _ h => h) (Or.inl ⟨by rfl, ?_⟩) (by assumption) ?_
  rotate_left 1
  · (intro wS hSw; (try dsimp only at hSw); go_simp; try with_reducible rfl)
  try simp only [List.getElem_toArray, List.getElem_cons_zero, List.getElem_cons_succ, Act.put, List.setIfInBounds_toArray, List.set_cons_zero, List.set_cons_succ]
  refine wpAnyH_take (i := 2) (v := ?_) rfl (by kernel_rfl) (by kernel_rfl) (by kernel_rfl) (fun _ _ _ h => h) (Or.inl ⟨by rfl, ?_⟩) (by assumption) ?_
  rotate_left 1
  · (intro wS hSw; (try dsimp only at hSw); go_simp; try with_reducible rfl)
  try simp only [List.getElem_toArray, List.getElem_cons_zero, List.getElem_cons_succ, Act.put, List.setIfInBounds_toArray, List.set_cons_zero, List.set_cons_succ]
  refine wpAnyH_take (i := 4) (v := ?_) rfl (by kernel_rfl) (by kernel_rfl) (by kernel_rfl) (fun _ _ _ h => h) (Or.inl ⟨by rfl, ?_⟩) (by assumption) ?_
  rotate_left 1
  · (intro wS hSw; (try dsimp only at hSw); go_simp; try with_reducible rfl)
  try simp only [List.getElem_toArray, List.getElem_cons_zero, List.getElem_cons_succ, Act.put, List.setIfInBounds_toArray, List.set_cons_zero, List.set_cons_succ]
  refine wpAnyH_take (i := 5) (v := ?_) rfl (by kernel_rfl) (by kernel_rfl) (by kernel_rfl) (fun _ _ _ h => h) (Or.inl ⟨by rfl, ?_⟩) (by assumption) ?_
  rotate_left 1
  · (intro wS hSw; (try dsimp only at hSw); go_simp; try with_reducible rfl)
  try simp only [List.getElem_toArray, List.getElem_cons_zero, List.getElem_cons_succ, Act.put, List.setIfInBounds_toArray, List.set_cons_zero, List.set_cons_succ]
  refine wpAnyH_take (i := 6) (v := ?_) rfl (by kernel_rfl) (by kernel_rfl) (by kernel_rfl) (fun _ _ _ h => h) (Or.inl ⟨by rfl, ?_⟩) (by assumption) ?_
  rotate_left 1
  · (intro wS hSw; (try dsimp only at hSw); go_simp; try with_reducible rfl)
  try simp only [List.getElem_toArray, List.getElem_cons_zero, List.getElem_cons_succ, Act.put, List.setIfInBounds_toArray, List.set_cons_zero, List.set_cons_succ]
  refine wpAnyH_take (i := 9) (v := ?_) rfl (by kernel_rfl) (by kernel_rfl) (by kernel_rfl) (fun _ _ _ h => h) (Or.inl ⟨by rfl, ?_⟩) (by assumption) ?_
  rotate_left 1
  · (intro wS hSw; (try dsimp only at hSw); go_simp; try with_reducible rfl)
  try simp only [List.getElem_toArray, List.getElem_cons_zero, List.getElem_cons_succ, Act.put, List.setIfInBounds_toArray, List.set_cons_zero, List.set_cons_succ]
  refine wpAnyH_take (i := 10) (v := ?_) rfl (by kernel_rfl) (by kernel_rfl) (by kernel_rfl) (fun _ _ _ h => h) (Or.inl ⟨by rfl, ?_⟩) (by assumption) ?_
  rotate_left 1
  · (intro wS hSw; (try dsimp only at hSw); go_simp; try with_reducible rfl)
  try simp only [List.getElem_toArray, List.getElem_cons_zero, List.getElem_cons_succ, Act.put, List.setIfInBounds_toArray, List.set_cons_zero, List.set_cons_succ]
  refine wpAnyH_take (i := 12) (v := ?_) rfl (by kernel_rfl) (by kernel_rfl) (by kernel_rfl) (fun _ _ _ h => h) (Or.inl ⟨by rfl, ?_⟩) (by assumption) ?_
  rotate_left 1
  · (intro wS hSw; (try dsimp only at hSw); go_simp; try with_reducible rfl)
  try simp only [List.getElem_toArray, List.getElem_cons_zero, List.getElem_cons_succ, Act.put, List.setIfInBounds_toArray, List.set_cons_zero, List.set_cons_succ]
  refine wpAnyH_take (i := 13) (v := ?_) rfl (by kernel_rfl) (by kernel_rfl) (by kernel_rfl) (fun _ _ _ h => h) (Or.inl ⟨by rfl, ?_⟩) (by assumption) ?_
  rotate_left 1
  · (intro wS hSw; (try dsimp only at hSw); go_simp; try with_reducible rfl)
  try simp only [List.getElem_toArray, List.getElem_cons_zero, List.getElem_cons_succ, Act.put, List.setIfInBounds_toArray, List.set_cons_zero, List.set_cons_succ]
  refine wpAnyH_ready (rs := [3]) (by kernel_rfl) (by simp) ?_
  refine AllReadyH.cons rfl (fun K hK => ?_) AllReadyH.nil
  go_simp
  refine (two_any _ _ q1 q1').mono ?_; rintro e w1 ⟨rfl, hb1⟩; have z1 : w.heap.size < w1.heap.size := (by clear e1 e2; have := hb1.size; simp at this; omega); have HB1 := Lib.hid ((((Below.refl _ _).alloc (Nat.le_refl _) _).drew).trans (hb1.mono (by simp))); have c01 : w1.cell? ⟨w.heap.size, 0, none⟩ = some (.int .i64 y) := (hb1.cell (p := ⟨w.heap.size, 0, none⟩) (by simp)).trans (by simp); have c11 : w1.cell? ⟨w.heap.size, 1, none⟩ = some (.int .i64 m) := (hb1.cell (p := ⟨w.heap.size, 1, none⟩) (by simp)).trans (by simp); have c21 : w1.cell? ⟨w.heap.size, 2, none⟩ = some (.int .i64 d) := (hb1.cell (p := ⟨w.heap.size, 2, none⟩) (by simp)).trans (by simp); clear hb1
  refine hK.out _ _ (⟨c01, c11, c21⟩) (fun hHeld => ?_)
  clear hK K
  try simp only [List.getElem_toArray, List.getElem_cons_zero, List.getElem_cons_succ, Act.put, List.setIfInBounds_toArray, List.set_cons_zero, List.set_cons_succ]
  refine wpAnyH_ready (rs := [7]) (by kernel_rfl) (by simp) ?_
  refine AllReadyH.cons rfl (fun K hK => ?_) AllReadyH.nil
  go_simp
  refine (two_any _ _ q2 q2').mono ?_; rintro e w2 ⟨rfl, hb2⟩; have z2 : w.heap.size < w2.heap.size := (by clear e1 e2; have := hb2.size; omega); have HB2 := Lib.hid (HB1.out.trans (hb2.mono HB1.out.size)); have c02 := (hb2.cell (p := ⟨w.heap.size, 0, none⟩) z1).trans c01; have c12 := (hb2.cell (p := ⟨w.heap.size, 1, none⟩) z1).trans c11; have c22 := (hb2.cell (p := ⟨w.heap.size, 2, none⟩) z1).trans c21; clear hb2 c01 c11 c21
  refine hK.out _ _ (⟨c02, c12, c22⟩) (fun hHeld => ?_)
  clear hK K
  try simp only [List.getElem_toArray, List.getElem_cons_zero, List.getElem_cons_succ, Act.put, List.setIfInBounds_toArray, List.set_cons_zero, List.set_cons_succ]
  refine wpAnyH_take (i := 8) (v := ?_) rfl (by kernel_rfl) (by kernel_rfl) (by kernel_rfl) (fun _ _ _ h => h) (Or.inl ⟨by rfl, ?_⟩) (by assumption) ?_
  rotate_left 1
  · (intro wS hSw; (try dsimp only at hSw); go_simp; try with_reducible rfl)
  try simp only [List.getElem_toArray, List.getElem_cons_zero, List.getElem_cons_succ, Act.put, List.setIfInBounds_toArray, List.set_cons_zero, List.set_cons_succ]
  refine wpAnyH_ready (rs := [11]) (by kernel_rfl) (by simp) ?_
  refine AllReadyH.cons rfl (fun K hK => ?_) AllReadyH.nil
  go_simp
  refine (two_any _ _ b3 m99).mono ?_; rintro e w3 ⟨rfl, hb3⟩; have z3 : w.heap.size < w3.heap.size := (by clear e1 e2; have := hb3.size; omega); have HB3 := Lib.hid (HB2.out.trans (hb3.mono HB2.out.size)); have c03 := (hb3.cell (p := ⟨w.heap.size, 0, none⟩) z2).trans c02; have c13 := (hb3.cell (p := ⟨w.heap.size, 1, none⟩) z2).trans c12; have c23 := (hb3.cell (p := ⟨w.heap.size, 2, none⟩) z2).trans c22; clear hb3 c02 c12 c22
  refine hK.out _ _ (⟨c03, c13, c23⟩) (fun hHeld => ?_)
  clear hK K
  try simp only [List.getElem_toArray, List.getElem_cons_zero, List.getElem_cons_succ, Act.put, List.setIfInBounds_toArray, List.set_cons_zero, List.set_cons_succ]
  refine wpAnyH_ready (rs := [14]) (by kernel_rfl) (by simp) ?_
  refine AllReadyH.cons rfl (fun K hK => ?_) AllReadyH.nil
  go_simp
  refine (two_any _ _ d0 d99).mono ?_; rintro e w4 ⟨rfl, hb4⟩; have z4 : w.heap.size < w4.heap.size := (by clear e1 e2; have := hb4.size; omega); have HB4 := Lib.hid (HB3.out.trans (hb4.mono HB3.out.size)); have c04 := (hb4.cell (p := ⟨w.heap.size, 0, none⟩) z3).trans c03; have c14 := (hb4.cell (p := ⟨w.heap.size, 1, none⟩) z3).trans c13; have c24 := (hb4.cell (p := ⟨w.heap.size, 2, none⟩) z3).trans c23; clear hb4 c03 c13 c23
  refine hK.out _ _ (⟨c04, c14, c24⟩) (fun hHeld => ?_)
  clear hK K
  try simp only [List.getElem_toArray, List.getElem_cons_zero, List.getElem_cons_succ, Act.put, List.setIfInBounds_toArray, List.set_cons_zero, List.set_cons_succ]
  refine wpAnyH_take (i := 15) (v := ?_) rfl (by kernel_rfl) (by kernel_rfl) (by kernel_rfl) (fun _ _ _ h => h) (Or.inl ⟨by rfl, ?_⟩) (by assumption) ?_
  rotate_left 1
  · (intro wS hSw; (try dsimp only at hSw); go_simp; try with_reducible rfl)
  try simp only [List.getElem_toArray, List.getElem_cons_zero, List.getElem_cons_succ, Act.put, List.setIfInBounds_toArray, List.set_cons_zero, List.set_cons_succ]
  refine wpAnyH_take (i := 16) (v := ?_) rfl (by kernel_rfl) (by kernel_rfl) (by kernel_rfl) (fun _ _ _ h => h) (Or.inl ⟨by rfl, ?_⟩) (by assumption) ?_
  rotate_left 1
  · (intro wS hSw; (try dsimp only at hSw); go_simp; try with_reducible rfl)
  try simp only [List.getElem_toArray, List.getElem_cons_zero, List.getElem_cons_succ, Act.put, List.setIfInBounds_toArray, List.set_cons_zero, List.set_cons_succ]
  refine wpAnyH_take (i := 17) (v := ?_) rfl (by kernel_rfl) (by kernel_rfl) (by kernel_rfl) (fun _ _ _ h => h) (Or.inl ⟨by rfl, ?_⟩) (by assumption) ?_
  rotate_left 1
  · (intro wS hSw; (try dsimp only at hSw); go_simp; try with_reducible rfl)
  try simp only [List.getElem_toArray, List.getElem_cons_zero, List.getElem_cons_succ, Act.put, List.setIfInBounds_toArray, List.set_cons_zero, List.set_cons_succ]
  refine wpAnyH_done (by kernel_rfl) ?_ _
  refine NoPanic.normal ?_
  clear e1 e2
  go_wp2_with fail
  refine (HM _).out.mono ?_; rintro e w' ⟨rfl, rfl⟩
  go_wp2_with fail
  all_goals
    go_ret
    refine ⟨ret_str ?_, HB4.out⟩
    simp only [beq_iff_eq, beq_eq_false_iff_ne, ne_eq] at *
    simp [writtenL, dg_two y, dg_mod y (by omega), *]
end Go.Proofs.Ytbibdpoempjcnaa
