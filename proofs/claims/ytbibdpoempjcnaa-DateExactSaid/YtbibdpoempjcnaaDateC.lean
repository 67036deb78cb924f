/- Contracts of date.put and date.Format: for every date. -/
import Derived.Test.YtbibdpoempjcnaaDateB
set_option linter.unusedSimpArgs false
set_option linter.unusedVariables false
namespace Go.Proofs.Ytbibdpoempjcnaa
open Go.RowKit Cal
/-- n digits of a number, the lowest last -/
def dg : Int → Nat → List UInt8
  | _, 0 => []
  | n, k + 1 => dg (n / 10) k ++ [UInt8.ofNat (48 + (n % 10).toNat)]
def PutPost (B : Nat) (w : World) (n : Nat) (xs : List Value) (e : Ending) (w' : World) : Prop := ∃ v', e = .returned v' ∧ w'.ownsRow B 5 1 v' n xs ∧ Below B w w'
theorem infoB : (Try.prog.info? 5).map (fun i => (i.zero, i.size, i.bytes)) = some (some (.int .u8 0), 1, 1) := by kernel_rfl
set_option maxHeartbeats 1000000 in
theorem put_any (k : Nat) : ∀ (n : Int) (v : Value) (l : Nat) (xs : List Value) (B : Nat) (w : World), k ≤ 4 → 0 ≤ n → n ≤ 9999 → l ≤ 8 → B ≤ w.heap.size → w.ownsRow B 5 1 v l xs →
    Calls Try.prog 36 #[v, .int .i64 n, .int .i64 k] w (PutPost B w (l + k) (xs ++ (dg n k).map byteV)) := by
  induction k with
  | zero =>
    intro n v l xs B w _ _ _ _ _ ho
    have HO := Lib.hid ho; clear ho
    go_enter Try.func36, Try.ntmps36
    go_wp2_with fail
    go_ret
    exact ⟨_, rfl, by simpa [dg] using HO.out, Below.refl _ _⟩
  | succ k ih =>
    intro n v l xs B w hk h0 h1 hl hB ho
    obtain ⟨i0, hi, hz0, hz1, hz2⟩ := info_parts infoB
    have IH := ih (n / 10) v l xs B w (by omega) (by omega) (by omega) hl hB ho
    clear ih ho
    go_enter Try.func36, Try.ntmps36
    go_wp2_with fail
    refine IH.mono ?_
    rintro e w1 ⟨v1, rfl, ho1, hb1⟩
    have hB1 : B ≤ w1.heap.size := Nat.le_trans hB hb1.size
    have h10 : 0 ≤ n % 10 ∧ n % 10 ≤ 9 := by omega
    obtain ⟨h10a, h10b⟩ := h10
    go_wp2_with (at_builtin; refine wpList_append_new rfl _ _ 56 rfl B 5 1 1 (.int .u8 0) Try.underlying56 infoB rfl (by decide) (by decide) _ _ _ rfl ho1 #[.int .u8 (48 + n % 10)] 1 rfl rfl (by simp [Value.oneCell']) (by omega) hB1 ?_; intro v2 w2 ho2 hw2)
    go_ret
    refine ⟨_, rfl, ?_, hw2 _ hb1⟩
    have e1 : (UInt8.ofNat (48 + (n % 10).toNat)).toNat = 48 + (n % 10).toNat := by rw [UInt8.toNat_ofNat']; omega
    have e2 : byteV (UInt8.ofNat (48 + (n % 10).toNat)) = .int .u8 (48 + n % 10) := by unfold byteV; rw [e1]; congr 1; omega
    rw [show l + (k + 1) = l + k + 1 by omega]
    simp only [dg, List.map_append, List.map_cons, List.map_nil, e2]
    rw [← List.append_assoc]
    exact ho2

theorem put_lit (k : Nat) (n : Int) (v : Value) (l : Nat) (xs : List Value) (B : Nat) (w : World) (hk : k ≤ 4) (h0 : 0 ≤ n) (h1 : n ≤ 9999) (hl : l ≤ 8) (hB : B ≤ w.heap.size) (ho : w.ownsRow B 5 1 v l xs) (K : Int) (hK : K = k) :
    Calls Try.prog 36 #[v, .int .i64 n, .int .i64 K] w (PutPost B w (l + k) (xs ++ (dg n k).map byteV)) := by
  subst hK; exact put_any k n v l xs B w hk h0 h1 hl hB ho
/-- the eight digits of a date -/
def digits8 (y m d : Int) : List UInt8 := dg y 4 ++ dg m 2 ++ dg d 2
set_option maxHeartbeats 1000000 in
theorem format_yes (y m d : Int) (w : World) (hv : vldB y m d = true) :
    Calls Try.prog 14 #[.agg #[.int .i64 y, .int .i64 m, .int .i64 d]] w fun e w' => e = .returned (.tuple #[.string ⟨(digits8 y m d).toArray⟩, .int .i64 0]) ∧ Below w.heap.size w w' := by
  have hbd := vld_bd hv
  obtain ⟨b1, b2, b3, b4, b5, b6⟩ := hbd
  go_enter Try.func14, Try.ntmps14
  go_wp2_with fail
  refine (valid_yes _ _ _ _ hv).mono ?_
  rintro e w1 ⟨rfl, hb1⟩
  have c0 : w1.cell? ⟨w.heap.size, 0, none⟩ = some (.int .i64 y) := (hb1.cell (by simp)).trans (by simp)
  have c1 : w1.cell? ⟨w.heap.size, 1, none⟩ = some (.int .i64 m) := (hb1.cell (by simp)).trans (by simp)
  have c2 : w1.cell? ⟨w.heap.size, 2, none⟩ = some (.int .i64 d) := (hb1.cell (by simp)).trans (by simp)
  have hz1 : w.heap.size + 1 ≤ w1.heap.size := by have := hb1.size; simpa using this
  go_wp2_with fail
  clear hv
  refine wp_region_noPanic ?_
  refine wp_region_held_drew (S := (fun w' => w'.cell? ⟨w.heap.size, 0, none⟩ = some (.int .i64 y) ∧ w'.cell? ⟨w.heap.size, 1, none⟩ = some (.int .i64 m) ∧ w'.cell? ⟨w.heap.size, 2, none⟩ = some (.int .i64 d))) (by kernel_rfl) (⟨c0, c1, c2⟩) (fun hHeld => ?_)
  refine wpAnyH_take (i := 0) (v := ?_) rfl (by kernel_rfl) (by kernel_rfl) (by kernel_rfl) (fun _ _ _ h => h) (Or.inl ⟨by rfl, ?_⟩) (by assumption) ?_
  rotate_left 1
  · (intro wS hSw; (try dsimp only at hSw); go_simp; try with_reducible rfl)
  try simp only [List.getElem_toArray, List.getElem_cons_zero, List.getElem_cons_succ, Act.put, List.setIfInBounds_toArray, List.set_cons_zero, List.set_cons_succ]
  refine wpAnyH_take (i := 1) (v := ?_) rfl (by kernel_rfl) (by kernel_rfl) (by kernel_rfl) (fun _ _ _ h => h) (Or.inl ⟨by rfl, ?_⟩) (by assumption) ?_
  rotate_left 1
  · (intro wS hSw; (try dsimp only at hSw); go_simp; try with_reducible rfl)
  try simp only [List.getElem_toArray, List.getElem_cons_zero, List.getElem_cons_succ, Act.put, List.setIfInBounds_toArray, List.set_cons_zero, List.set_cons_succ]
  refine wpAnyH_take (i := 3) (v := ?_) rfl (by kernel_rfl) (by kernel_rfl) (by kernel_rfl) (fun _ _ _ h => h) (Or.inl ⟨by rfl, ?_⟩) (by assumption) ?_
  rotate_left 1
  · (intro wS hSw; (try dsimp only at hSw); go_simp; try with_reducible rfl)
  try simp only [List.getElem_toArray, List.getElem_cons_zero, List.getElem_cons_succ, Act.put, List.setIfInBounds_toArray, List.set_cons_zero, List.set_cons_succ]
  refine wpAnyH_take (i := 4) (v := ?_) rfl (by kernel_rfl) (by kernel_rfl) (by kernel_rfl) (fun _ _ _ h => h) (Or.inl ⟨by rfl, ?_⟩) (by assumption) ?_
  rotate_left 1
  · (intro wS hSw; (try dsimp only at hSw); go_simp; try with_reducible rfl)
  try simp only [List.getElem_toArray, List.getElem_cons_zero, List.getElem_cons_succ, Act.put, List.setIfInBounds_toArray, List.set_cons_zero, List.set_cons_succ]
  refine wpAnyH_take (i := 6) (v := ?_) rfl (by kernel_rfl) (by kernel_rfl) (by kernel_rfl) (fun _ _ _ h => h) (Or.inl ⟨by rfl, ?_⟩) (by assumption) ?_
  rotate_left 1
  · (intro wS hSw; (try dsimp only at hSw); go_simp; try with_reducible rfl)
  try simp only [List.getElem_toArray, List.getElem_cons_zero, List.getElem_cons_succ, Act.put, List.setIfInBounds_toArray, List.set_cons_zero, List.set_cons_succ]
  refine wpAnyH_take (i := 7) (v := ?_) rfl (by kernel_rfl) (by kernel_rfl) (by kernel_rfl) (fun _ _ _ h => h) (Or.inl ⟨by rfl, ?_⟩) (by assumption) ?_
  rotate_left 1
  · (intro wS hSw; (try dsimp only at hSw); go_simp; try with_reducible rfl)
  try simp only [List.getElem_toArray, List.getElem_cons_zero, List.getElem_cons_succ, Act.put, List.setIfInBounds_toArray, List.set_cons_zero, List.set_cons_succ]
  refine wpAnyH_ready (rs := [2]) (by kernel_rfl) (by simp) ?_
  refine AllReadyH.cons rfl (fun K hK => ?_) AllReadyH.nil
  go_simp
  refine (put_lit 4 y _ _ _ (w.heap.size + 1) _ (by omega) (by omega) (by omega) (by omega) (by simpa using hz1) (World.ownsRow_nil _ _ _ _) _ rfl).mono ?_; rintro e w2 ⟨v2, rfl, ho2, hb2⟩; have hz2 : w.heap.size + 1 ≤ w2.heap.size := (by have := hb2.size; simp at this; omega); have c01 := (hb2.cell (p := ⟨w.heap.size, 0, none⟩) (by simp)).trans c0; have c11 := (hb2.cell (p := ⟨w.heap.size, 1, none⟩) (by simp)).trans c1; have c21 := (hb2.cell (p := ⟨w.heap.size, 2, none⟩) (by simp)).trans c2
  refine hK.out _ _ (⟨c01, c11, c21⟩) (fun hHeld => ?_)
  clear hK K
  try simp only [List.getElem_toArray, List.getElem_cons_zero, List.getElem_cons_succ, Act.put, List.setIfInBounds_toArray, List.set_cons_zero, List.set_cons_succ]
  refine wpAnyH_ready (rs := [5]) (by kernel_rfl) (by simp) ?_
  refine AllReadyH.cons rfl (fun K hK => ?_) AllReadyH.nil
  go_simp
  refine (put_lit 2 m _ _ _ _ _ (by omega) (by omega) (by omega) (by omega) hz2 ho2 _ rfl).mono ?_; rintro e w3 ⟨v3, rfl, ho3, hb3⟩; have hz3 : w.heap.size + 1 ≤ w3.heap.size := (by have := hb3.size; omega); have c02 := (hb3.cell (p := ⟨w.heap.size, 0, none⟩) (by simp)).trans c01; have c12 := (hb3.cell (p := ⟨w.heap.size, 1, none⟩) (by simp)).trans c11; have c22 := (hb3.cell (p := ⟨w.heap.size, 2, none⟩) (by simp)).trans c21
  refine hK.out _ _ (⟨c02, c12, c22⟩) (fun hHeld => ?_)
  clear hK K
  try simp only [List.getElem_toArray, List.getElem_cons_zero, List.getElem_cons_succ, Act.put, List.setIfInBounds_toArray, List.set_cons_zero, List.set_cons_succ]
  refine wpAnyH_ready (rs := [8]) (by kernel_rfl) (by simp) ?_
  refine AllReadyH.cons rfl (fun K hK => ?_) AllReadyH.nil
  go_simp
  refine (put_lit 2 d _ _ _ _ _ (by omega) (by omega) (by omega) (by omega) hz3 ho3 _ rfl).mono ?_; rintro e w4 ⟨v4, rfl, ho4, hb4⟩; have hcv := fun dst => run_convert_owned (P := Try.prog) (src := 56) (dst := dst) (digits8 y m d) (by simpa [digits8] using ho4) Try.underlying56 Try.underlying5; have c03 := (hb4.cell (p := ⟨w.heap.size, 0, none⟩) (by simp)).trans c02; have c13 := (hb4.cell (p := ⟨w.heap.size, 1, none⟩) (by simp)).trans c12; have c23 := (hb4.cell (p := ⟨w.heap.size, 2, none⟩) (by simp)).trans c22
  refine hK.out _ _ (⟨c03, c13, c23⟩) (fun hHeld => ?_)
  clear hK K
  try simp only [List.getElem_toArray, List.getElem_cons_zero, List.getElem_cons_succ, Act.put, List.setIfInBounds_toArray, List.set_cons_zero, List.set_cons_succ]
  refine wpAnyH_ready (rs := [9]) (by kernel_rfl) (by simp) ?_
  refine AllReadyH.cons rfl (fun K hK => ?_) AllReadyH.nil
  go_simp
  refine hK.out _ _ (⟨c03, c13, c23⟩) (fun hHeld => ?_)
  clear hK K
  try simp only [List.getElem_toArray, List.getElem_cons_zero, List.getElem_cons_succ, Act.put, List.setIfInBounds_toArray, List.set_cons_zero, List.set_cons_succ]
  refine wpAnyH_take (i := 10) (v := ?_) rfl (by kernel_rfl) (by kernel_rfl) (by kernel_rfl) (fun _ _ _ h => h) (Or.inl ⟨by rfl, ?_⟩) (by assumption) ?_
  rotate_left 1
  · (intro wS hSw; (try dsimp only at hSw); go_simp; try with_reducible rfl)
  try simp only [List.getElem_toArray, List.getElem_cons_zero, List.getElem_cons_succ, Act.put, List.setIfInBounds_toArray, List.set_cons_zero, List.set_cons_succ]
  refine wpAnyH_take (i := 11) (v := ?_) rfl (by kernel_rfl) (by kernel_rfl) (by kernel_rfl) (fun _ _ _ h => h) (Or.inl ⟨by rfl, ?_⟩) (by assumption) ?_
  rotate_left 1
  · (intro wS hSw; (try dsimp only at hSw); go_simp; try with_reducible rfl)
  try simp only [List.getElem_toArray, List.getElem_cons_zero, List.getElem_cons_succ, Act.put, List.setIfInBounds_toArray, List.set_cons_zero, List.set_cons_succ]
  refine wpAnyH_done (by kernel_rfl) ?_ _
  refine NoPanic.normal ?_
  go_wp2
  go_ret2
  refine ⟨rfl, ?_⟩
  exact (((((Below.refl _ _).alloc (Nat.le_refl _) _).trans (hb1.mono (by simp))).drew.trans (hb2.mono (by simp))).trans (hb3.mono (by simp))).trans (hb4.mono (by simp))

set_option maxHeartbeats 400000 in
theorem format_no (y m d : Int) (w : World) (hv : vldB y m d = false) :
    Calls Try.prog 14 #[.agg #[.int .i64 y, .int .i64 m, .int .i64 d]] w fun e w' => e = .returned (.tuple #[.string ⟨#[]⟩, .int .i64 4]) ∧ Below w.heap.size w w' := by
  go_enter Try.func14, Try.ntmps14
  go_wp2_with fail
  refine (valid_no _ _ _ _ hv).mono ?_
  rintro e w1 ⟨rfl, hb1⟩
  go_wp2_with fail
  go_ret2
  exact ⟨rfl, ((Below.refl _ _).alloc (Nat.le_refl _) _).trans (hb1.mono (by simp))⟩
def fmtL (y m d : Int) : List UInt8 := bif vldB y m d then digits8 y m d else []
theorem format_any (y m d : Int) (w : World) :
    Calls Try.prog 14 #[.agg #[.int .i64 y, .int .i64 m, .int .i64 d]] w fun e w' => e = .returned (.tuple #[.string ⟨(fmtL y m d).toArray⟩, .int .i64 (cd (vldB y m d) 4)]) ∧ Below w.heap.size w w' := by
  unfold fmtL
  cases hv : vldB y m d with
  | true => exact format_yes y m d w hv
  | false => exact format_no y m d w hv
end Go.Proofs.Ytbibdpoempjcnaa
