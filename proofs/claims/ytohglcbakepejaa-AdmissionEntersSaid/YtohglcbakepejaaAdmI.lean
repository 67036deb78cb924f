/- the laws' sanity check. -/
import Derived.Test.YtohglcbakepejaaAdmG
set_option linter.unusedSimpArgs false
set_option linter.unusedVariables false
namespace Go.Proofs.Ytohglcbakepejaa
open Go.RowKit
theorem calls_world {P : Program} {f : Nat} {args : Array Value} {w : World} {Q : Ending → World → Prop} (h : ∀ wS, wS = w → Calls P f args wS Q) : Calls P f args w Q := h w rfl
def wA : Ex := ⟨0, 3, 1, 2, 400⟩
def wB : Ex := ⟨0, 3, 2, 2, 400⟩
theorem one_row {w : World} {b : Nat} {x : Ex} (h : w.heap[b]? = some (.cells x.cells.toArray 35 (0, 0))) : ExRow w (All w) (.slice (some ⟨b, 0, none⟩) 1 1) [x] :=
  ⟨_, _, rfl, rfl, fun _ => ⟨b, 0, rfl, lt_of_blk h, fun j hj => by rw [cell_of_row _ _ _ _ _ _ h]; simp [exFlat]⟩⟩
set_option maxHeartbeats 4000000 in
theorem awake_any (w : World) :
    Calls Try.prog 5 #[] w fun e w' => e = .returned (.bool true) ∧ Below w.heap.size w w' := by
  go_enter Try.func5, Try.ntmps5
  go_wp2_with fail
  refine calls_world (fun w0 h0 => ?_)
  have A0 : w0.heap[w.heap.size]? = some (.cells wA.cells.toArray 35 (0, 0)) := by rw [h0]; exact blk_old (blk_new rfl)
  have B0 : w0.heap[w.heap.size + 1]? = some (.cells wB.cells.toArray 35 (0, 0)) := by rw [h0]; exact blk_new (by simp)
  have HB0 := Lib.hid (show Below w.heap.size w w0 by rw [h0]; exact ((Below.refl _ _).alloc (Nat.le_refl _) _).alloc (by simp) _)
  clear h0
  have HA0 := Lib.hid (one_row A0)
  have HBB0 := Lib.hid (one_row B0)
  refine (enter_good _ _ [wA] [wB] _ HA0.out HBB0.out (by decide) (by decide) (by decide)).mono ?_; rintro e w1 ⟨⟨v, rfl, hv⟩, hb⟩
  obtain ⟨va, vc, rfl⟩ : ∃ va vc, v = .slice va 1 vc := hv.val
  obtain ⟨bv, ov, rfl, zv, v0, v1, v2, v3, v4⟩ := hv.get 0 (by decide)
  simp only [Nat.zero_mul, Nat.add_zero] at v0 v1 v2 v3 v4
  change _ = some (Value.int .i64 0) at v0
  change _ = some (Value.int .i64 3) at v1
  change _ = some (Value.int .i64 2) at v2
  change _ = some (Value.int .i64 2) at v3
  change _ = some (Value.int .i64 400) at v4
  have B1 := blk_below (b := w.heap.size + 1) hb (lt_of_blk B0) B0
  have zp := lt_of_blk B1
  have p0 : w1.cell? ⟨w.heap.size + 1, 0, none⟩ = some (.int .i64 0) := (cell_of_row _ _ _ _ _ _ B1).trans rfl
  have p1 : w1.cell? ⟨w.heap.size + 1, 1, none⟩ = some (.int .i64 3) := (cell_of_row _ _ _ _ _ _ B1).trans rfl
  have p2 : w1.cell? ⟨w.heap.size + 1, 2, none⟩ = some (.int .i64 2) := (cell_of_row _ _ _ _ _ _ B1).trans rfl
  have p3 : w1.cell? ⟨w.heap.size + 1, 3, none⟩ = some (.int .i64 2) := (cell_of_row _ _ _ _ _ _ B1).trans rfl
  have p4 : w1.cell? ⟨w.heap.size + 1, 4, none⟩ = some (.int .i64 400) := (cell_of_row _ _ _ _ _ _ B1).trans rfl
  have HAx := Lib.hid (HA0.out.below hb)
  have HBBx := Lib.hid (HBB0.out.below hb)
  have Hx := Lib.hid (HB0.out.trans (hb.mono HB0.out.size))
  clear hv hb A0 B0 B1 HA0 HBB0 HB0
  go_wp2_with fail
  have hx := Lib.hid (show ExRow w1.drew (All w1.drew) _ [wA] from HAx.out); clear HAx; have HAx := hx; clear hx
  have hx := Lib.hid (show ExRow w1.drew (All w1.drew) _ [wB] from HBBx.out); clear HBBx; have HBBx := hx; clear hx
  have hx := Lib.hid (Hx.out.drew); clear Hx; have Hx := hx; clear hx
  refine wp_region_noPanic ?_
  refine wp_region_held_drew (S := (fun w' => w'.cell? ⟨bv, ov, none⟩ = some (.int .i64 0) ∧ w'.cell? ⟨bv, ov + 1, none⟩ = some (.int .i64 3) ∧ w'.cell? ⟨bv, ov + 2, none⟩ = some (.int .i64 2) ∧ w'.cell? ⟨bv, ov + 3, none⟩ = some (.int .i64 2) ∧ w'.cell? ⟨bv, ov + 4, none⟩ = some (.int .i64 400) ∧ w'.cell? ⟨w.heap.size + 1, 0, none⟩ = some (.int .i64 0) ∧ w'.cell? ⟨w.heap.size + 1, 1, none⟩ = some (.int .i64 3) ∧ w'.cell? ⟨w.heap.size + 1, 2, none⟩ = some (.int .i64 2) ∧ w'.cell? ⟨w.heap.size + 1, 3, none⟩ = some (.int .i64 2) ∧ w'.cell? ⟨w.heap.size + 1, 4, none⟩ = some (.int .i64 400))) (by kernel_rfl) (⟨v0, v1, v2, v3, v4, p0, p1, p2, p3, p4⟩) (fun hHeld => ?_)
  refine wpAnyH_take (i := 0) (v := ?_) rfl (by kernel_rfl) (by kernel_rfl) (by kernel_rfl) (fun _ _ _ h => h) (Or.inl ⟨by rfl, ?_⟩) (by assumption) ?_
  rotate_left 1
  · (intro wS hSw; (try dsimp only at hSw); go_simp; try with_reducible rfl)
  try simp only [List.getElem_toArray, List.getElem_cons_zero, List.getElem_cons_succ, Act.put, List.setIfInBounds_toArray, List.set_cons_zero, List.set_cons_succ]
  refine wpAnyH_take (i := 1) (v := ?_) rfl (by kernel_rfl) (by kernel_rfl) (by kernel_rfl) (fun _ _ _ h => h) (Or.inl ⟨by rfl, ?_⟩) (by assumption) ?_
  rotate_left 1
  · (intro wS hSw; (try dsimp only at hSw); go_simp; try with_reducible rfl)
  try simp only [List.getElem_toArray, List.getElem_cons_zero, List.getElem_cons_succ, Act.put, List.setIfInBounds_toArray, List.set_cons_zero, List.set_cons_succ]
  refine wpAnyH_ready (rs := [2]) (by kernel_rfl) (by simp) ?_
  refine AllReadyH.cons rfl (fun K hK => ?_) AllReadyH.nil
  go_simp
  refine ((show _ from admit_any _ _ [wA] [wA] _ HAx.out HAx.out (by decide) (by decide))).mono ?_; rintro e wa ⟨he, hwa⟩; rw [show admitE [wA] [wA] = 0 from by decide] at he; subst he; have v0a := (hwa.cell (p := ⟨bv, ov, none⟩) zv).trans v0; have v1a := (hwa.cell (p := ⟨bv, ov + 1, none⟩) zv).trans v1; have v2a := (hwa.cell (p := ⟨bv, ov + 2, none⟩) zv).trans v2; have v3a := (hwa.cell (p := ⟨bv, ov + 3, none⟩) zv).trans v3; have v4a := (hwa.cell (p := ⟨bv, ov + 4, none⟩) zv).trans v4; have p0a := (hwa.cell (p := ⟨w.heap.size + 1, 0, none⟩) zp).trans p0; have p1a := (hwa.cell (p := ⟨w.heap.size + 1, 1, none⟩) zp).trans p1; have p2a := (hwa.cell (p := ⟨w.heap.size + 1, 2, none⟩) zp).trans p2; have p3a := (hwa.cell (p := ⟨w.heap.size + 1, 3, none⟩) zp).trans p3; have p4a := (hwa.cell (p := ⟨w.heap.size + 1, 4, none⟩) zp).trans p4; have HAwa := Lib.hid (HAx.out.below hwa); have HBBwa := Lib.hid (HBBx.out.below hwa); have Hwa := Lib.hid (Hx.out.trans (hwa.mono Hx.out.size)); have zv1 := Nat.lt_of_lt_of_le zv hwa.size; have zp1 := Nat.lt_of_lt_of_le zp hwa.size; clear hwa
  refine hK.out _ _ (⟨v0a, v1a, v2a, v3a, v4a, p0a, p1a, p2a, p3a, p4a⟩) (fun hHeld => ?_)
  clear hK K
  try simp only [List.getElem_toArray, List.getElem_cons_zero, List.getElem_cons_succ, Act.put, List.setIfInBounds_toArray, List.set_cons_zero, List.set_cons_succ]
  refine wpAnyH_take (i := 3) (v := ?_) rfl (by kernel_rfl) (by kernel_rfl) (by kernel_rfl) (fun _ _ _ h => h) (Or.inl ⟨by rfl, ?_⟩) (by assumption) ?_
  rotate_left 1
  · (intro wS hSw; (try dsimp only at hSw); go_simp; try with_reducible rfl)
  try simp only [List.getElem_toArray, List.getElem_cons_zero, List.getElem_cons_succ, Act.put, List.setIfInBounds_toArray, List.set_cons_zero, List.set_cons_succ]
  refine wpAnyH_take (i := 4) (v := ?_) rfl (by kernel_rfl) (by kernel_rfl) (by kernel_rfl) (fun _ _ _ h => h) (Or.inl ⟨by rfl, ?_⟩) (by assumption) ?_
  rotate_left 1
  · (intro wS hSw; (try dsimp only at hSw); go_simp; try with_reducible rfl)
  try simp only [List.getElem_toArray, List.getElem_cons_zero, List.getElem_cons_succ, Act.put, List.setIfInBounds_toArray, List.set_cons_zero, List.set_cons_succ]
  refine wpAnyH_take (i := 5) (v := ?_) rfl (by kernel_rfl) (by kernel_rfl) (by kernel_rfl) (fun _ _ _ h => h) (Or.inl ⟨by rfl, ?_⟩) (by assumption) ?_
  rotate_left 1
  · (intro wS hSw; (try dsimp only at hSw); go_simp; try with_reducible rfl)
  try simp only [List.getElem_toArray, List.getElem_cons_zero, List.getElem_cons_succ, Act.put, List.setIfInBounds_toArray, List.set_cons_zero, List.set_cons_succ]
  refine wpAnyH_take (i := 6) (v := ?_) rfl (by kernel_rfl) (by kernel_rfl) (by kernel_rfl) (fun _ _ _ h => h) (Or.inl ⟨by rfl, ?_⟩) (by assumption) ?_
  rotate_left 1
  · (intro wS hSw; (try dsimp only at hSw); go_simp; try with_reducible rfl)
  try simp only [List.getElem_toArray, List.getElem_cons_zero, List.getElem_cons_succ, Act.put, List.setIfInBounds_toArray, List.set_cons_zero, List.set_cons_succ]
  refine wpAnyH_ready (rs := [7]) (by kernel_rfl) (by simp) ?_
  refine AllReadyH.cons rfl (fun K hK => ?_) AllReadyH.nil
  go_simp
  refine (admit_any _ _ [wA] [wB] _ HAwa.out HBBwa.out (by decide) (by decide)).mono ?_; rintro e wb ⟨he, hwb⟩; rw [show admitE [wA] [wB] = 11 from by decide] at he; subst he; have v0b := (hwb.cell (p := ⟨bv, ov, none⟩) zv1).trans v0a; have v1b := (hwb.cell (p := ⟨bv, ov + 1, none⟩) zv1).trans v1a; have v2b := (hwb.cell (p := ⟨bv, ov + 2, none⟩) zv1).trans v2a; have v3b := (hwb.cell (p := ⟨bv, ov + 3, none⟩) zv1).trans v3a; have v4b := (hwb.cell (p := ⟨bv, ov + 4, none⟩) zv1).trans v4a; have p0b := (hwb.cell (p := ⟨w.heap.size + 1, 0, none⟩) zp1).trans p0a; have p1b := (hwb.cell (p := ⟨w.heap.size + 1, 1, none⟩) zp1).trans p1a; have p2b := (hwb.cell (p := ⟨w.heap.size + 1, 2, none⟩) zp1).trans p2a; have p3b := (hwb.cell (p := ⟨w.heap.size + 1, 3, none⟩) zp1).trans p3a; have p4b := (hwb.cell (p := ⟨w.heap.size + 1, 4, none⟩) zp1).trans p4a; have HAwb := Lib.hid (HAwa.out.below hwb); have HBBwb := Lib.hid (HBBwa.out.below hwb); have Hwb := Lib.hid (Hwa.out.trans (hwb.mono Hwa.out.size)); have zv2 := Nat.lt_of_lt_of_le zv1 hwb.size; have zp2 := Nat.lt_of_lt_of_le zp1 hwb.size; clear hwb
  refine hK.out _ _ (⟨v0b, v1b, v2b, v3b, v4b, p0b, p1b, p2b, p3b, p4b⟩) (fun hHeld => ?_)
  clear hK K
  try simp only [List.getElem_toArray, List.getElem_cons_zero, List.getElem_cons_succ, Act.put, List.setIfInBounds_toArray, List.set_cons_zero, List.set_cons_succ]
  refine wpAnyH_take (i := 8) (v := ?_) rfl (by kernel_rfl) (by kernel_rfl) (by kernel_rfl) (fun _ _ _ h => h) (Or.inl ⟨by rfl, ?_⟩) (by assumption) ?_
  rotate_left 1
  · (intro wS hSw; (try dsimp only at hSw); go_simp; try with_reducible rfl)
  try simp only [List.getElem_toArray, List.getElem_cons_zero, List.getElem_cons_succ, Act.put, List.setIfInBounds_toArray, List.set_cons_zero, List.set_cons_succ]
  refine wpAnyH_take (i := 9) (v := ?_) rfl (by kernel_rfl) (by kernel_rfl) (by kernel_rfl) (fun _ _ _ h => h) (Or.inl ⟨by rfl, ?_⟩) (by assumption) ?_
  rotate_left 1
  · (intro wS hSw; (try dsimp only at hSw); go_simp; try with_reducible rfl)
  try simp only [List.getElem_toArray, List.getElem_cons_zero, List.getElem_cons_succ, Act.put, List.setIfInBounds_toArray, List.set_cons_zero, List.set_cons_succ]
  refine wpAnyH_take (i := 10) (v := ?_) rfl (by kernel_rfl) (by kernel_rfl) (by kernel_rfl) (fun _ _ _ h => h) (Or.inl ⟨by rfl, ?_⟩) (by assumption) ?_
  rotate_left 1
  · (intro wS hSw; (try dsimp only at hSw); go_simp; try with_reducible rfl)
  try simp only [List.getElem_toArray, List.getElem_cons_zero, List.getElem_cons_succ, Act.put, List.setIfInBounds_toArray, List.set_cons_zero, List.set_cons_succ]
  refine wpAnyH_take (i := 11) (v := ?_) rfl (by kernel_rfl) (by kernel_rfl) (by kernel_rfl) (fun _ _ _ h => h) (Or.inl ⟨by rfl, ?_⟩) (by assumption) ?_
  rotate_left 1
  · (intro wS hSw; (try dsimp only at hSw); go_simp; try with_reducible rfl)
  try simp only [List.getElem_toArray, List.getElem_cons_zero, List.getElem_cons_succ, Act.put, List.setIfInBounds_toArray, List.set_cons_zero, List.set_cons_succ]
  refine wpAnyH_take (i := 12) (v := ?_) rfl (by kernel_rfl) (by kernel_rfl) (by kernel_rfl) (fun _ _ _ h => h) (Or.inl ⟨by rfl, ?_⟩) (by assumption) ?_
  rotate_left 1
  · (intro wS hSw; (try dsimp only at hSw); go_simp; try with_reducible rfl)
  try simp only [List.getElem_toArray, List.getElem_cons_zero, List.getElem_cons_succ, Act.put, List.setIfInBounds_toArray, List.set_cons_zero, List.set_cons_succ]
  refine wpAnyH_take (i := 13) (v := ?_) rfl (by kernel_rfl) (by kernel_rfl) (by kernel_rfl) (fun _ _ _ h => h) (Or.inl ⟨by rfl, ?_⟩) (by assumption) ?_
  rotate_left 1
  · (intro wS hSw; (try dsimp only at hSw); go_simp; try with_reducible rfl)
  try simp only [List.getElem_toArray, List.getElem_cons_zero, List.getElem_cons_succ, Act.put, List.setIfInBounds_toArray, List.set_cons_zero, List.set_cons_succ]
  refine wpAnyH_take (i := 14) (v := ?_) rfl (by kernel_rfl) (by kernel_rfl) (by kernel_rfl) (fun _ _ _ h => h) (Or.inl ⟨by rfl, ?_⟩) (by assumption) ?_
  rotate_left 1
  · (intro wS hSw; (try dsimp only at hSw); go_simp; try with_reducible rfl)
  try simp only [List.getElem_toArray, List.getElem_cons_zero, List.getElem_cons_succ, Act.put, List.setIfInBounds_toArray, List.set_cons_zero, List.set_cons_succ]
  refine wpAnyH_take (i := 15) (v := ?_) rfl (by kernel_rfl) (by kernel_rfl) (by kernel_rfl) (fun _ _ _ h => h) (Or.inl ⟨by rfl, ?_⟩) (by assumption) ?_
  rotate_left 1
  · (intro wS hSw; (try dsimp only at hSw); go_simp; try with_reducible rfl)
  try simp only [List.getElem_toArray, List.getElem_cons_zero, List.getElem_cons_succ, Act.put, List.setIfInBounds_toArray, List.set_cons_zero, List.set_cons_succ]
  refine wpAnyH_take (i := 16) (v := ?_) rfl (by kernel_rfl) (by kernel_rfl) (by kernel_rfl) (fun _ _ _ h => h) (Or.inl ⟨by rfl, ?_⟩) (by assumption) ?_
  rotate_left 1
  · (intro wS hSw; (try dsimp only at hSw); go_simp; try with_reducible rfl)
  try simp only [List.getElem_toArray, List.getElem_cons_zero, List.getElem_cons_succ, Act.put, List.setIfInBounds_toArray, List.set_cons_zero, List.set_cons_succ]
  refine wpAnyH_take (i := 17) (v := ?_) rfl (by kernel_rfl) (by kernel_rfl) (by kernel_rfl) (fun _ _ _ h => h) (Or.inl ⟨by rfl, ?_⟩) (by assumption) ?_
  rotate_left 1
  · (intro wS hSw; (try dsimp only at hSw); go_simp; try with_reducible rfl)
  try simp only [List.getElem_toArray, List.getElem_cons_zero, List.getElem_cons_succ, Act.put, List.setIfInBounds_toArray, List.set_cons_zero, List.set_cons_succ]
  refine wpAnyH_take (i := 18) (v := ?_) rfl (by kernel_rfl) (by kernel_rfl) (by kernel_rfl) (fun _ _ _ h => h) (Or.inl ⟨by rfl, ?_⟩) (by assumption) ?_
  rotate_left 1
  · (intro wS hSw; (try dsimp only at hSw); go_simp; try with_reducible rfl)
  try simp only [List.getElem_toArray, List.getElem_cons_zero, List.getElem_cons_succ, Act.put, List.setIfInBounds_toArray, List.set_cons_zero, List.set_cons_succ]
  refine wpAnyH_take (i := 19) (v := ?_) rfl (by kernel_rfl) (by kernel_rfl) (by kernel_rfl) (fun _ _ _ h => h) (Or.inl ⟨by rfl, ?_⟩) (by assumption) ?_
  rotate_left 1
  · (intro wS hSw; (try dsimp only at hSw); go_simp; try with_reducible rfl)
  try simp only [List.getElem_toArray, List.getElem_cons_zero, List.getElem_cons_succ, Act.put, List.setIfInBounds_toArray, List.set_cons_zero, List.set_cons_succ]
  refine wpAnyH_take (i := 20) (v := ?_) rfl (by kernel_rfl) (by kernel_rfl) (by kernel_rfl) (fun _ _ _ h => h) (Or.inl ⟨by rfl, ?_⟩) (by assumption) ?_
  rotate_left 1
  · (intro wS hSw; (try dsimp only at hSw); go_simp; try with_reducible rfl)
  try simp only [List.getElem_toArray, List.getElem_cons_zero, List.getElem_cons_succ, Act.put, List.setIfInBounds_toArray, List.set_cons_zero, List.set_cons_succ]
  refine wpAnyH_take (i := 21) (v := ?_) rfl (by kernel_rfl) (by kernel_rfl) (by kernel_rfl) (fun _ _ _ h => h) (Or.inl ⟨by rfl, ?_⟩) (by assumption) ?_
  rotate_left 1
  · (intro wS hSw; (try dsimp only at hSw); go_simp; try with_reducible rfl)
  try simp only [List.getElem_toArray, List.getElem_cons_zero, List.getElem_cons_succ, Act.put, List.setIfInBounds_toArray, List.set_cons_zero, List.set_cons_succ]
  refine wpAnyH_take (i := 22) (v := ?_) rfl (by kernel_rfl) (by kernel_rfl) (by kernel_rfl) (fun _ _ _ h => h) (Or.inl ⟨by rfl, ?_⟩) (by assumption) ?_
  rotate_left 1
  · (intro wS hSw; (try dsimp only at hSw); go_simp; try with_reducible rfl)
  try simp only [List.getElem_toArray, List.getElem_cons_zero, List.getElem_cons_succ, Act.put, List.setIfInBounds_toArray, List.set_cons_zero, List.set_cons_succ]
  refine wpAnyH_take (i := 23) (v := ?_) rfl (by kernel_rfl) (by kernel_rfl) (by kernel_rfl) (fun _ _ _ h => h) (Or.inl ⟨by rfl, ?_⟩) (by assumption) ?_
  rotate_left 1
  · (intro wS hSw; (try dsimp only at hSw); go_simp; try with_reducible rfl)
  try simp only [List.getElem_toArray, List.getElem_cons_zero, List.getElem_cons_succ, Act.put, List.setIfInBounds_toArray, List.set_cons_zero, List.set_cons_succ]
  refine wpAnyH_take (i := 24) (v := ?_) rfl (by kernel_rfl) (by kernel_rfl) (by kernel_rfl) (fun _ _ _ h => h) (Or.inl ⟨by rfl, ?_⟩) (by assumption) ?_
  rotate_left 1
  · (intro wS hSw; (try dsimp only at hSw); go_simp; try with_reducible rfl)
  try simp only [List.getElem_toArray, List.getElem_cons_zero, List.getElem_cons_succ, Act.put, List.setIfInBounds_toArray, List.set_cons_zero, List.set_cons_succ]
  refine wpAnyH_take (i := 25) (v := ?_) rfl (by kernel_rfl) (by kernel_rfl) (by kernel_rfl) (fun _ _ _ h => h) (Or.inl ⟨by rfl, ?_⟩) (by assumption) ?_
  rotate_left 1
  · (intro wS hSw; (try dsimp only at hSw); go_simp; try with_reducible rfl)
  try simp only [List.getElem_toArray, List.getElem_cons_zero, List.getElem_cons_succ, Act.put, List.setIfInBounds_toArray, List.set_cons_zero, List.set_cons_succ]
  refine wpAnyH_take (i := 26) (v := ?_) rfl (by kernel_rfl) (by kernel_rfl) (by kernel_rfl) (fun _ _ _ h => h) (Or.inl ⟨by rfl, ?_⟩) (by assumption) ?_
  rotate_left 1
  · (intro wS hSw; (try dsimp only at hSw); go_simp; try with_reducible rfl)
  try simp only [List.getElem_toArray, List.getElem_cons_zero, List.getElem_cons_succ, Act.put, List.setIfInBounds_toArray, List.set_cons_zero, List.set_cons_succ]
  refine wpAnyH_take (i := 27) (v := ?_) rfl (by kernel_rfl) (by kernel_rfl) (by kernel_rfl) (fun _ _ _ h => h) (Or.inl ⟨by rfl, ?_⟩) (by assumption) ?_
  rotate_left 1
  · (intro wS hSw; (try dsimp only at hSw); go_simp; try with_reducible rfl)
  try simp only [List.getElem_toArray, List.getElem_cons_zero, List.getElem_cons_succ, Act.put, List.setIfInBounds_toArray, List.set_cons_zero, List.set_cons_succ]
  refine wpAnyH_take (i := 28) (v := ?_) rfl (by kernel_rfl) (by kernel_rfl) (by kernel_rfl) (fun _ _ _ h => h) (Or.inl ⟨by rfl, ?_⟩) (by assumption) ?_
  rotate_left 1
  · (intro wS hSw; (try dsimp only at hSw); go_simp; try with_reducible rfl)
  try simp only [List.getElem_toArray, List.getElem_cons_zero, List.getElem_cons_succ, Act.put, List.setIfInBounds_toArray, List.set_cons_zero, List.set_cons_succ]
  refine wpAnyH_take (i := 29) (v := ?_) rfl (by kernel_rfl) (by kernel_rfl) (by kernel_rfl) (fun _ _ _ h => h) (Or.inl ⟨by rfl, ?_⟩) (by assumption) ?_
  rotate_left 1
  · (intro wS hSw; (try dsimp only at hSw); go_simp; try with_reducible rfl)
  try simp only [List.getElem_toArray, List.getElem_cons_zero, List.getElem_cons_succ, Act.put, List.setIfInBounds_toArray, List.set_cons_zero, List.set_cons_succ]
  refine wpAnyH_ready (rs := [30]) (by kernel_rfl) (by simp) ?_
  refine AllReadyH.cons rfl (fun K hK => ?_) AllReadyH.nil
  go_simp
  refine (checkE_any _ _ _ [wA] _ HAwb.out (by decide)).mono ?_; rintro e wc ⟨he, hwc⟩; rw [show chkE [wA] = 0 from by decide] at he; subst he; have v0c := (hwc.cell (p := ⟨bv, ov, none⟩) zv2).trans v0b; have v1c := (hwc.cell (p := ⟨bv, ov + 1, none⟩) zv2).trans v1b; have v2c := (hwc.cell (p := ⟨bv, ov + 2, none⟩) zv2).trans v2b; have v3c := (hwc.cell (p := ⟨bv, ov + 3, none⟩) zv2).trans v3b; have v4c := (hwc.cell (p := ⟨bv, ov + 4, none⟩) zv2).trans v4b; have p0c := (hwc.cell (p := ⟨w.heap.size + 1, 0, none⟩) zp2).trans p0b; have p1c := (hwc.cell (p := ⟨w.heap.size + 1, 1, none⟩) zp2).trans p1b; have p2c := (hwc.cell (p := ⟨w.heap.size + 1, 2, none⟩) zp2).trans p2b; have p3c := (hwc.cell (p := ⟨w.heap.size + 1, 3, none⟩) zp2).trans p3b; have p4c := (hwc.cell (p := ⟨w.heap.size + 1, 4, none⟩) zp2).trans p4b; have HAwc := Lib.hid (HAwb.out.below hwc); have HBBwc := Lib.hid (HBBwb.out.below hwc); have Hwc := Lib.hid (Hwb.out.trans (hwc.mono Hwb.out.size)); have zv3 := Nat.lt_of_lt_of_le zv2 hwc.size; have zp3 := Nat.lt_of_lt_of_le zp2 hwc.size; clear hwc
  refine hK.out _ _ (⟨v0c, v1c, v2c, v3c, v4c, p0c, p1c, p2c, p3c, p4c⟩) (fun hHeld => ?_)
  clear hK K
  try simp only [List.getElem_toArray, List.getElem_cons_zero, List.getElem_cons_succ, Act.put, List.setIfInBounds_toArray, List.set_cons_zero, List.set_cons_succ]
  refine wpAnyH_take (i := 31) (v := ?_) rfl (by kernel_rfl) (by kernel_rfl) (by kernel_rfl) (fun _ _ _ h => h) (Or.inl ⟨by rfl, ?_⟩) (by assumption) ?_
  rotate_left 1
  · (intro wS hSw; (try dsimp only at hSw); go_simp; try with_reducible rfl)
  try simp only [List.getElem_toArray, List.getElem_cons_zero, List.getElem_cons_succ, Act.put, List.setIfInBounds_toArray, List.set_cons_zero, List.set_cons_succ]
  refine wpAnyH_take (i := 32) (v := ?_) rfl (by kernel_rfl) (by kernel_rfl) (by kernel_rfl) (fun _ _ _ h => h) (Or.inl ⟨by rfl, ?_⟩) (by assumption) ?_
  rotate_left 1
  · (intro wS hSw; (try dsimp only at hSw); go_simp; try with_reducible rfl)
  try simp only [List.getElem_toArray, List.getElem_cons_zero, List.getElem_cons_succ, Act.put, List.setIfInBounds_toArray, List.set_cons_zero, List.set_cons_succ]
  refine wpAnyH_take (i := 33) (v := ?_) rfl (by kernel_rfl) (by kernel_rfl) (by kernel_rfl) (fun _ _ _ h => h) (Or.inl ⟨by rfl, ?_⟩) (by assumption) ?_
  rotate_left 1
  · (intro wS hSw; (try dsimp only at hSw); go_simp; try with_reducible rfl)
  try simp only [List.getElem_toArray, List.getElem_cons_zero, List.getElem_cons_succ, Act.put, List.setIfInBounds_toArray, List.set_cons_zero, List.set_cons_succ]
  refine wpAnyH_done (by kernel_rfl) ?_ _
  refine NoPanic.normal ?_
  go_wp2_with fail
  go_ret
  exact ⟨rfl, Hwc.out⟩
end Go.Proofs.Ytohglcbakepejaa
