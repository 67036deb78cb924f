/- Parts of one proof: BlkB, CmpPlain, BitsB, BlkC, BlkD, BloomC, Shelf2, EncA, EncB, EncC, BlkE, BlkF, EncD, RecA, BlkG, BlkH, BlkI, EncF, EncE, EncG, EncLaw, BlkJ, BlkK, BlkL. -/
import Derived.Test.YthdolmofeeniaaaGreatDoorPartBk3
section
/- blocking, the program's: the part of a record that a component takes. (printed by gen_part.py) -/
set_option linter.unusedSimpArgs false
set_option linter.unusedVariables false
set_option maxRecDepth 100000
namespace Go.Proofs.YthdolmofeeniaaaGreatDoor
open Go.RowKit
attribute [local go_sem] toList_mk mk_size
/-- what a transform makes of a value -/
def transN (t : Int) (v : List UInt8) : List UInt8 := if t = 1 then v else if t = 2 then soundL v else if t = 3 then v.take 1 else if t = 4 then v.take 4 else numL v
def partN (t : Int) (v : List UInt8) : List UInt8 := if v = [] then [] else transN t v
set_option maxHeartbeats 4000000 in
theorem part_none (f : Nat) (t i ver : Int) (sv : Value) (vals : List (List UInt8)) (w : World) (h : Vec w Any1 1 encS sv vals) (hf : f < vals.length) (hn : vals.length ≤ 1000000) (h0 : vals.getD f [] = []) :
    Calls Tryz.prog 60 #[.agg #[.int .i64 f, .int .i64 t], .agg #[.int .i64 i, .int .i64 ver, sv]] w fun e w' => e = .returned (strV []) ∧ Below w.heap.size w w' := by
  obtain ⟨a, cap, rfl⟩ := h.slice
  obtain ⟨b, off, rfl, lb, hc⟩ := h.get f hf
  have c0 := hc 0 _ rfl
  rw [Nat.mul_one, Nat.add_zero] at c0
  have hx : vals[f] = [] := by rw [← h0, List.getD, List.getElem?_eq_getElem hf]; rfl
  rw [hx] at c0
  have hfi : (f : Int) < (vals.length : Int) := by omega
  clear h hc h0 hx
  go_enter Tryz.func60, Tryz.ntmps60
  go_wp2_with fail
  go_ret
  exact ⟨rfl, ((Below.refl w.heap.size w).alloc (Nat.le_refl _) _).alloc (by simp) _⟩
set_option maxHeartbeats 4000000 in
theorem part_1 (f : Nat) (i ver : Int) (sv : Value) (vals : List (List UInt8)) (w : World) (h : Vec w Any1 1 encS sv vals) (hf : f < vals.length) (hn : vals.length ≤ 1000000) (h0 : vals.getD f [] ≠ []) (hs : (vals.getD f []).length ≤ 1000) :
    Calls Tryz.prog 60 #[.agg #[.int .i64 f, .int .i64 1], .agg #[.int .i64 i, .int .i64 ver, sv]] w fun e w' => e = .returned (strV (transN 1 (vals.getD f []))) ∧ Below w.heap.size w w' := by
  obtain ⟨a, cap, rfl⟩ := h.slice
  obtain ⟨b, off, rfl, lb, hc⟩ := h.get f hf
  have c0 := hc 0 _ rfl
  rw [Nat.mul_one, Nat.add_zero] at c0
  obtain ⟨x, hx⟩ : ∃ x, vals.getD f [] = x := ⟨_, rfl⟩
  have hx2 : vals[f] = x := by rw [← hx, List.getD, List.getElem?_eq_getElem hf]; rfl
  rw [hx2] at c0
  rw [hx] at h0 hs ⊢
  obtain ⟨y, hy⟩ : ∃ y, transN 1 x = y := ⟨_, rfl⟩
  have hy2 : x = y := by rw [← hy]; rfl
  rw [hy]
  have hex : x.isEmpty = false := by simpa using h0
  have hfi : (f : Int) < (vals.length : Int) := by omega
  have HY := Lib.hid (show Ending.returned (strV (x)) = .returned (strV y) by rw [hy2])
  clear h hc h0 hx hx2 hy hy2
  go_enter Tryz.func60, Tryz.ntmps60
  go_wp2_with fail
  refine wp_world (fun W hW => ?_)
  have hb0 : Below w.heap.size w W := by rw [hW]; exact ((Below.refl w.heap.size w).alloc (Nat.le_refl _) _).alloc (by simp) _
  have hp0 : W.heap[w.heap.size]? = some (.cells #[.int .i64 f, .int .i64 1] 48 (0, 0)) := by rw [hW]; exact blk_old (blk_new rfl)
  have hq0 : W.heap[w.heap.size + 1]? = some (.cells #[.int .i64 i, .int .i64 ver, .slice (some ⟨b, off, none⟩) vals.length cap] 42 (0, 0)) := by rw [hW]; exact blk_new (by simp)
  clear hW
  have x1 := (hb0.cell (p := ⟨b, off + f, none⟩) lb).trans c0
  have lb1 : b < W.heap.size := Nat.lt_of_lt_of_le lb hb0.size
  obtain ⟨p0, p1⟩ := cells2K hp0; obtain ⟨q0, q1, q2⟩ := cells3 hq0
  have lp := lt_of_blk hp0; have lq := lt_of_blk hq0
  have HB0 := Lib.hid hb0
  clear hp0 hq0 hb0 c0
  have bD : Below W.heap.size W W.drew := (Below.refl _ _).drew
  refine wp_region_noPanic ?_
  refine wp_region_held_drew (S := (fun w' => w'.cell? ⟨w.heap.size, 0, none⟩ = some (.int .i64 f) ∧ w'.cell? ⟨w.heap.size, 1, none⟩ = some (.int .i64 1) ∧ w'.cell? ⟨w.heap.size + 1, 2, none⟩ = some (.slice (some ⟨b, off, none⟩) vals.length cap) ∧ w'.cell? ⟨b, off + f, none⟩ = some (strV x))) (by kernel_rfl) (⟨p0, p1, q2, x1⟩) (fun hHeld => ?_)
  refine wpAnyH_take (i := 1) (v := ?_) rfl (by kernel_rfl) (by kernel_rfl) (by kernel_rfl) (fun _ _ _ h => h) (Or.inl ⟨by rfl, ?_⟩) (by assumption) ?_
  rotate_left 1
  · (intro wS hSw; (try dsimp only at hSw); go_simp; try with_reducible rfl)
  try simp only [List.getElem_toArray, List.getElem_cons_zero, List.getElem_cons_succ, Act.put, List.setIfInBounds_toArray, List.set_cons_zero, List.set_cons_succ]
  refine wpAnyH_take (i := 2) (v := ?_) rfl (by kernel_rfl) (by kernel_rfl) (by kernel_rfl) (fun _ _ _ h => h) (Or.inl ⟨by rfl, ?_⟩) (by assumption) ?_
  rotate_left 1
  · (intro wS hSw; (try dsimp only at hSw); go_simp; try with_reducible rfl)
  try simp only [List.getElem_toArray, List.getElem_cons_zero, List.getElem_cons_succ, Act.put, List.setIfInBounds_toArray, List.set_cons_zero, List.set_cons_succ]
  refine wpAnyH_take (i := 4) (v := ?_) rfl (by kernel_rfl) (by kernel_rfl) (by kernel_rfl) (fun _ _ _ h => h) (Or.inl ⟨by rfl, ?_⟩) (by assumption) ?_
  rotate_left 1
  · (intro wS hSw; (try dsimp only at hSw); go_simp; try with_reducible rfl)
  try simp only [List.getElem_toArray, List.getElem_cons_zero, List.getElem_cons_succ, Act.put, List.setIfInBounds_toArray, List.set_cons_zero, List.set_cons_succ]
  refine wpAnyH_take (i := 5) (v := ?_) rfl (by kernel_rfl) (by kernel_rfl) (by kernel_rfl) (fun _ _ _ h => h) (Or.inl ⟨by rfl, ?_⟩) (by assumption) ?_
  rotate_left 1
  · (intro wS hSw; (try dsimp only at hSw); go_simp; try with_reducible rfl)
  try simp only [List.getElem_toArray, List.getElem_cons_zero, List.getElem_cons_succ, Act.put, List.setIfInBounds_toArray, List.set_cons_zero, List.set_cons_succ]
  refine wpAnyH_take (i := 6) (v := ?_) rfl (by kernel_rfl) (by kernel_rfl) (by kernel_rfl) (fun _ _ _ h => h) (Or.inl ⟨by rfl, ?_⟩) (by assumption) ?_
  rotate_left 1
  · (intro wS hSw; (try dsimp only at hSw); go_simp; try with_reducible rfl)
  try simp only [List.getElem_toArray, List.getElem_cons_zero, List.getElem_cons_succ, Act.put, List.setIfInBounds_toArray, List.set_cons_zero, List.set_cons_succ]
  refine wpAnyH_take (i := 7) (v := ?_) rfl (by kernel_rfl) (by kernel_rfl) (by kernel_rfl) (fun _ _ _ h => h) (Or.inl ⟨by rfl, ?_⟩) (by assumption) ?_
  rotate_left 1
  · (intro wS hSw; (try dsimp only at hSw); go_simp; try with_reducible rfl)
  try simp only [List.getElem_toArray, List.getElem_cons_zero, List.getElem_cons_succ, Act.put, List.setIfInBounds_toArray, List.set_cons_zero, List.set_cons_succ]
  refine wpAnyH_take (i := 8) (v := ?_) rfl (by kernel_rfl) (by kernel_rfl) (by kernel_rfl) (fun _ _ _ h => h) (Or.inl ⟨by rfl, ?_⟩) (by assumption) ?_
  rotate_left 1
  · (intro wS hSw; (try dsimp only at hSw); go_simp; try with_reducible rfl)
  try simp only [List.getElem_toArray, List.getElem_cons_zero, List.getElem_cons_succ, Act.put, List.setIfInBounds_toArray, List.set_cons_zero, List.set_cons_succ]
  refine wpAnyH_take (i := 9) (v := ?_) rfl (by kernel_rfl) (by kernel_rfl) (by kernel_rfl) (fun _ _ _ h => h) (Or.inl ⟨by rfl, ?_⟩) (by assumption) ?_
  rotate_left 1
  · (intro wS hSw; (try dsimp only at hSw); go_simp; try with_reducible rfl)
  try simp only [List.getElem_toArray, List.getElem_cons_zero, List.getElem_cons_succ, Act.put, List.setIfInBounds_toArray, List.set_cons_zero, List.set_cons_succ]
  refine wpAnyH_ready (rs := [0]) (by kernel_rfl) (by simp) ?_
  refine AllReadyH.cons rfl (fun K hK => ?_) AllReadyH.nil
  go_simp
  refine (trans_any _).mono ?_; rintro e w2 ⟨mb, rfl, hmb, hmz, hb⟩; have b2 := bD.trans hb; clear hb
  refine hK.out _ _ (⟨(b2.cell (p := ⟨w.heap.size, 0, none⟩) lp).trans p0, (b2.cell (p := ⟨w.heap.size, 1, none⟩) lp).trans p1, (b2.cell (p := ⟨w.heap.size + 1, 2, none⟩) lq).trans q2, (b2.cell (p := ⟨b, off + f, none⟩) lb1).trans x1⟩) (fun hHeld => ?_)
  clear hK K
  try simp only [List.getElem_toArray, List.getElem_cons_zero, List.getElem_cons_succ, Act.put, List.setIfInBounds_toArray, List.set_cons_zero, List.set_cons_succ]
  have hlk := look_int (P := Tryz.prog) (i := 0) 1 (.func (.func 158) #[] #[]) Tryz.underlying157 Tryz.underlying3 hmb rfl
  refine wpAnyH_ready (rs := [3]) (by kernel_rfl) (by simp) ?_
  refine AllReadyH.cons rfl (fun K hK => ?_) AllReadyH.nil
  go_simp
  refine hK.out _ _ hHeld (fun hHeld => ?_)
  clear hK K hlk
  try simp only [List.getElem_toArray, List.getElem_cons_zero, List.getElem_cons_succ, Act.put, List.setIfInBounds_toArray, List.set_cons_zero, List.set_cons_succ]
  refine wpAnyH_ready (rs := [10]) (by kernel_rfl) (by simp) ?_
  refine AllReadyH.cons rfl (fun K hK => ?_) AllReadyH.nil
  go_simp
  refine (t1_any x _).mono ?_; rintro e wq ⟨rfl, rfl⟩; have b3 := b2
  refine hK.out _ _ (⟨(b3.cell (p := ⟨w.heap.size, 0, none⟩) lp).trans p0, (b3.cell (p := ⟨w.heap.size, 1, none⟩) lp).trans p1, (b3.cell (p := ⟨w.heap.size + 1, 2, none⟩) lq).trans q2, (b3.cell (p := ⟨b, off + f, none⟩) lb1).trans x1⟩) (fun hHeld => ?_)
  clear hK K
  try simp only [List.getElem_toArray, List.getElem_cons_zero, List.getElem_cons_succ, Act.put, List.setIfInBounds_toArray, List.set_cons_zero, List.set_cons_succ]
  refine wpAnyH_take (i := 11) (v := ?_) rfl (by kernel_rfl) (by kernel_rfl) (by kernel_rfl) (fun _ _ _ h => h) (Or.inl ⟨by rfl, ?_⟩) (by assumption) ?_
  rotate_left 1
  · (intro wS hSw; (try dsimp only at hSw); go_simp; try with_reducible rfl)
  try simp only [List.getElem_toArray, List.getElem_cons_zero, List.getElem_cons_succ, Act.put, List.setIfInBounds_toArray, List.set_cons_zero, List.set_cons_succ]
  refine wpAnyH_done (by kernel_rfl) ?_ _
  refine NoPanic.normal ?_
  go_wp2_with fail
  go_ret
  exact ⟨HY.out, HB0.out.trans (b3.mono HB0.out.size)⟩
set_option maxHeartbeats 4000000 in
theorem part_2 (f : Nat) (i ver : Int) (sv : Value) (vals : List (List UInt8)) (w : World) (h : Vec w Any1 1 encS sv vals) (hf : f < vals.length) (hn : vals.length ≤ 1000000) (h0 : vals.getD f [] ≠ []) (hs : (vals.getD f []).length ≤ 1000) (has : ascii (vals.getD f [])) :
    Calls Tryz.prog 60 #[.agg #[.int .i64 f, .int .i64 2], .agg #[.int .i64 i, .int .i64 ver, sv]] w fun e w' => e = .returned (strV (transN 2 (vals.getD f []))) ∧ Below w.heap.size w w' := by
  obtain ⟨a, cap, rfl⟩ := h.slice
  obtain ⟨b, off, rfl, lb, hc⟩ := h.get f hf
  have c0 := hc 0 _ rfl
  rw [Nat.mul_one, Nat.add_zero] at c0
  obtain ⟨x, hx⟩ : ∃ x, vals.getD f [] = x := ⟨_, rfl⟩
  have hx2 : vals[f] = x := by rw [← hx, List.getD, List.getElem?_eq_getElem hf]; rfl
  rw [hx2] at c0
  rw [hx] at h0 hs has ⊢
  obtain ⟨y, hy⟩ : ∃ y, transN 2 x = y := ⟨_, rfl⟩
  have hy2 : soundL x = y := by rw [← hy]; rfl
  rw [hy]
  have hex : x.isEmpty = false := by simpa using h0
  have hfi : (f : Int) < (vals.length : Int) := by omega
  have HAs := Lib.hid has; have HY := Lib.hid (show Ending.returned (strV (soundL x)) = .returned (strV y) by rw [hy2])
  clear h hc h0 hx hx2 has hy hy2
  go_enter Tryz.func60, Tryz.ntmps60
  go_wp2_with fail
  refine wp_world (fun W hW => ?_)
  have hb0 : Below w.heap.size w W := by rw [hW]; exact ((Below.refl w.heap.size w).alloc (Nat.le_refl _) _).alloc (by simp) _
  have hp0 : W.heap[w.heap.size]? = some (.cells #[.int .i64 f, .int .i64 2] 48 (0, 0)) := by rw [hW]; exact blk_old (blk_new rfl)
  have hq0 : W.heap[w.heap.size + 1]? = some (.cells #[.int .i64 i, .int .i64 ver, .slice (some ⟨b, off, none⟩) vals.length cap] 42 (0, 0)) := by rw [hW]; exact blk_new (by simp)
  clear hW
  have x1 := (hb0.cell (p := ⟨b, off + f, none⟩) lb).trans c0
  have lb1 : b < W.heap.size := Nat.lt_of_lt_of_le lb hb0.size
  obtain ⟨p0, p1⟩ := cells2K hp0; obtain ⟨q0, q1, q2⟩ := cells3 hq0
  have lp := lt_of_blk hp0; have lq := lt_of_blk hq0
  have HB0 := Lib.hid hb0
  clear hp0 hq0 hb0 c0
  have bD : Below W.heap.size W W.drew := (Below.refl _ _).drew
  refine wp_region_noPanic ?_
  refine wp_region_held_drew (S := (fun w' => w'.cell? ⟨w.heap.size, 0, none⟩ = some (.int .i64 f) ∧ w'.cell? ⟨w.heap.size, 1, none⟩ = some (.int .i64 2) ∧ w'.cell? ⟨w.heap.size + 1, 2, none⟩ = some (.slice (some ⟨b, off, none⟩) vals.length cap) ∧ w'.cell? ⟨b, off + f, none⟩ = some (strV x))) (by kernel_rfl) (⟨p0, p1, q2, x1⟩) (fun hHeld => ?_)
  refine wpAnyH_take (i := 1) (v := ?_) rfl (by kernel_rfl) (by kernel_rfl) (by kernel_rfl) (fun _ _ _ h => h) (Or.inl ⟨by rfl, ?_⟩) (by assumption) ?_
  rotate_left 1
  · (intro wS hSw; (try dsimp only at hSw); go_simp; try with_reducible rfl)
  try simp only [List.getElem_toArray, List.getElem_cons_zero, List.getElem_cons_succ, Act.put, List.setIfInBounds_toArray, List.set_cons_zero, List.set_cons_succ]
  refine wpAnyH_take (i := 2) (v := ?_) rfl (by kernel_rfl) (by kernel_rfl) (by kernel_rfl) (fun _ _ _ h => h) (Or.inl ⟨by rfl, ?_⟩) (by assumption) ?_
  rotate_left 1
  · (intro wS hSw; (try dsimp only at hSw); go_simp; try with_reducible rfl)
  try simp only [List.getElem_toArray, List.getElem_cons_zero, List.getElem_cons_succ, Act.put, List.setIfInBounds_toArray, List.set_cons_zero, List.set_cons_succ]
  refine wpAnyH_take (i := 4) (v := ?_) rfl (by kernel_rfl) (by kernel_rfl) (by kernel_rfl) (fun _ _ _ h => h) (Or.inl ⟨by rfl, ?_⟩) (by assumption) ?_
  rotate_left 1
  · (intro wS hSw; (try dsimp only at hSw); go_simp; try with_reducible rfl)
  try simp only [List.getElem_toArray, List.getElem_cons_zero, List.getElem_cons_succ, Act.put, List.setIfInBounds_toArray, List.set_cons_zero, List.set_cons_succ]
  refine wpAnyH_take (i := 5) (v := ?_) rfl (by kernel_rfl) (by kernel_rfl) (by kernel_rfl) (fun _ _ _ h => h) (Or.inl ⟨by rfl, ?_⟩) (by assumption) ?_
  rotate_left 1
  · (intro wS hSw; (try dsimp only at hSw); go_simp; try with_reducible rfl)
  try simp only [List.getElem_toArray, List.getElem_cons_zero, List.getElem_cons_succ, Act.put, List.setIfInBounds_toArray, List.set_cons_zero, List.set_cons_succ]
  refine wpAnyH_take (i := 6) (v := ?_) rfl (by kernel_rfl) (by kernel_rfl) (by kernel_rfl) (fun _ _ _ h => h) (Or.inl ⟨by rfl, ?_⟩) (by assumption) ?_
  rotate_left 1
  · (intro wS hSw; (try dsimp only at hSw); go_simp; try with_reducible rfl)
  try simp only [List.getElem_toArray, List.getElem_cons_zero, List.getElem_cons_succ, Act.put, List.setIfInBounds_toArray, List.set_cons_zero, List.set_cons_succ]
  refine wpAnyH_take (i := 7) (v := ?_) rfl (by kernel_rfl) (by kernel_rfl) (by kernel_rfl) (fun _ _ _ h => h) (Or.inl ⟨by rfl, ?_⟩) (by assumption) ?_
  rotate_left 1
  · (intro wS hSw; (try dsimp only at hSw); go_simp; try with_reducible rfl)
  try simp only [List.getElem_toArray, List.getElem_cons_zero, List.getElem_cons_succ, Act.put, List.setIfInBounds_toArray, List.set_cons_zero, List.set_cons_succ]
  refine wpAnyH_take (i := 8) (v := ?_) rfl (by kernel_rfl) (by kernel_rfl) (by kernel_rfl) (fun _ _ _ h => h) (Or.inl ⟨by rfl, ?_⟩) (by assumption) ?_
  rotate_left 1
  · (intro wS hSw; (try dsimp only at hSw); go_simp; try with_reducible rfl)
  try simp only [List.getElem_toArray, List.getElem_cons_zero, List.getElem_cons_succ, Act.put, List.setIfInBounds_toArray, List.set_cons_zero, List.set_cons_succ]
  refine wpAnyH_take (i := 9) (v := ?_) rfl (by kernel_rfl) (by kernel_rfl) (by kernel_rfl) (fun _ _ _ h => h) (Or.inl ⟨by rfl, ?_⟩) (by assumption) ?_
  rotate_left 1
  · (intro wS hSw; (try dsimp only at hSw); go_simp; try with_reducible rfl)
  try simp only [List.getElem_toArray, List.getElem_cons_zero, List.getElem_cons_succ, Act.put, List.setIfInBounds_toArray, List.set_cons_zero, List.set_cons_succ]
  refine wpAnyH_ready (rs := [0]) (by kernel_rfl) (by simp) ?_
  refine AllReadyH.cons rfl (fun K hK => ?_) AllReadyH.nil
  go_simp
  refine (trans_any _).mono ?_; rintro e w2 ⟨mb, rfl, hmb, hmz, hb⟩; have b2 := bD.trans hb; clear hb
  refine hK.out _ _ (⟨(b2.cell (p := ⟨w.heap.size, 0, none⟩) lp).trans p0, (b2.cell (p := ⟨w.heap.size, 1, none⟩) lp).trans p1, (b2.cell (p := ⟨w.heap.size + 1, 2, none⟩) lq).trans q2, (b2.cell (p := ⟨b, off + f, none⟩) lb1).trans x1⟩) (fun hHeld => ?_)
  clear hK K
  try simp only [List.getElem_toArray, List.getElem_cons_zero, List.getElem_cons_succ, Act.put, List.setIfInBounds_toArray, List.set_cons_zero, List.set_cons_succ]
  have hlk := look_int (P := Tryz.prog) (i := 1) 2 (.func (.func 159) #[] #[]) Tryz.underlying157 Tryz.underlying3 hmb rfl
  refine wpAnyH_ready (rs := [3]) (by kernel_rfl) (by simp) ?_
  refine AllReadyH.cons rfl (fun K hK => ?_) AllReadyH.nil
  go_simp
  refine hK.out _ _ hHeld (fun hHeld => ?_)
  clear hK K hlk
  try simp only [List.getElem_toArray, List.getElem_cons_zero, List.getElem_cons_succ, Act.put, List.setIfInBounds_toArray, List.set_cons_zero, List.set_cons_succ]
  refine wpAnyH_ready (rs := [10]) (by kernel_rfl) (by simp) ?_
  refine AllReadyH.cons rfl (fun K hK => ?_) AllReadyH.nil
  go_simp
  refine (sndkey_any x _ HAs.out (by omega)).mono ?_; rintro e wq ⟨rfl, hb⟩; have b3 := b2.trans (hb.mono b2.size); clear hb
  refine hK.out _ _ (⟨(b3.cell (p := ⟨w.heap.size, 0, none⟩) lp).trans p0, (b3.cell (p := ⟨w.heap.size, 1, none⟩) lp).trans p1, (b3.cell (p := ⟨w.heap.size + 1, 2, none⟩) lq).trans q2, (b3.cell (p := ⟨b, off + f, none⟩) lb1).trans x1⟩) (fun hHeld => ?_)
  clear hK K
  try simp only [List.getElem_toArray, List.getElem_cons_zero, List.getElem_cons_succ, Act.put, List.setIfInBounds_toArray, List.set_cons_zero, List.set_cons_succ]
  refine wpAnyH_take (i := 11) (v := ?_) rfl (by kernel_rfl) (by kernel_rfl) (by kernel_rfl) (fun _ _ _ h => h) (Or.inl ⟨by rfl, ?_⟩) (by assumption) ?_
  rotate_left 1
  · (intro wS hSw; (try dsimp only at hSw); go_simp; try with_reducible rfl)
  try simp only [List.getElem_toArray, List.getElem_cons_zero, List.getElem_cons_succ, Act.put, List.setIfInBounds_toArray, List.set_cons_zero, List.set_cons_succ]
  refine wpAnyH_done (by kernel_rfl) ?_ _
  refine NoPanic.normal ?_
  go_wp2_with fail
  go_ret
  exact ⟨HY.out, HB0.out.trans (b3.mono HB0.out.size)⟩
set_option maxHeartbeats 4000000 in
theorem part_3 (f : Nat) (i ver : Int) (sv : Value) (vals : List (List UInt8)) (w : World) (h : Vec w Any1 1 encS sv vals) (hf : f < vals.length) (hn : vals.length ≤ 1000000) (h0 : vals.getD f [] ≠ []) (hs : (vals.getD f []).length ≤ 1000) :
    Calls Tryz.prog 60 #[.agg #[.int .i64 f, .int .i64 3], .agg #[.int .i64 i, .int .i64 ver, sv]] w fun e w' => e = .returned (strV (transN 3 (vals.getD f []))) ∧ Below w.heap.size w w' := by
  obtain ⟨a, cap, rfl⟩ := h.slice
  obtain ⟨b, off, rfl, lb, hc⟩ := h.get f hf
  have c0 := hc 0 _ rfl
  rw [Nat.mul_one, Nat.add_zero] at c0
  obtain ⟨x, hx⟩ : ∃ x, vals.getD f [] = x := ⟨_, rfl⟩
  have hx2 : vals[f] = x := by rw [← hx, List.getD, List.getElem?_eq_getElem hf]; rfl
  rw [hx2] at c0
  rw [hx] at h0 hs ⊢
  obtain ⟨y, hy⟩ : ∃ y, transN 3 x = y := ⟨_, rfl⟩
  have hy2 : x.take 1 = y := by rw [← hy]; rfl
  rw [hy]
  have hex : x.isEmpty = false := by simpa using h0
  have hfi : (f : Int) < (vals.length : Int) := by omega
  have HY := Lib.hid (show Ending.returned (strV (x.take 1)) = .returned (strV y) by rw [hy2])
  clear h hc h0 hx hx2 hy hy2
  go_enter Tryz.func60, Tryz.ntmps60
  go_wp2_with fail
  refine wp_world (fun W hW => ?_)
  have hb0 : Below w.heap.size w W := by rw [hW]; exact ((Below.refl w.heap.size w).alloc (Nat.le_refl _) _).alloc (by simp) _
  have hp0 : W.heap[w.heap.size]? = some (.cells #[.int .i64 f, .int .i64 3] 48 (0, 0)) := by rw [hW]; exact blk_old (blk_new rfl)
  have hq0 : W.heap[w.heap.size + 1]? = some (.cells #[.int .i64 i, .int .i64 ver, .slice (some ⟨b, off, none⟩) vals.length cap] 42 (0, 0)) := by rw [hW]; exact blk_new (by simp)
  clear hW
  have x1 := (hb0.cell (p := ⟨b, off + f, none⟩) lb).trans c0
  have lb1 : b < W.heap.size := Nat.lt_of_lt_of_le lb hb0.size
  obtain ⟨p0, p1⟩ := cells2K hp0; obtain ⟨q0, q1, q2⟩ := cells3 hq0
  have lp := lt_of_blk hp0; have lq := lt_of_blk hq0
  have HB0 := Lib.hid hb0
  clear hp0 hq0 hb0 c0
  have bD : Below W.heap.size W W.drew := (Below.refl _ _).drew
  refine wp_region_noPanic ?_
  refine wp_region_held_drew (S := (fun w' => w'.cell? ⟨w.heap.size, 0, none⟩ = some (.int .i64 f) ∧ w'.cell? ⟨w.heap.size, 1, none⟩ = some (.int .i64 3) ∧ w'.cell? ⟨w.heap.size + 1, 2, none⟩ = some (.slice (some ⟨b, off, none⟩) vals.length cap) ∧ w'.cell? ⟨b, off + f, none⟩ = some (strV x))) (by kernel_rfl) (⟨p0, p1, q2, x1⟩) (fun hHeld => ?_)
  refine wpAnyH_take (i := 1) (v := ?_) rfl (by kernel_rfl) (by kernel_rfl) (by kernel_rfl) (fun _ _ _ h => h) (Or.inl ⟨by rfl, ?_⟩) (by assumption) ?_
  rotate_left 1
  · (intro wS hSw; (try dsimp only at hSw); go_simp; try with_reducible rfl)
  try simp only [List.getElem_toArray, List.getElem_cons_zero, List.getElem_cons_succ, Act.put, List.setIfInBounds_toArray, List.set_cons_zero, List.set_cons_succ]
  refine wpAnyH_take (i := 2) (v := ?_) rfl (by kernel_rfl) (by kernel_rfl) (by kernel_rfl) (fun _ _ _ h => h) (Or.inl ⟨by rfl, ?_⟩) (by assumption) ?_
  rotate_left 1
  · (intro wS hSw; (try dsimp only at hSw); go_simp; try with_reducible rfl)
  try simp only [List.getElem_toArray, List.getElem_cons_zero, List.getElem_cons_succ, Act.put, List.setIfInBounds_toArray, List.set_cons_zero, List.set_cons_succ]
  refine wpAnyH_take (i := 4) (v := ?_) rfl (by kernel_rfl) (by kernel_rfl) (by kernel_rfl) (fun _ _ _ h => h) (Or.inl ⟨by rfl, ?_⟩) (by assumption) ?_
  rotate_left 1
  · (intro wS hSw; (try dsimp only at hSw); go_simp; try with_reducible rfl)
  try simp only [List.getElem_toArray, List.getElem_cons_zero, List.getElem_cons_succ, Act.put, List.setIfInBounds_toArray, List.set_cons_zero, List.set_cons_succ]
  refine wpAnyH_take (i := 5) (v := ?_) rfl (by kernel_rfl) (by kernel_rfl) (by kernel_rfl) (fun _ _ _ h => h) (Or.inl ⟨by rfl, ?_⟩) (by assumption) ?_
  rotate_left 1
  · (intro wS hSw; (try dsimp only at hSw); go_simp; try with_reducible rfl)
  try simp only [List.getElem_toArray, List.getElem_cons_zero, List.getElem_cons_succ, Act.put, List.setIfInBounds_toArray, List.set_cons_zero, List.set_cons_succ]
  refine wpAnyH_take (i := 6) (v := ?_) rfl (by kernel_rfl) (by kernel_rfl) (by kernel_rfl) (fun _ _ _ h => h) (Or.inl ⟨by rfl, ?_⟩) (by assumption) ?_
  rotate_left 1
  · (intro wS hSw; (try dsimp only at hSw); go_simp; try with_reducible rfl)
  try simp only [List.getElem_toArray, List.getElem_cons_zero, List.getElem_cons_succ, Act.put, List.setIfInBounds_toArray, List.set_cons_zero, List.set_cons_succ]
  refine wpAnyH_take (i := 7) (v := ?_) rfl (by kernel_rfl) (by kernel_rfl) (by kernel_rfl) (fun _ _ _ h => h) (Or.inl ⟨by rfl, ?_⟩) (by assumption) ?_
  rotate_left 1
  · (intro wS hSw; (try dsimp only at hSw); go_simp; try with_reducible rfl)
  try simp only [List.getElem_toArray, List.getElem_cons_zero, List.getElem_cons_succ, Act.put, List.setIfInBounds_toArray, List.set_cons_zero, List.set_cons_succ]
  refine wpAnyH_take (i := 8) (v := ?_) rfl (by kernel_rfl) (by kernel_rfl) (by kernel_rfl) (fun _ _ _ h => h) (Or.inl ⟨by rfl, ?_⟩) (by assumption) ?_
  rotate_left 1
  · (intro wS hSw; (try dsimp only at hSw); go_simp; try with_reducible rfl)
  try simp only [List.getElem_toArray, List.getElem_cons_zero, List.getElem_cons_succ, Act.put, List.setIfInBounds_toArray, List.set_cons_zero, List.set_cons_succ]
  refine wpAnyH_take (i := 9) (v := ?_) rfl (by kernel_rfl) (by kernel_rfl) (by kernel_rfl) (fun _ _ _ h => h) (Or.inl ⟨by rfl, ?_⟩) (by assumption) ?_
  rotate_left 1
  · (intro wS hSw; (try dsimp only at hSw); go_simp; try with_reducible rfl)
  try simp only [List.getElem_toArray, List.getElem_cons_zero, List.getElem_cons_succ, Act.put, List.setIfInBounds_toArray, List.set_cons_zero, List.set_cons_succ]
  refine wpAnyH_ready (rs := [0]) (by kernel_rfl) (by simp) ?_
  refine AllReadyH.cons rfl (fun K hK => ?_) AllReadyH.nil
  go_simp
  refine (trans_any _).mono ?_; rintro e w2 ⟨mb, rfl, hmb, hmz, hb⟩; have b2 := bD.trans hb; clear hb
  refine hK.out _ _ (⟨(b2.cell (p := ⟨w.heap.size, 0, none⟩) lp).trans p0, (b2.cell (p := ⟨w.heap.size, 1, none⟩) lp).trans p1, (b2.cell (p := ⟨w.heap.size + 1, 2, none⟩) lq).trans q2, (b2.cell (p := ⟨b, off + f, none⟩) lb1).trans x1⟩) (fun hHeld => ?_)
  clear hK K
  try simp only [List.getElem_toArray, List.getElem_cons_zero, List.getElem_cons_succ, Act.put, List.setIfInBounds_toArray, List.set_cons_zero, List.set_cons_succ]
  have hlk := look_int (P := Tryz.prog) (i := 2) 3 (.func (.func 160) #[] #[]) Tryz.underlying157 Tryz.underlying3 hmb rfl
  refine wpAnyH_ready (rs := [3]) (by kernel_rfl) (by simp) ?_
  refine AllReadyH.cons rfl (fun K hK => ?_) AllReadyH.nil
  go_simp
  refine hK.out _ _ hHeld (fun hHeld => ?_)
  clear hK K hlk
  try simp only [List.getElem_toArray, List.getElem_cons_zero, List.getElem_cons_succ, Act.put, List.setIfInBounds_toArray, List.set_cons_zero, List.set_cons_succ]
  refine wpAnyH_ready (rs := [10]) (by kernel_rfl) (by simp) ?_
  refine AllReadyH.cons rfl (fun K hK => ?_) AllReadyH.nil
  go_simp
  refine (t2_any x _ (by omega)).mono ?_; rintro e wq ⟨rfl, rfl⟩; have b3 := b2
  refine hK.out _ _ (⟨(b3.cell (p := ⟨w.heap.size, 0, none⟩) lp).trans p0, (b3.cell (p := ⟨w.heap.size, 1, none⟩) lp).trans p1, (b3.cell (p := ⟨w.heap.size + 1, 2, none⟩) lq).trans q2, (b3.cell (p := ⟨b, off + f, none⟩) lb1).trans x1⟩) (fun hHeld => ?_)
  clear hK K
  try simp only [List.getElem_toArray, List.getElem_cons_zero, List.getElem_cons_succ, Act.put, List.setIfInBounds_toArray, List.set_cons_zero, List.set_cons_succ]
  refine wpAnyH_take (i := 11) (v := ?_) rfl (by kernel_rfl) (by kernel_rfl) (by kernel_rfl) (fun _ _ _ h => h) (Or.inl ⟨by rfl, ?_⟩) (by assumption) ?_
  rotate_left 1
  · (intro wS hSw; (try dsimp only at hSw); go_simp; try with_reducible rfl)
  try simp only [List.getElem_toArray, List.getElem_cons_zero, List.getElem_cons_succ, Act.put, List.setIfInBounds_toArray, List.set_cons_zero, List.set_cons_succ]
  refine wpAnyH_done (by kernel_rfl) ?_ _
  refine NoPanic.normal ?_
  go_wp2_with fail
  go_ret
  exact ⟨HY.out, HB0.out.trans (b3.mono HB0.out.size)⟩
set_option maxHeartbeats 4000000 in
theorem part_4 (f : Nat) (i ver : Int) (sv : Value) (vals : List (List UInt8)) (w : World) (h : Vec w Any1 1 encS sv vals) (hf : f < vals.length) (hn : vals.length ≤ 1000000) (h0 : vals.getD f [] ≠ []) (hs : (vals.getD f []).length ≤ 1000) :
    Calls Tryz.prog 60 #[.agg #[.int .i64 f, .int .i64 4], .agg #[.int .i64 i, .int .i64 ver, sv]] w fun e w' => e = .returned (strV (transN 4 (vals.getD f []))) ∧ Below w.heap.size w w' := by
  obtain ⟨a, cap, rfl⟩ := h.slice
  obtain ⟨b, off, rfl, lb, hc⟩ := h.get f hf
  have c0 := hc 0 _ rfl
  rw [Nat.mul_one, Nat.add_zero] at c0
  obtain ⟨x, hx⟩ : ∃ x, vals.getD f [] = x := ⟨_, rfl⟩
  have hx2 : vals[f] = x := by rw [← hx, List.getD, List.getElem?_eq_getElem hf]; rfl
  rw [hx2] at c0
  rw [hx] at h0 hs ⊢
  obtain ⟨y, hy⟩ : ∃ y, transN 4 x = y := ⟨_, rfl⟩
  have hy2 : x.take 4 = y := by rw [← hy]; rfl
  rw [hy]
  have hex : x.isEmpty = false := by simpa using h0
  have hfi : (f : Int) < (vals.length : Int) := by omega
  have HY := Lib.hid (show Ending.returned (strV (x.take 4)) = .returned (strV y) by rw [hy2])
  clear h hc h0 hx hx2 hy hy2
  go_enter Tryz.func60, Tryz.ntmps60
  go_wp2_with fail
  refine wp_world (fun W hW => ?_)
  have hb0 : Below w.heap.size w W := by rw [hW]; exact ((Below.refl w.heap.size w).alloc (Nat.le_refl _) _).alloc (by simp) _
  have hp0 : W.heap[w.heap.size]? = some (.cells #[.int .i64 f, .int .i64 4] 48 (0, 0)) := by rw [hW]; exact blk_old (blk_new rfl)
  have hq0 : W.heap[w.heap.size + 1]? = some (.cells #[.int .i64 i, .int .i64 ver, .slice (some ⟨b, off, none⟩) vals.length cap] 42 (0, 0)) := by rw [hW]; exact blk_new (by simp)
  clear hW
  have x1 := (hb0.cell (p := ⟨b, off + f, none⟩) lb).trans c0
  have lb1 : b < W.heap.size := Nat.lt_of_lt_of_le lb hb0.size
  obtain ⟨p0, p1⟩ := cells2K hp0; obtain ⟨q0, q1, q2⟩ := cells3 hq0
  have lp := lt_of_blk hp0; have lq := lt_of_blk hq0
  have HB0 := Lib.hid hb0
  clear hp0 hq0 hb0 c0
  have bD : Below W.heap.size W W.drew := (Below.refl _ _).drew
  refine wp_region_noPanic ?_
  refine wp_region_held_drew (S := (fun w' => w'.cell? ⟨w.heap.size, 0, none⟩ = some (.int .i64 f) ∧ w'.cell? ⟨w.heap.size, 1, none⟩ = some (.int .i64 4) ∧ w'.cell? ⟨w.heap.size + 1, 2, none⟩ = some (.slice (some ⟨b, off, none⟩) vals.length cap) ∧ w'.cell? ⟨b, off + f, none⟩ = some (strV x))) (by kernel_rfl) (⟨p0, p1, q2, x1⟩) (fun hHeld => ?_)
  refine wpAnyH_take (i := 1) (v := ?_) rfl (by kernel_rfl) (by kernel_rfl) (by kernel_rfl) (fun _ _ _ h => h) (Or.inl ⟨by rfl, ?_⟩) (by assumption) ?_
  rotate_left 1
  · (intro wS hSw; (try dsimp only at hSw); go_simp; try with_reducible rfl)
  try simp only [List.getElem_toArray, List.getElem_cons_zero, List.getElem_cons_succ, Act.put, List.setIfInBounds_toArray, List.set_cons_zero, List.set_cons_succ]
  refine wpAnyH_take (i := 2) (v := ?_) rfl (by kernel_rfl) (by kernel_rfl) (by kernel_rfl) (fun _ _ _ h => h) (Or.inl ⟨by rfl, ?_⟩) (by assumption) ?_
  rotate_left 1
  · (intro wS hSw; (try dsimp only at hSw); go_simp; try with_reducible rfl)
  try simp only [List.getElem_toArray, List.getElem_cons_zero, List.getElem_cons_succ, Act.put, List.setIfInBounds_toArray, List.set_cons_zero, List.set_cons_succ]
  refine wpAnyH_take (i := 4) (v := ?_) rfl (by kernel_rfl) (by kernel_rfl) (by kernel_rfl) (fun _ _ _ h => h) (Or.inl ⟨by rfl, ?_⟩) (by assumption) ?_
  rotate_left 1
  · (intro wS hSw; (try dsimp only at hSw); go_simp; try with_reducible rfl)
  try simp only [List.getElem_toArray, List.getElem_cons_zero, List.getElem_cons_succ, Act.put, List.setIfInBounds_toArray, List.set_cons_zero, List.set_cons_succ]
  refine wpAnyH_take (i := 5) (v := ?_) rfl (by kernel_rfl) (by kernel_rfl) (by kernel_rfl) (fun _ _ _ h => h) (Or.inl ⟨by rfl, ?_⟩) (by assumption) ?_
  rotate_left 1
  · (intro wS hSw; (try dsimp only at hSw); go_simp; try with_reducible rfl)
  try simp only [List.getElem_toArray, List.getElem_cons_zero, List.getElem_cons_succ, Act.put, List.setIfInBounds_toArray, List.set_cons_zero, List.set_cons_succ]
  refine wpAnyH_take (i := 6) (v := ?_) rfl (by kernel_rfl) (by kernel_rfl) (by kernel_rfl) (fun _ _ _ h => h) (Or.inl ⟨by rfl, ?_⟩) (by assumption) ?_
  rotate_left 1
  · (intro wS hSw; (try dsimp only at hSw); go_simp; try with_reducible rfl)
  try simp only [List.getElem_toArray, List.getElem_cons_zero, List.getElem_cons_succ, Act.put, List.setIfInBounds_toArray, List.set_cons_zero, List.set_cons_succ]
  refine wpAnyH_take (i := 7) (v := ?_) rfl (by kernel_rfl) (by kernel_rfl) (by kernel_rfl) (fun _ _ _ h => h) (Or.inl ⟨by rfl, ?_⟩) (by assumption) ?_
  rotate_left 1
  · (intro wS hSw; (try dsimp only at hSw); go_simp; try with_reducible rfl)
  try simp only [List.getElem_toArray, List.getElem_cons_zero, List.getElem_cons_succ, Act.put, List.setIfInBounds_toArray, List.set_cons_zero, List.set_cons_succ]
  refine wpAnyH_take (i := 8) (v := ?_) rfl (by kernel_rfl) (by kernel_rfl) (by kernel_rfl) (fun _ _ _ h => h) (Or.inl ⟨by rfl, ?_⟩) (by assumption) ?_
  rotate_left 1
  · (intro wS hSw; (try dsimp only at hSw); go_simp; try with_reducible rfl)
  try simp only [List.getElem_toArray, List.getElem_cons_zero, List.getElem_cons_succ, Act.put, List.setIfInBounds_toArray, List.set_cons_zero, List.set_cons_succ]
  refine wpAnyH_take (i := 9) (v := ?_) rfl (by kernel_rfl) (by kernel_rfl) (by kernel_rfl) (fun _ _ _ h => h) (Or.inl ⟨by rfl, ?_⟩) (by assumption) ?_
  rotate_left 1
  · (intro wS hSw; (try dsimp only at hSw); go_simp; try with_reducible rfl)
  try simp only [List.getElem_toArray, List.getElem_cons_zero, List.getElem_cons_succ, Act.put, List.setIfInBounds_toArray, List.set_cons_zero, List.set_cons_succ]
  refine wpAnyH_ready (rs := [0]) (by kernel_rfl) (by simp) ?_
  refine AllReadyH.cons rfl (fun K hK => ?_) AllReadyH.nil
  go_simp
  refine (trans_any _).mono ?_; rintro e w2 ⟨mb, rfl, hmb, hmz, hb⟩; have b2 := bD.trans hb; clear hb
  refine hK.out _ _ (⟨(b2.cell (p := ⟨w.heap.size, 0, none⟩) lp).trans p0, (b2.cell (p := ⟨w.heap.size, 1, none⟩) lp).trans p1, (b2.cell (p := ⟨w.heap.size + 1, 2, none⟩) lq).trans q2, (b2.cell (p := ⟨b, off + f, none⟩) lb1).trans x1⟩) (fun hHeld => ?_)
  clear hK K
  try simp only [List.getElem_toArray, List.getElem_cons_zero, List.getElem_cons_succ, Act.put, List.setIfInBounds_toArray, List.set_cons_zero, List.set_cons_succ]
  have hlk := look_int (P := Tryz.prog) (i := 3) 4 (.func (.func 162) #[] #[]) Tryz.underlying157 Tryz.underlying3 hmb rfl
  refine wpAnyH_ready (rs := [3]) (by kernel_rfl) (by simp) ?_
  refine AllReadyH.cons rfl (fun K hK => ?_) AllReadyH.nil
  go_simp
  refine hK.out _ _ hHeld (fun hHeld => ?_)
  clear hK K hlk
  try simp only [List.getElem_toArray, List.getElem_cons_zero, List.getElem_cons_succ, Act.put, List.setIfInBounds_toArray, List.set_cons_zero, List.set_cons_succ]
  refine wpAnyH_ready (rs := [10]) (by kernel_rfl) (by simp) ?_
  refine AllReadyH.cons rfl (fun K hK => ?_) AllReadyH.nil
  go_simp
  refine (t3_any x _ (by omega)).mono ?_; rintro e wq ⟨rfl, rfl⟩; have b3 := b2
  refine hK.out _ _ (⟨(b3.cell (p := ⟨w.heap.size, 0, none⟩) lp).trans p0, (b3.cell (p := ⟨w.heap.size, 1, none⟩) lp).trans p1, (b3.cell (p := ⟨w.heap.size + 1, 2, none⟩) lq).trans q2, (b3.cell (p := ⟨b, off + f, none⟩) lb1).trans x1⟩) (fun hHeld => ?_)
  clear hK K
  try simp only [List.getElem_toArray, List.getElem_cons_zero, List.getElem_cons_succ, Act.put, List.setIfInBounds_toArray, List.set_cons_zero, List.set_cons_succ]
  refine wpAnyH_take (i := 11) (v := ?_) rfl (by kernel_rfl) (by kernel_rfl) (by kernel_rfl) (fun _ _ _ h => h) (Or.inl ⟨by rfl, ?_⟩) (by assumption) ?_
  rotate_left 1
  · (intro wS hSw; (try dsimp only at hSw); go_simp; try with_reducible rfl)
  try simp only [List.getElem_toArray, List.getElem_cons_zero, List.getElem_cons_succ, Act.put, List.setIfInBounds_toArray, List.set_cons_zero, List.set_cons_succ]
  refine wpAnyH_done (by kernel_rfl) ?_ _
  refine NoPanic.normal ?_
  go_wp2_with fail
  go_ret
  exact ⟨HY.out, HB0.out.trans (b3.mono HB0.out.size)⟩
set_option maxHeartbeats 4000000 in
theorem part_5 (f : Nat) (i ver : Int) (sv : Value) (vals : List (List UInt8)) (w : World) (h : Vec w Any1 1 encS sv vals) (hf : f < vals.length) (hn : vals.length ≤ 1000000) (h0 : vals.getD f [] ≠ []) (hs : (vals.getD f []).length ≤ 1000) (has : ascii (vals.getD f [])) :
    Calls Tryz.prog 60 #[.agg #[.int .i64 f, .int .i64 5], .agg #[.int .i64 i, .int .i64 ver, sv]] w fun e w' => e = .returned (strV (transN 5 (vals.getD f []))) ∧ Below w.heap.size w w' := by
  obtain ⟨a, cap, rfl⟩ := h.slice
  obtain ⟨b, off, rfl, lb, hc⟩ := h.get f hf
  have c0 := hc 0 _ rfl
  rw [Nat.mul_one, Nat.add_zero] at c0
  obtain ⟨x, hx⟩ : ∃ x, vals.getD f [] = x := ⟨_, rfl⟩
  have hx2 : vals[f] = x := by rw [← hx, List.getD, List.getElem?_eq_getElem hf]; rfl
  rw [hx2] at c0
  rw [hx] at h0 hs has ⊢
  obtain ⟨y, hy⟩ : ∃ y, transN 5 x = y := ⟨_, rfl⟩
  have hy2 : numL x = y := by rw [← hy]; rfl
  rw [hy]
  have hex : x.isEmpty = false := by simpa using h0
  have hfi : (f : Int) < (vals.length : Int) := by omega
  have HAs := Lib.hid has; have HY := Lib.hid (show Ending.returned (strV (numL x)) = .returned (strV y) by rw [hy2])
  clear h hc h0 hx hx2 has hy hy2
  go_enter Tryz.func60, Tryz.ntmps60
  go_wp2_with fail
  refine wp_world (fun W hW => ?_)
  have hb0 : Below w.heap.size w W := by rw [hW]; exact ((Below.refl w.heap.size w).alloc (Nat.le_refl _) _).alloc (by simp) _
  have hp0 : W.heap[w.heap.size]? = some (.cells #[.int .i64 f, .int .i64 5] 48 (0, 0)) := by rw [hW]; exact blk_old (blk_new rfl)
  have hq0 : W.heap[w.heap.size + 1]? = some (.cells #[.int .i64 i, .int .i64 ver, .slice (some ⟨b, off, none⟩) vals.length cap] 42 (0, 0)) := by rw [hW]; exact blk_new (by simp)
  clear hW
  have x1 := (hb0.cell (p := ⟨b, off + f, none⟩) lb).trans c0
  have lb1 : b < W.heap.size := Nat.lt_of_lt_of_le lb hb0.size
  obtain ⟨p0, p1⟩ := cells2K hp0; obtain ⟨q0, q1, q2⟩ := cells3 hq0
  have lp := lt_of_blk hp0; have lq := lt_of_blk hq0
  have HB0 := Lib.hid hb0
  clear hp0 hq0 hb0 c0
  have bD : Below W.heap.size W W.drew := (Below.refl _ _).drew
  refine wp_region_noPanic ?_
  refine wp_region_held_drew (S := (fun w' => w'.cell? ⟨w.heap.size, 0, none⟩ = some (.int .i64 f) ∧ w'.cell? ⟨w.heap.size, 1, none⟩ = some (.int .i64 5) ∧ w'.cell? ⟨w.heap.size + 1, 2, none⟩ = some (.slice (some ⟨b, off, none⟩) vals.length cap) ∧ w'.cell? ⟨b, off + f, none⟩ = some (strV x))) (by kernel_rfl) (⟨p0, p1, q2, x1⟩) (fun hHeld => ?_)
  refine wpAnyH_take (i := 1) (v := ?_) rfl (by kernel_rfl) (by kernel_rfl) (by kernel_rfl) (fun _ _ _ h => h) (Or.inl ⟨by rfl, ?_⟩) (by assumption) ?_
  rotate_left 1
  · (intro wS hSw; (try dsimp only at hSw); go_simp; try with_reducible rfl)
  try simp only [List.getElem_toArray, List.getElem_cons_zero, List.getElem_cons_succ, Act.put, List.setIfInBounds_toArray, List.set_cons_zero, List.set_cons_succ]
  refine wpAnyH_take (i := 2) (v := ?_) rfl (by kernel_rfl) (by kernel_rfl) (by kernel_rfl) (fun _ _ _ h => h) (Or.inl ⟨by rfl, ?_⟩) (by assumption) ?_
  rotate_left 1
  · (intro wS hSw; (try dsimp only at hSw); go_simp; try with_reducible rfl)
  try simp only [List.getElem_toArray, List.getElem_cons_zero, List.getElem_cons_succ, Act.put, List.setIfInBounds_toArray, List.set_cons_zero, List.set_cons_succ]
  refine wpAnyH_take (i := 4) (v := ?_) rfl (by kernel_rfl) (by kernel_rfl) (by kernel_rfl) (fun _ _ _ h => h) (Or.inl ⟨by rfl, ?_⟩) (by assumption) ?_
  rotate_left 1
  · (intro wS hSw; (try dsimp only at hSw); go_simp; try with_reducible rfl)
  try simp only [List.getElem_toArray, List.getElem_cons_zero, List.getElem_cons_succ, Act.put, List.setIfInBounds_toArray, List.set_cons_zero, List.set_cons_succ]
  refine wpAnyH_take (i := 5) (v := ?_) rfl (by kernel_rfl) (by kernel_rfl) (by kernel_rfl) (fun _ _ _ h => h) (Or.inl ⟨by rfl, ?_⟩) (by assumption) ?_
  rotate_left 1
  · (intro wS hSw; (try dsimp only at hSw); go_simp; try with_reducible rfl)
  try simp only [List.getElem_toArray, List.getElem_cons_zero, List.getElem_cons_succ, Act.put, List.setIfInBounds_toArray, List.set_cons_zero, List.set_cons_succ]
  refine wpAnyH_take (i := 6) (v := ?_) rfl (by kernel_rfl) (by kernel_rfl) (by kernel_rfl) (fun _ _ _ h => h) (Or.inl ⟨by rfl, ?_⟩) (by assumption) ?_
  rotate_left 1
  · (intro wS hSw; (try dsimp only at hSw); go_simp; try with_reducible rfl)
  try simp only [List.getElem_toArray, List.getElem_cons_zero, List.getElem_cons_succ, Act.put, List.setIfInBounds_toArray, List.set_cons_zero, List.set_cons_succ]
  refine wpAnyH_take (i := 7) (v := ?_) rfl (by kernel_rfl) (by kernel_rfl) (by kernel_rfl) (fun _ _ _ h => h) (Or.inl ⟨by rfl, ?_⟩) (by assumption) ?_
  rotate_left 1
  · (intro wS hSw; (try dsimp only at hSw); go_simp; try with_reducible rfl)
  try simp only [List.getElem_toArray, List.getElem_cons_zero, List.getElem_cons_succ, Act.put, List.setIfInBounds_toArray, List.set_cons_zero, List.set_cons_succ]
  refine wpAnyH_take (i := 8) (v := ?_) rfl (by kernel_rfl) (by kernel_rfl) (by kernel_rfl) (fun _ _ _ h => h) (Or.inl ⟨by rfl, ?_⟩) (by assumption) ?_
  rotate_left 1
  · (intro wS hSw; (try dsimp only at hSw); go_simp; try with_reducible rfl)
  try simp only [List.getElem_toArray, List.getElem_cons_zero, List.getElem_cons_succ, Act.put, List.setIfInBounds_toArray, List.set_cons_zero, List.set_cons_succ]
  refine wpAnyH_take (i := 9) (v := ?_) rfl (by kernel_rfl) (by kernel_rfl) (by kernel_rfl) (fun _ _ _ h => h) (Or.inl ⟨by rfl, ?_⟩) (by assumption) ?_
  rotate_left 1
  · (intro wS hSw; (try dsimp only at hSw); go_simp; try with_reducible rfl)
  try simp only [List.getElem_toArray, List.getElem_cons_zero, List.getElem_cons_succ, Act.put, List.setIfInBounds_toArray, List.set_cons_zero, List.set_cons_succ]
  refine wpAnyH_ready (rs := [0]) (by kernel_rfl) (by simp) ?_
  refine AllReadyH.cons rfl (fun K hK => ?_) AllReadyH.nil
  go_simp
  refine (trans_any _).mono ?_; rintro e w2 ⟨mb, rfl, hmb, hmz, hb⟩; have b2 := bD.trans hb; clear hb
  refine hK.out _ _ (⟨(b2.cell (p := ⟨w.heap.size, 0, none⟩) lp).trans p0, (b2.cell (p := ⟨w.heap.size, 1, none⟩) lp).trans p1, (b2.cell (p := ⟨w.heap.size + 1, 2, none⟩) lq).trans q2, (b2.cell (p := ⟨b, off + f, none⟩) lb1).trans x1⟩) (fun hHeld => ?_)
  clear hK K
  try simp only [List.getElem_toArray, List.getElem_cons_zero, List.getElem_cons_succ, Act.put, List.setIfInBounds_toArray, List.set_cons_zero, List.set_cons_succ]
  have hlk := look_int (P := Tryz.prog) (i := 4) 5 (.func (.func 163) #[] #[]) Tryz.underlying157 Tryz.underlying3 hmb rfl
  refine wpAnyH_ready (rs := [3]) (by kernel_rfl) (by simp) ?_
  refine AllReadyH.cons rfl (fun K hK => ?_) AllReadyH.nil
  go_simp
  refine hK.out _ _ hHeld (fun hHeld => ?_)
  clear hK K hlk
  try simp only [List.getElem_toArray, List.getElem_cons_zero, List.getElem_cons_succ, Act.put, List.setIfInBounds_toArray, List.set_cons_zero, List.set_cons_succ]
  refine wpAnyH_ready (rs := [10]) (by kernel_rfl) (by simp) ?_
  refine AllReadyH.cons rfl (fun K hK => ?_) AllReadyH.nil
  go_simp
  refine (anum_any x _ HAs.out (by omega)).mono ?_; rintro e wq ⟨rfl, hb⟩; have b3 := b2.trans (hb.mono b2.size); clear hb
  refine hK.out _ _ (⟨(b3.cell (p := ⟨w.heap.size, 0, none⟩) lp).trans p0, (b3.cell (p := ⟨w.heap.size, 1, none⟩) lp).trans p1, (b3.cell (p := ⟨w.heap.size + 1, 2, none⟩) lq).trans q2, (b3.cell (p := ⟨b, off + f, none⟩) lb1).trans x1⟩) (fun hHeld => ?_)
  clear hK K
  try simp only [List.getElem_toArray, List.getElem_cons_zero, List.getElem_cons_succ, Act.put, List.setIfInBounds_toArray, List.set_cons_zero, List.set_cons_succ]
  refine wpAnyH_take (i := 11) (v := ?_) rfl (by kernel_rfl) (by kernel_rfl) (by kernel_rfl) (fun _ _ _ h => h) (Or.inl ⟨by rfl, ?_⟩) (by assumption) ?_
  rotate_left 1
  · (intro wS hSw; (try dsimp only at hSw); go_simp; try with_reducible rfl)
  try simp only [List.getElem_toArray, List.getElem_cons_zero, List.getElem_cons_succ, Act.put, List.setIfInBounds_toArray, List.set_cons_zero, List.set_cons_succ]
  refine wpAnyH_done (by kernel_rfl) ?_ _
  refine NoPanic.normal ?_
  go_wp2_with fail
  go_ret
  exact ⟨HY.out, HB0.out.trans (b3.mono HB0.out.size)⟩
theorem part_yes (f : Nat) (t i ver : Int) (sv : Value) (vals : List (List UInt8)) (w : World) (h : Vec w Any1 1 encS sv vals) (hf : f < vals.length) (hn : vals.length ≤ 1000000) (ht : 1 ≤ t ∧ t ≤ 5) (hs : (vals.getD f []).length ≤ 1000) (has : t = 2 ∨ t = 5 → ascii (vals.getD f [])) :
    Calls Tryz.prog 60 #[.agg #[.int .i64 f, .int .i64 t], .agg #[.int .i64 i, .int .i64 ver, sv]] w fun e w' => e = .returned (strV (partN t (vals.getD f []))) ∧ Below w.heap.size w w' := by
  unfold partN
  by_cases h0 : vals.getD f [] = []
  · rw [if_pos h0]; exact part_none f t i ver sv vals w h hf hn h0
  · rw [if_neg h0]
    obtain ⟨t1, t2⟩ := ht
    rcases (by omega : t = 1 ∨ t = 2 ∨ t = 3 ∨ t = 4 ∨ t = 5) with rfl | rfl | rfl | rfl | rfl
    · exact part_1 f i ver sv vals w h hf hn h0 hs
    · exact part_2 f i ver sv vals w h hf hn h0 hs (has (.inl rfl))
    · exact part_3 f i ver sv vals w h hf hn h0 hs
    · exact part_4 f i ver sv vals w h hf hn h0 hs
    · exact part_5 f i ver sv vals w h hf hn h0 hs (has (.inr rfl))
end Go.Proofs.YthdolmofeeniaaaGreatDoor
end
section
/- Plain: comparing arrays and encoded records; which are valid. -/
set_option linter.unusedSimpArgs false
set_option linter.unusedVariables false
namespace Go.Proofs.YthdolmofeeniaaaGreatDoor
open Go.RowKit
theorem getD_at {α : Type} (l : List α) (d : α) {i : Nat} (h : i < l.length) : l.getD i d = l[i] := by rw [List.getD, List.getElem?_eq_getElem h]; rfl
def cmp3 (x y : Int) : Int := if x < y then -1 else if y < x then 1 else 0
theorem cmp3_self (x : Int) : cmp3 x x = 0 := by unfold cmp3; simp
theorem cmp3_eq {x y : Int} (h : cmp3 x y = 0) : x = y := by
  unfold cmp3 at h
  split at h
  · simp at h
  · split at h
    · simp at h
    · omega
/-- the first that is not zero -/
def orN : List Int → Int
  | [] => 0
  | x :: l => if x = 0 then orN l else x
end Go.Proofs.YthdolmofeeniaaaGreatDoor
end
section
/- bitset.Compare, the program's; cmp.Compare, cmp.Or, slices.Compare at what it uses. -/
set_option linter.unusedSimpArgs false
set_option linter.unusedVariables false
set_option maxRecDepth 100000
namespace Go.Proofs.YthdolmofeeniaaaGreatDoor
open Go.RowKit
theorem nanU_any (x : Int) (w : World) : Calls Tryz.prog 179 #[.int .u64 x] w fun e w' => e = .returned (.bool false) ∧ w = w' := by
  have h1 : (x != x) = false := by simp
  go_enter Tryz.func179, Tryz.ntmps179
  go_wp2_with fail
  go_ret
  exact ⟨by simp, rfl⟩
theorem nanI_any (x : Int) (w : World) : Calls Tryz.prog 205 #[.int .i64 x] w fun e w' => e = .returned (.bool false) ∧ w = w' := by
  have h1 : (x != x) = false := by simp
  go_enter Tryz.func205, Tryz.ntmps205
  go_wp2_with fail
  go_ret
  exact ⟨by simp, rfl⟩
set_option maxHeartbeats 1000000 in
theorem cmpU_any (x y : Int) (w : World) : Calls Tryz.prog 120 #[.int .u64 x, .int .u64 y] w fun e w' => e = .returned (.int .i64 (cmp3 x y)) ∧ w = w' := by
  obtain ⟨c, hc⟩ : ∃ c, cmp3 x y = c := ⟨_, rfl⟩
  rw [hc]
  unfold cmp3 at hc
  go_enter Tryz.func120, Tryz.ntmps120
  go_wp2_with fail
  refine (nanU_any x _).mono ?_
  rintro e w1 ⟨rfl, rfl⟩
  go_wp2_with fail
  refine (nanU_any y _).mono ?_
  rintro e w1 ⟨rfl, rfl⟩
  by_cases h1 : x < y
  · have d1 : decide (x < y) = true := by simpa using h1
    rw [if_pos h1] at hc; subst hc
    go_wp2_with fail
    go_ret
    exact ⟨rfl, rfl⟩
  · have d1 : decide (x < y) = false := by simpa using h1
    rw [if_neg h1] at hc
    by_cases h2 : y < x
    · have d2 : decide (y < x) = true := by simpa using h2
      rw [if_pos h2] at hc; subst hc
      go_wp2_with fail
      go_ret
      exact ⟨rfl, rfl⟩
    · have d2 : decide (y < x) = false := by simpa using h2
      rw [if_neg h2] at hc; subst hc
      go_wp2_with fail
      go_ret
      exact ⟨rfl, rfl⟩
set_option maxHeartbeats 1000000 in
theorem cmpI_any (x y : Int) (w : World) : Calls Tryz.prog 143 #[.int .i64 x, .int .i64 y] w fun e w' => e = .returned (.int .i64 (cmp3 x y)) ∧ w = w' := by
  obtain ⟨c, hc⟩ : ∃ c, cmp3 x y = c := ⟨_, rfl⟩
  rw [hc]
  unfold cmp3 at hc
  go_enter Tryz.func143, Tryz.ntmps143
  go_wp2_with fail
  refine (nanI_any x _).mono ?_
  rintro e w1 ⟨rfl, rfl⟩
  go_wp2_with fail
  refine (nanI_any y _).mono ?_
  rintro e w1 ⟨rfl, rfl⟩
  by_cases h1 : x < y
  · have d1 : decide (x < y) = true := by simpa using h1
    rw [if_pos h1] at hc; subst hc
    go_wp2_with fail
    go_ret
    exact ⟨rfl, rfl⟩
  · have d1 : decide (x < y) = false := by simpa using h1
    rw [if_neg h1] at hc
    by_cases h2 : y < x
    · have d2 : decide (y < x) = true := by simpa using h2
      rw [if_pos h2] at hc; subst hc
      go_wp2_with fail
      go_ret
      exact ⟨rfl, rfl⟩
    · have d2 : decide (y < x) = false := by simpa using h2
      rw [if_neg h2] at hc; subst hc
      go_wp2_with fail
      go_ret
      exact ⟨rfl, rfl⟩
/-- numbers of a slice of ints -/
abbrev encZ (x : Int) : List Value := [.int .i64 x]
set_option maxHeartbeats 1000000 in
theorem orI_any (v : Value) (L : List Int) (w : World) (h : Vec w Any1 1 encZ v L) (hn : L.length ≤ 1000000) :
    Calls Tryz.prog 142 #[v] w fun e w' => e = .returned (.int .i64 (orN L)) ∧ w = w' := by
  obtain ⟨a, cap, rfl⟩ := h.slice
  have HV := Lib.hid h; clear h
  obtain ⟨r, hr⟩ : ∃ r, orN L = r := ⟨_, rfl⟩
  rw [hr]
  have HR := Lib.hid hr; clear hr
  go_enter Tryz.func142, Tryz.ntmps142
  go_wp2_with fail
  go_loopw [8] (fun i wr => wr = w ∧ ∃ k : Nat, i = .int .i64 k ∧ k ≤ L.length ∧ Hid (orN (L.drop k) = r)) (fun i _ => L.length - (intOf i).toNat)
  case atStart => exact ⟨rfl, 0, rfl, by omega, Lib.hid HR.out⟩
  case round =>
    obtain ⟨rfl, k, rfl, hk, HT⟩ := hrel
    by_cases hlt : k < L.length
    · have hq : decide ((k : Int) < L.length) = true := by simp; omega
      obtain ⟨b, off, rfl, hb, hc⟩ := HV.out.get k hlt
      have c0 := hc 0 _ rfl
      rw [Nat.mul_one, Nat.add_zero] at c0
      have hd := List.drop_eq_getElem_cons hlt
      have ht := HT.out
      rw [hd] at ht
      obtain ⟨x, hx⟩ : ∃ x, L[k] = x := ⟨_, rfl⟩
      rw [hx] at c0 ht
      clear HT hd hx hc
      by_cases h0 : x = 0
      · subst h0
        unfold orN at ht
        rw [if_pos rfl] at ht
        have HT := Lib.hid ht; clear ht
        have d0 : ((0 : Int) != 0) = false := rfl
        go_wp2_with fail
        go_roundw
        case rel => exact ⟨trivial, k + 1, by go_num, by omega, HT⟩
        case measure => simp [intOf]; omega
      · have d0 : (x != (0 : Int)) = true := by simpa using h0
        unfold orN at ht
        rw [if_neg h0] at ht
        subst ht
        go_wp2_with fail
        go_ret
        exact ⟨rfl, rfl⟩
    · have hq : decide ((k : Int) < L.length) = false := by simp; omega
      have ht := HT.out
      rw [List.drop_eq_nil_of_le (by omega)] at ht
      unfold orN at ht
      subst ht
      clear HT
      go_wp2_with fail
      go_ret
      exact ⟨rfl, rfl⟩
end Go.Proofs.YthdolmofeeniaaaGreatDoor
end
section
/- blocking, the program's: which components are right, their order. -/
set_option linter.unusedSimpArgs false
set_option linter.unusedVariables false
set_option maxRecDepth 100000
namespace Go.Proofs.YthdolmofeeniaaaGreatDoor
open Go.RowKit
def fitsB (t k : Int) : Bool := if t = 1 ∨ t = 3 then true else if t = 2 then decide (k = 1) else if t = 4 then decide (k = 2) else if t = 5 then decide (k = 4) else false
theorem beq_dec (x y : Int) : (x == y) = decide (x = y) := by by_cases h : x = y <;> simp [h]
set_option maxHeartbeats 2000000 in
theorem fits_any (t k : Int) (w : World) : Calls Tryz.prog 105 #[.int .i64 t, .int .i64 k] w fun e w' => e = .returned (.bool (fitsB t k)) ∧ w = w' := by
  obtain ⟨r, hr⟩ : ∃ r, fitsB t k = r := ⟨_, rfl⟩
  rw [hr]
  unfold fitsB at hr
  have b1 := beq_dec k 1; have b2 := beq_dec k 2; have b4 := beq_dec k 4
  by_cases h1 : t = 1
  · subst h1
    have hr2 : true = r := hr
    subst hr2; clear hr
    go_enter Tryz.func105, Tryz.ntmps105
    go_wp2_with fail
    go_ret
    exact ⟨rfl, rfl⟩
  by_cases h3 : t = 3
  · subst h3
    have hr2 : true = r := hr
    subst hr2; clear hr
    go_enter Tryz.func105, Tryz.ntmps105
    go_wp2_with fail
    go_ret
    exact ⟨rfl, rfl⟩
  rw [if_neg (by omega)] at hr
  have d1 : (t == (1 : Int)) = false := by simpa using h1
  have d3 : (t == (3 : Int)) = false := by simpa using h3
  by_cases h2 : t = 2
  · subst h2
    have hr2 : decide (k = 1) = r := hr
    have HR := Lib.hid (show Ending.returned (.bool (k == 1)) = .returned (.bool r) by rw [b1, hr2])
    clear hr hr2 b1 b2 b4
    go_enter Tryz.func105, Tryz.ntmps105
    go_wp2_with fail
    go_ret
    exact ⟨HR.out, rfl⟩
  rw [if_neg h2] at hr
  have d2 : (t == (2 : Int)) = false := by simpa using h2
  by_cases h4 : t = 4
  · subst h4
    have hr2 : decide (k = 2) = r := hr
    have HR := Lib.hid (show Ending.returned (.bool (k == 2)) = .returned (.bool r) by rw [b2, hr2])
    clear hr hr2 b1 b2 b4
    go_enter Tryz.func105, Tryz.ntmps105
    go_wp2_with fail
    go_ret
    exact ⟨HR.out, rfl⟩
  rw [if_neg h4] at hr
  have d4 : (t == (4 : Int)) = false := by simpa using h4
  by_cases h5 : t = 5
  · subst h5
    have hr2 : decide (k = 4) = r := hr
    have HR := Lib.hid (show Ending.returned (.bool (k == 4)) = .returned (.bool r) by rw [b4, hr2])
    clear hr hr2 b1 b2 b4
    go_enter Tryz.func105, Tryz.ntmps105
    go_wp2_with fail
    go_ret
    exact ⟨HR.out, rfl⟩
  rw [if_neg h5] at hr
  have d5 : (t == (5 : Int)) = false := by simpa using h5
  subst hr
  clear b1 b2 b4 h1 h2 h3 h4 h5
  go_enter Tryz.func105, Tryz.ntmps105
  go_wp2_with fail
  go_ret
  exact ⟨rfl, rfl⟩
set_option maxHeartbeats 4000000 in
/-- of a field that there is -/
theorem right_in (S : Nat → Prop) (vf vt vn vs : Value) (F : List F2) (f : Nat) (t : Int) (w : World) (h : Vec w S 2 encF vf F) (hf : f < F.length) (hn : F.length ≤ 1000000) :
    Calls Tryz.prog 59 #[.agg #[vf, vt, vn, vs], .agg #[.int .i64 f, .int .i64 t]] w fun e w' => e = .returned (.bool (fitsB t (F.getD f default).2)) ∧ Below w.heap.size w w' := by
  obtain ⟨a, cap, rfl⟩ := h.slice
  obtain ⟨b, off, rfl, lb, hc⟩ := h.get f hf
  have c1 := hc 1 _ rfl
  obtain ⟨kk, hk⟩ : ∃ kk, (F.getD f default).2 = kk := ⟨_, rfl⟩
  have hk2 : F[f].2 = kk := by rw [← hk, List.getD, List.getElem?_eq_getElem hf]; rfl
  rw [hk2] at c1
  rw [hk]
  have d0 : decide ((0 : Int) ≤ (f : Int)) = true := by simp
  have hfi : decide ((f : Int) < (F.length : Int)) = true := by simp; omega
  have hfi2 : (f : Int) < (F.length : Int) := by omega
  clear h hc hk hk2
  go_enter Tryz.func59, Tryz.ntmps59
  go_wp2_with fail
  refine wp_world (fun W hW => ?_)
  have hb0 : Below w.heap.size w W := by rw [hW]; exact ((Below.refl w.heap.size w).alloc (Nat.le_refl _) _).alloc (by simp) _
  have hs0 : W.heap[w.heap.size]? = some (.cells #[.slice (some ⟨b, off, none⟩) F.length cap, vt, vn, vs] 33 (0, 0)) := by rw [hW]; exact blk_old (blk_new rfl)
  have hq0 : W.heap[w.heap.size + 1]? = some (.cells #[.int .i64 f, .int .i64 t] 48 (0, 0)) := by rw [hW]; exact blk_new (by simp)
  clear hW
  have x1 := (hb0.cell (p := ⟨b, off + f * 2 + 1, none⟩) lb).trans c1
  obtain ⟨s0, s1, s2, s3⟩ := cellsS hs0; obtain ⟨q0, q1⟩ := cells2K hq0
  have HB0 := Lib.hid hb0
  clear hs0 hq0 hb0 c1
  refine wp_region_noPanic ?_
  refine wp_region_held_drew (S := (fun w' => w'.cell? ⟨w.heap.size, 0, none⟩ = some (.slice (some ⟨b, off, none⟩) F.length cap) ∧ w'.cell? ⟨w.heap.size + 1, 0, none⟩ = some (.int .i64 f) ∧ w'.cell? ⟨w.heap.size + 1, 1, none⟩ = some (.int .i64 t) ∧ w'.cell? ⟨b, off + f * 2 + 1, none⟩ = some (.int .i64 kk))) (by kernel_rfl) (⟨s0, q0, q1, x1⟩) (fun hHeld => ?_)
  refine wpAnyH_take (i := 0) (v := ?_) rfl (by kernel_rfl) (by kernel_rfl) (by kernel_rfl) (fun _ _ _ h => h) (Or.inl ⟨by rfl, ?_⟩) (by assumption) ?_
  rotate_left 1
  · (intro wS hSw; (try dsimp only at hSw); go_simp; try with_reducible rfl)
  try simp only [List.getElem_toArray, List.getElem_cons_zero, List.getElem_cons_succ, Act.put, List.setIfInBounds_toArray, List.set_cons_zero, List.set_cons_succ]
  refine wpAnyH_take (i := 1) (v := ?_) rfl (by kernel_rfl) (by kernel_rfl) (by kernel_rfl) (fun _ _ _ h => h) (Or.inl ⟨by rfl, ?_⟩) (by assumption) ?_
  rotate_left 1
  · (intro wS hSw; (try dsimp only at hSw); go_simp; try with_reducible rfl)
  try simp only [List.getElem_toArray, List.getElem_cons_zero, List.getElem_cons_succ, Act.put, List.setIfInBounds_toArray, List.set_cons_zero, List.set_cons_succ]
  refine wpAnyH_take (i := 2) (v := ?_) rfl (by kernel_rfl) (by kernel_rfl) (by kernel_rfl) (fun _ _ _ h => h) (Or.inl ⟨by rfl, ?_⟩) (by assumption) ?_
  rotate_left 1
  · (intro wS hSw; (try dsimp only at hSw); go_simp; try with_reducible rfl)
  try simp only [List.getElem_toArray, List.getElem_cons_zero, List.getElem_cons_succ, Act.put, List.setIfInBounds_toArray, List.set_cons_zero, List.set_cons_succ]
  refine wpAnyH_take (i := 3) (v := ?_) rfl (by kernel_rfl) (by kernel_rfl) (by kernel_rfl) (fun _ _ _ h => h) (Or.inl ⟨by rfl, ?_⟩) (by assumption) ?_
  rotate_left 1
  · (intro wS hSw; (try dsimp only at hSw); go_simp; try with_reducible rfl)
  try simp only [List.getElem_toArray, List.getElem_cons_zero, List.getElem_cons_succ, Act.put, List.setIfInBounds_toArray, List.set_cons_zero, List.set_cons_succ]
  refine wpAnyH_take (i := 4) (v := ?_) rfl (by kernel_rfl) (by kernel_rfl) (by kernel_rfl) (fun _ _ _ h => h) (Or.inl ⟨by rfl, ?_⟩) (by assumption) ?_
  rotate_left 1
  · (intro wS hSw; (try dsimp only at hSw); go_simp; try with_reducible rfl)
  try simp only [List.getElem_toArray, List.getElem_cons_zero, List.getElem_cons_succ, Act.put, List.setIfInBounds_toArray, List.set_cons_zero, List.set_cons_succ]
  refine wpAnyH_take (i := 5) (v := ?_) rfl (by kernel_rfl) (by kernel_rfl) (by kernel_rfl) (fun _ _ _ h => h) (Or.inl ⟨by rfl, ?_⟩) (by assumption) ?_
  rotate_left 1
  · (intro wS hSw; (try dsimp only at hSw); go_simp; try with_reducible rfl)
  try simp only [List.getElem_toArray, List.getElem_cons_zero, List.getElem_cons_succ, Act.put, List.setIfInBounds_toArray, List.set_cons_zero, List.set_cons_succ]
  refine wpAnyH_take (i := 6) (v := ?_) rfl (by kernel_rfl) (by kernel_rfl) (by kernel_rfl) (fun _ _ _ h => h) (Or.inl ⟨by rfl, ?_⟩) (by assumption) ?_
  rotate_left 1
  · (intro wS hSw; (try dsimp only at hSw); go_simp; try with_reducible rfl)
  try simp only [List.getElem_toArray, List.getElem_cons_zero, List.getElem_cons_succ, Act.put, List.setIfInBounds_toArray, List.set_cons_zero, List.set_cons_succ]
  refine wpAnyH_take (i := 7) (v := ?_) rfl (by kernel_rfl) (by kernel_rfl) (by kernel_rfl) (fun _ _ _ h => h) (Or.inl ⟨by rfl, ?_⟩) (by assumption) ?_
  rotate_left 1
  · (intro wS hSw; (try dsimp only at hSw); go_simp; try with_reducible rfl)
  try simp only [List.getElem_toArray, List.getElem_cons_zero, List.getElem_cons_succ, Act.put, List.setIfInBounds_toArray, List.set_cons_zero, List.set_cons_succ]
  refine wpAnyH_take (i := 8) (v := ?_) rfl (by kernel_rfl) (by kernel_rfl) (by kernel_rfl) (fun _ _ _ h => h) (Or.inl ⟨by rfl, ?_⟩) (by assumption) ?_
  rotate_left 1
  · (intro wS hSw; (try dsimp only at hSw); go_simp; try with_reducible rfl)
  try simp only [List.getElem_toArray, List.getElem_cons_zero, List.getElem_cons_succ, Act.put, List.setIfInBounds_toArray, List.set_cons_zero, List.set_cons_succ]
  refine wpAnyH_take (i := 9) (v := ?_) rfl (by kernel_rfl) (by kernel_rfl) (by kernel_rfl) (fun _ _ _ h => h) (Or.inl ⟨by rfl, ?_⟩) (by assumption) ?_
  rotate_left 1
  · (intro wS hSw; (try dsimp only at hSw); go_simp; try with_reducible rfl)
  try simp only [List.getElem_toArray, List.getElem_cons_zero, List.getElem_cons_succ, Act.put, List.setIfInBounds_toArray, List.set_cons_zero, List.set_cons_succ]
  refine wpAnyH_take (i := 10) (v := ?_) rfl (by kernel_rfl) (by kernel_rfl) (by kernel_rfl) (fun _ _ _ h => h) (Or.inl ⟨by rfl, ?_⟩) (by assumption) ?_
  rotate_left 1
  · (intro wS hSw; (try dsimp only at hSw); go_simp; try with_reducible rfl)
  try simp only [List.getElem_toArray, List.getElem_cons_zero, List.getElem_cons_succ, Act.put, List.setIfInBounds_toArray, List.set_cons_zero, List.set_cons_succ]
  refine wpAnyH_take (i := 11) (v := ?_) rfl (by kernel_rfl) (by kernel_rfl) (by kernel_rfl) (fun _ _ _ h => h) (Or.inl ⟨by rfl, ?_⟩) (by assumption) ?_
  rotate_left 1
  · (intro wS hSw; (try dsimp only at hSw); go_simp; try with_reducible rfl)
  try simp only [List.getElem_toArray, List.getElem_cons_zero, List.getElem_cons_succ, Act.put, List.setIfInBounds_toArray, List.set_cons_zero, List.set_cons_succ]
  refine wpAnyH_take (i := 12) (v := ?_) rfl (by kernel_rfl) (by kernel_rfl) (by kernel_rfl) (fun _ _ _ h => h) (Or.inl ⟨by rfl, ?_⟩) (by assumption) ?_
  rotate_left 1
  · (intro wS hSw; (try dsimp only at hSw); go_simp; try with_reducible rfl)
  try simp only [List.getElem_toArray, List.getElem_cons_zero, List.getElem_cons_succ, Act.put, List.setIfInBounds_toArray, List.set_cons_zero, List.set_cons_succ]
  refine wpAnyH_take (i := 13) (v := ?_) rfl (by kernel_rfl) (by kernel_rfl) (by kernel_rfl) (fun _ _ _ h => h) (Or.inl ⟨by rfl, ?_⟩) (by assumption) ?_
  rotate_left 1
  · (intro wS hSw; (try dsimp only at hSw); go_simp; try with_reducible rfl)
  try simp only [List.getElem_toArray, List.getElem_cons_zero, List.getElem_cons_succ, Act.put, List.setIfInBounds_toArray, List.set_cons_zero, List.set_cons_succ]
  refine wpAnyH_take (i := 14) (v := ?_) rfl (by kernel_rfl) (by kernel_rfl) (by kernel_rfl) (fun _ _ _ h => h) (Or.inl ⟨by rfl, ?_⟩) (by assumption) ?_
  rotate_left 1
  · (intro wS hSw; (try dsimp only at hSw); go_simp; try with_reducible rfl)
  try simp only [List.getElem_toArray, List.getElem_cons_zero, List.getElem_cons_succ, Act.put, List.setIfInBounds_toArray, List.set_cons_zero, List.set_cons_succ]
  refine wpAnyH_take (i := 15) (v := ?_) rfl (by kernel_rfl) (by kernel_rfl) (by kernel_rfl) (fun _ _ _ h => h) (Or.inl ⟨by rfl, ?_⟩) (by assumption) ?_
  rotate_left 1
  · (intro wS hSw; (try dsimp only at hSw); go_simp; try with_reducible rfl)
  try simp only [List.getElem_toArray, List.getElem_cons_zero, List.getElem_cons_succ, Act.put, List.setIfInBounds_toArray, List.set_cons_zero, List.set_cons_succ]
  refine wpAnyH_take (i := 16) (v := ?_) rfl (by kernel_rfl) (by kernel_rfl) (by kernel_rfl) (fun _ _ _ h => h) (Or.inl ⟨by rfl, ?_⟩) (by assumption) ?_
  rotate_left 1
  · (intro wS hSw; (try dsimp only at hSw); go_simp; try with_reducible rfl)
  try simp only [List.getElem_toArray, List.getElem_cons_zero, List.getElem_cons_succ, Act.put, List.setIfInBounds_toArray, List.set_cons_zero, List.set_cons_succ]
  refine wpAnyH_take (i := 17) (v := ?_) rfl (by kernel_rfl) (by kernel_rfl) (by kernel_rfl) (fun _ _ _ h => h) (Or.inl ⟨by rfl, ?_⟩) (by assumption) ?_
  rotate_left 1
  · (intro wS hSw; (try dsimp only at hSw); go_simp; try with_reducible rfl)
  try simp only [List.getElem_toArray, List.getElem_cons_zero, List.getElem_cons_succ, Act.put, List.setIfInBounds_toArray, List.set_cons_zero, List.set_cons_succ]
  refine wpAnyH_take (i := 18) (v := ?_) rfl (by kernel_rfl) (by kernel_rfl) (by kernel_rfl) (fun _ _ _ h => h) (Or.inl ⟨by rfl, ?_⟩) (by assumption) ?_
  rotate_left 1
  · (intro wS hSw; (try dsimp only at hSw); go_simp; try with_reducible rfl)
  try simp only [List.getElem_toArray, List.getElem_cons_zero, List.getElem_cons_succ, Act.put, List.setIfInBounds_toArray, List.set_cons_zero, List.set_cons_succ]
  refine wpAnyH_take (i := 19) (v := ?_) rfl (by kernel_rfl) (by kernel_rfl) (by kernel_rfl) (fun _ _ _ h => h) (Or.inl ⟨by rfl, ?_⟩) (by assumption) ?_
  rotate_left 1
  · (intro wS hSw; (try dsimp only at hSw); go_simp; try with_reducible rfl)
  try simp only [List.getElem_toArray, List.getElem_cons_zero, List.getElem_cons_succ, Act.put, List.setIfInBounds_toArray, List.set_cons_zero, List.set_cons_succ]
  refine wpAnyH_take (i := 20) (v := ?_) rfl (by kernel_rfl) (by kernel_rfl) (by kernel_rfl) (fun _ _ _ h => h) (Or.inl ⟨by rfl, ?_⟩) (by assumption) ?_
  rotate_left 1
  · (intro wS hSw; (try dsimp only at hSw); go_simp; try with_reducible rfl)
  try simp only [List.getElem_toArray, List.getElem_cons_zero, List.getElem_cons_succ, Act.put, List.setIfInBounds_toArray, List.set_cons_zero, List.set_cons_succ]
  refine wpAnyH_ready (rs := [21]) (by kernel_rfl) (by simp) ?_
  refine AllReadyH.cons rfl (fun K hK => ?_) AllReadyH.nil
  go_simp
  refine (fits_any _ _ _).mono ?_; rintro e wq ⟨rfl, rfl⟩
  refine hK.out _ _ (⟨s0, q0, q1, x1⟩) (fun hHeld => ?_)
  clear hK K
  try simp only [List.getElem_toArray, List.getElem_cons_zero, List.getElem_cons_succ, Act.put, List.setIfInBounds_toArray, List.set_cons_zero, List.set_cons_succ]
  refine wpAnyH_take (i := 22) (v := ?_) rfl (by kernel_rfl) (by kernel_rfl) (by kernel_rfl) (fun _ _ _ h => h) (Or.inl ⟨by rfl, ?_⟩) (by assumption) ?_
  rotate_left 1
  · (intro wS hSw; (try dsimp only at hSw); go_simp; try with_reducible rfl)
  try simp only [List.getElem_toArray, List.getElem_cons_zero, List.getElem_cons_succ, Act.put, List.setIfInBounds_toArray, List.set_cons_zero, List.set_cons_succ]
  refine wpAnyH_take (i := 23) (v := ?_) rfl (by kernel_rfl) (by kernel_rfl) (by kernel_rfl) (fun _ _ _ h => h) (Or.inl ⟨by rfl, ?_⟩) (by assumption) ?_
  rotate_left 1
  · (intro wS hSw; (try dsimp only at hSw); go_simp; try with_reducible rfl)
  try simp only [List.getElem_toArray, List.getElem_cons_zero, List.getElem_cons_succ, Act.put, List.setIfInBounds_toArray, List.set_cons_zero, List.set_cons_succ]
  refine wpAnyH_done (by kernel_rfl) ?_ _
  refine NoPanic.normal ?_
  go_wp2_with fail
  go_ret
  exact ⟨rfl, HB0.out.drew⟩
def orderC (a b : Int × Int) : Int := orN [cmp3 a.1 b.1, cmp3 a.2 b.2]
set_option maxHeartbeats 4000000 in
theorem order_any (a b : Int × Int) (w : World) :
    Calls Tryz.prog 115 #[.agg #[.int .i64 a.1, .int .i64 a.2], .agg #[.int .i64 b.1, .int .i64 b.2]] w fun e w' => e = .returned (.int .i64 (orderC a b)) ∧ Below w.heap.size w w' := by
  obtain ⟨x, hx⟩ : ∃ x, cmp3 a.1 b.1 = x := ⟨_, rfl⟩
  obtain ⟨y, hy⟩ : ∃ y, cmp3 a.2 b.2 = y := ⟨_, rfl⟩
  obtain ⟨r, hr⟩ : ∃ r, orderC a b = r := ⟨_, rfl⟩
  have hr2 : orN [x, y] = r := by rw [← hr, ← hx, ← hy]; rfl
  rw [hr]
  have HX := Lib.hid hx; have HY := Lib.hid hy; have HR := Lib.hid hr2
  clear hx hy hr hr2
  go_enter Tryz.func115, Tryz.ntmps115
  go_wp2_with fail
  refine wp_world (fun W hW => ?_)
  have hb0 : Below w.heap.size w W := by rw [hW]; exact ((Below.refl w.heap.size w).alloc (Nat.le_refl _) _).alloc (by simp) _
  have ha0 : W.heap[w.heap.size]? = some (.cells #[.int .i64 a.1, .int .i64 a.2] 48 (0, 0)) := by rw [hW]; exact blk_old (blk_new rfl)
  have he0 : W.heap[w.heap.size + 1]? = some (.cells #[.int .i64 b.1, .int .i64 b.2] 48 (0, 0)) := by rw [hW]; exact blk_new (by simp)
  clear hW
  have HB0 := Lib.hid hb0
  obtain ⟨a0, a1⟩ := cells2K ha0; obtain ⟨b0, b1⟩ := cells2K he0
  have hwz := lt_of_blk he0
  clear ha0 he0 hb0
  refine wp_region_noPanic ?_
  refine wp_region_held_drew (S := (fun w' => w'.cell? ⟨w.heap.size, 0, none⟩ = some (.int .i64 a.1) ∧ w'.cell? ⟨w.heap.size, 1, none⟩ = some (.int .i64 a.2) ∧ w'.cell? ⟨w.heap.size + 1, 0, none⟩ = some (.int .i64 b.1) ∧ w'.cell? ⟨w.heap.size + 1, 1, none⟩ = some (.int .i64 b.2))) (by kernel_rfl) (⟨a0, a1, b0, b1⟩) (fun hHeld => ?_)
  refine wpAnyH_take (i := 0) (v := ?_) rfl (by kernel_rfl) (by kernel_rfl) (by kernel_rfl) (fun _ _ _ h => h) (Or.inl ⟨by rfl, ?_⟩) (by assumption) ?_
  rotate_left 1
  · (intro wS hSw; (try dsimp only at hSw); go_simp; try with_reducible rfl)
  try simp only [List.getElem_toArray, List.getElem_cons_zero, List.getElem_cons_succ, Act.put, List.setIfInBounds_toArray, List.set_cons_zero, List.set_cons_succ]
  refine wpAnyH_take (i := 1) (v := ?_) rfl (by kernel_rfl) (by kernel_rfl) (by kernel_rfl) (fun _ _ _ h => h) (Or.inl ⟨by rfl, ?_⟩) (by assumption) ?_
  rotate_left 1
  · (intro wS hSw; (try dsimp only at hSw); go_simp; try with_reducible rfl)
  try simp only [List.getElem_toArray, List.getElem_cons_zero, List.getElem_cons_succ, Act.put, List.setIfInBounds_toArray, List.set_cons_zero, List.set_cons_succ]
  refine wpAnyH_take (i := 2) (v := ?_) rfl (by kernel_rfl) (by kernel_rfl) (by kernel_rfl) (fun _ _ _ h => h) (Or.inl ⟨by rfl, ?_⟩) (by assumption) ?_
  rotate_left 1
  · (intro wS hSw; (try dsimp only at hSw); go_simp; try with_reducible rfl)
  try simp only [List.getElem_toArray, List.getElem_cons_zero, List.getElem_cons_succ, Act.put, List.setIfInBounds_toArray, List.set_cons_zero, List.set_cons_succ]
  refine wpAnyH_take (i := 3) (v := ?_) rfl (by kernel_rfl) (by kernel_rfl) (by kernel_rfl) (fun _ _ _ h => h) (Or.inl ⟨by rfl, ?_⟩) (by assumption) ?_
  rotate_left 1
  · (intro wS hSw; (try dsimp only at hSw); go_simp; try with_reducible rfl)
  try simp only [List.getElem_toArray, List.getElem_cons_zero, List.getElem_cons_succ, Act.put, List.setIfInBounds_toArray, List.set_cons_zero, List.set_cons_succ]
  refine wpAnyH_take (i := 5) (v := ?_) rfl (by kernel_rfl) (by kernel_rfl) (by kernel_rfl) (fun _ _ _ h => h) (Or.inl ⟨by rfl, ?_⟩) (by assumption) ?_
  rotate_left 1
  · (intro wS hSw; (try dsimp only at hSw); go_simp; try with_reducible rfl)
  try simp only [List.getElem_toArray, List.getElem_cons_zero, List.getElem_cons_succ, Act.put, List.setIfInBounds_toArray, List.set_cons_zero, List.set_cons_succ]
  refine wpAnyH_take (i := 6) (v := ?_) rfl (by kernel_rfl) (by kernel_rfl) (by kernel_rfl) (fun _ _ _ h => h) (Or.inl ⟨by rfl, ?_⟩) (by assumption) ?_
  rotate_left 1
  · (intro wS hSw; (try dsimp only at hSw); go_simp; try with_reducible rfl)
  try simp only [List.getElem_toArray, List.getElem_cons_zero, List.getElem_cons_succ, Act.put, List.setIfInBounds_toArray, List.set_cons_zero, List.set_cons_succ]
  refine wpAnyH_take (i := 7) (v := ?_) rfl (by kernel_rfl) (by kernel_rfl) (by kernel_rfl) (fun _ _ _ h => h) (Or.inl ⟨by rfl, ?_⟩) (by assumption) ?_
  rotate_left 1
  · (intro wS hSw; (try dsimp only at hSw); go_simp; try with_reducible rfl)
  try simp only [List.getElem_toArray, List.getElem_cons_zero, List.getElem_cons_succ, Act.put, List.setIfInBounds_toArray, List.set_cons_zero, List.set_cons_succ]
  refine wpAnyH_take (i := 8) (v := ?_) rfl (by kernel_rfl) (by kernel_rfl) (by kernel_rfl) (fun _ _ _ h => h) (Or.inl ⟨by rfl, ?_⟩) (by assumption) ?_
  rotate_left 1
  · (intro wS hSw; (try dsimp only at hSw); go_simp; try with_reducible rfl)
  try simp only [List.getElem_toArray, List.getElem_cons_zero, List.getElem_cons_succ, Act.put, List.setIfInBounds_toArray, List.set_cons_zero, List.set_cons_succ]
  refine wpAnyH_ready (rs := [4]) (by kernel_rfl) (by simp) ?_
  refine AllReadyH.cons rfl (fun K hK => ?_) AllReadyH.nil
  go_simp
  refine (cmpI_any _ _ _).mono ?_; rw [HX.out]; rintro e w1 ⟨rfl, rfl⟩
  refine hK.out _ _ (⟨a0, a1, b0, b1⟩) (fun hHeld => ?_)
  clear hK K
  try simp only [List.getElem_toArray, List.getElem_cons_zero, List.getElem_cons_succ, Act.put, List.setIfInBounds_toArray, List.set_cons_zero, List.set_cons_succ]
  refine wpAnyH_ready (rs := [9]) (by kernel_rfl) (by simp) ?_
  refine AllReadyH.cons rfl (fun K hK => ?_) AllReadyH.nil
  go_simp
  refine (cmpI_any _ _ _).mono ?_; rw [HY.out]; rintro e w1 ⟨rfl, rfl⟩
  refine hK.out _ _ (⟨a0, a1, b0, b1⟩) (fun hHeld => ?_)
  clear hK K
  try simp only [List.getElem_toArray, List.getElem_cons_zero, List.getElem_cons_succ, Act.put, List.setIfInBounds_toArray, List.set_cons_zero, List.set_cons_succ]
  refine wpAnyH_ready (rs := [10]) (by kernel_rfl) (by simp) ?_
  refine AllReadyH.cons rfl (fun K hK => ?_) AllReadyH.nil
  go_simp
  refine hK.out _ _ (⟨((Below.refl W.heap.size W).drew.alloc (Nat.le_refl _) _).cell (p := ⟨w.heap.size, 0, none⟩) (by show w.heap.size < _; omega) |>.trans a0, ((Below.refl W.heap.size W).drew.alloc (Nat.le_refl _) _).cell (p := ⟨w.heap.size, 1, none⟩) (by show w.heap.size < _; omega) |>.trans a1, ((Below.refl W.heap.size W).drew.alloc (Nat.le_refl _) _).cell (p := ⟨w.heap.size + 1, 0, none⟩) hwz |>.trans b0, ((Below.refl W.heap.size W).drew.alloc (Nat.le_refl _) _).cell (p := ⟨w.heap.size + 1, 1, none⟩) hwz |>.trans b1⟩) (fun hHeld => ?_)
  clear hK K
  try simp only [List.getElem_toArray, List.getElem_cons_zero, List.getElem_cons_succ, Act.put, List.setIfInBounds_toArray, List.set_cons_zero, List.set_cons_succ]
  refine wph_name (fun W1 hW1 => ?_)
  have hb1 : Below w.heap.size w W1 := by rw [hW1]; exact HB0.out.drew.alloc (by have := HB0.out.size; simpa using this) _
  have hv1 : Vec W1 Any1 1 encZ (.slice (some ⟨W.heap.size, 0, none⟩) 2 2) [x, y] := by rw [hW1]; exact blockVec (k := 1) (enc := encZ) (L := [x, y]) (S := Any1) (A := W.heap.size) (fun _ => rfl) (blk_new rfl) trivial 2 rfl
  have hHeld2 := hHeld
  rw [← hW1] at hHeld2
  clear hHeld hW1
  have hHeld := hHeld2; clear hHeld2
  have HV1 := Lib.hid hv1; have HB1 := Lib.hid hb1
  clear hv1 hb1
  refine wpAnyH_ready (rs := [11]) (by kernel_rfl) (by simp) ?_
  refine AllReadyH.cons rfl (fun K hK => ?_) AllReadyH.nil
  go_simp
  refine (orI_any _ [x, y] _ HV1.out (by simp)).mono ?_; rw [HR.out]; rintro e w1 ⟨rfl, rfl⟩
  refine hK.out _ _ (hHeld) (fun hHeld => ?_)
  clear hK K
  try simp only [List.getElem_toArray, List.getElem_cons_zero, List.getElem_cons_succ, Act.put, List.setIfInBounds_toArray, List.set_cons_zero, List.set_cons_succ]
  refine wpAnyH_take (i := 12) (v := ?_) rfl (by kernel_rfl) (by kernel_rfl) (by kernel_rfl) (fun _ _ _ h => h) (Or.inl ⟨by rfl, ?_⟩) (by assumption) ?_
  rotate_left 1
  · (intro wS hSw; (try dsimp only at hSw); go_simp; try with_reducible rfl)
  try simp only [List.getElem_toArray, List.getElem_cons_zero, List.getElem_cons_succ, Act.put, List.setIfInBounds_toArray, List.set_cons_zero, List.set_cons_succ]
  refine wpAnyH_done (by kernel_rfl) ?_ _
  refine NoPanic.normal ?_
  go_wp2_with fail
  go_ret
  exact ⟨rfl, HB1.out⟩
end Go.Proofs.YthdolmofeeniaaaGreatDoor
end
section
/- blocking, the program's: key, Check, check of valid block keys. -/
set_option linter.unusedSimpArgs false
set_option linter.unusedVariables false
set_option maxRecDepth 100000
namespace Go.Proofs.YthdolmofeeniaaaGreatDoor
open Go.RowKit
/-- the cells of a component -/
abbrev encC (c : Int × Int) : List Value := [.int .i64 c.1, .int .i64 c.2]
structure KeyOk (F : List F2) (K : List (Int × Int)) : Prop where
  len1 : 1 ≤ K.length
  len2 : K.length ≤ 3
  fit : ∀ c ∈ K, 0 ≤ c.1 ∧ c.1 < F.length ∧ fitsB c.2 (F.getD c.1.toNat default).2 = true
  asc : ∀ i, i + 1 < K.length → orderC (K.getD i (0, 0)) (K.getD (i + 1) (0, 0)) < 0
set_option maxHeartbeats 8000000 in
theorem bkey_yes (S T : Nat → Prop) (vf vt vn vs kv : Value) (F : List F2) (K : List (Int × Int)) (w : World) (h : Vec w S 2 encF vf F) (hk : Vec w T 2 encC kv K) (hn : F.length ≤ 1000000) (ok : KeyOk F K) :
    Calls Tryz.prog 65 #[.agg #[vf, vt, vn, vs], .agg #[kv]] w fun e w' => e = .returned (.int .i64 0) ∧ Below w.heap.size w w' := by
  obtain ⟨ak, ck, rfl⟩ := hk.slice
  have HF := Lib.hid h; have HK := Lib.hid hk; have HOk := Lib.hid ok
  have l1 := ok.len1; have l2 := ok.len2
  have d1 : decide ((K.length : Int) < 1) = false := by simp; omega
  have d2 : decide ((3 : Int) < (K.length : Int)) = false := by simp; omega
  clear h hk ok
  go_enter Tryz.func65, Tryz.ntmps65
  go_wp2_with fail
  refine wp_world (fun W hW => ?_)
  have hb0 : Below w.heap.size w W := by rw [hW]; exact ((Below.refl w.heap.size w).alloc (Nat.le_refl _) _).alloc (by simp) _
  have hs0 : W.heap[w.heap.size]? = some (.cells #[vf, vt, vn, vs] 33 (0, 0)) := by rw [hW]; exact blk_old (blk_new rfl)
  have hq0 : W.heap[w.heap.size + 1]? = some (.cells #[.slice ak K.length ck] 46 (0, 0)) := by rw [hW]; exact blk_new (by simp)
  clear hW
  have HB0 := Lib.hid hb0; have HS0 := Lib.hid hs0; have HQ0 := Lib.hid hq0
  clear hb0 hs0 hq0 d1 d2
  go_loopw [20] (fun i wr => ∃ j : Nat, i = .int .i64 j ∧ j ≤ K.length ∧ Below W.heap.size W wr) (fun i _ => K.length - (intOf i).toNat)
  case atStart => exact ⟨0, rfl, by omega, Below.refl _ _⟩
  case round =>
    obtain ⟨j, rfl, hj, hbw⟩ := hrel
    have HBW := Lib.hid hbw
    by_cases hlt : j < K.length
    · have hq : decide ((j : Int) < (K.length : Int)) = true := by simp; omega
      have hji : (j : Int) < (K.length : Int) := by omega
      have hbw0 := HB0.out.trans (hbw.mono HB0.out.size)
      obtain ⟨b, off, rfl, lb, hc⟩ := (HK.out.below hbw0).get j hlt
      have c0 := hc 0 _ rfl; have c1 := hc 1 _ rfl
      obtain ⟨⟨f, t⟩, hx⟩ : ∃ x, K[j] = x := ⟨_, rfl⟩
      have hfit := HOk.out.fit K[j] (List.getElem_mem hlt)
      rw [hx] at c0 c1 hfit
      obtain ⟨hf0, hfF, hft⟩ := hfit
      dsimp only at c0 c1 hf0 hfF hft
      rw [Nat.add_zero] at c0
      obtain ⟨fn, rfl⟩ : ∃ fn : Nat, f = fn := ⟨f.toNat, by omega⟩
      have hft2 : fitsB t (F.getD fn default).2 = true := hft
      have HFT := Lib.hid hft2
      have hs1 := blk_below hbw (lt_of_blk HS0.out) HS0.out; have hq1 := blk_below hbw (lt_of_blk HQ0.out) HQ0.out
      clear hbw hc hft hft2
      go_wp2_with fail
      refine wp_world (fun Wc hWc => ?_)
      have hbc : Below wr.heap.size wr Wc := by rw [hWc]; exact (Below.refl wr.heap.size wr).alloc (Nat.le_refl _) _
      have hc0 : Wc.heap[wr.heap.size]? = some (.cells #[.int .i64 fn, .int .i64 t] 48 (0, 0)) := by rw [hWc]; exact blk_new rfl
      clear hWc
      have hs2 := blk_below hbc (lt_of_blk hs1) hs1; have hq2 := blk_below hbc (lt_of_blk hq1) hq1
      obtain ⟨s0, s1, s2, s3⟩ := cellsS hs2; obtain ⟨k0, k1⟩ := cells2K hc0
      have q0 : Wc.cell? ⟨w.heap.size + 1, 0, none⟩ = some (.slice (some ⟨b, off, none⟩) K.length ck) := by rw [cell_of_row _ _ _ _ _ _ hq2]; rfl
      have ls := lt_of_blk hs2; have lq := lt_of_blk hq2; have lc := lt_of_blk hc0
      have HFC := Lib.hid (HF.out.below (hbw0.trans (hbc.mono hbw0.size)))
      have HBC := Lib.hid hbc
      have bD : Below Wc.heap.size Wc Wc.drew := (Below.refl _ _).drew
      by_cases hj0 : j = 0
      · have g0 : decide ((0 : Int) < (j : Int)) = false := by simp; omega
        have g0n : decide (0 < j) = false := by simp; omega
        clear hs1 hq1 hc0 hs2 hq2 hbc c0 c1 hj0
        refine wp_region_noPanic ?_
        refine wp_region_held_drew (S := (fun w' => w'.cell? ⟨w.heap.size, 0, none⟩ = some (vf) ∧ w'.cell? ⟨w.heap.size, 1, none⟩ = some (vt) ∧ w'.cell? ⟨w.heap.size, 2, none⟩ = some (vn) ∧ w'.cell? ⟨w.heap.size, 3, none⟩ = some (vs) ∧ w'.cell? ⟨w.heap.size + 1, 0, none⟩ = some (.slice (some ⟨b, off, none⟩) K.length ck) ∧ w'.cell? ⟨wr.heap.size, 0, none⟩ = some (.int .i64 fn) ∧ w'.cell? ⟨wr.heap.size, 1, none⟩ = some (.int .i64 t))) (by kernel_rfl) (⟨s0, s1, s2, s3, q0, k0, k1⟩) (fun hHeld => ?_)
        refine wpAnyH_take (i := 0) (v := ?_) rfl (by kernel_rfl) (by kernel_rfl) (by kernel_rfl) (fun _ _ _ h => h) (Or.inl ⟨by rfl, ?_⟩) (by assumption) ?_
        rotate_left 1
        · (intro wS hSw; (try dsimp only at hSw); go_simp; try with_reducible rfl)
        try simp only [List.getElem_toArray, List.getElem_cons_zero, List.getElem_cons_succ, Act.put, List.setIfInBounds_toArray, List.set_cons_zero, List.set_cons_succ]
        refine wpAnyH_take (i := 1) (v := ?_) rfl (by kernel_rfl) (by kernel_rfl) (by kernel_rfl) (fun _ _ _ h => h) (Or.inl ⟨by rfl, ?_⟩) (by assumption) ?_
        rotate_left 1
        · (intro wS hSw; (try dsimp only at hSw); go_simp; try with_reducible rfl)
        try simp only [List.getElem_toArray, List.getElem_cons_zero, List.getElem_cons_succ, Act.put, List.setIfInBounds_toArray, List.set_cons_zero, List.set_cons_succ]
        refine wpAnyH_ready (rs := [2]) (by kernel_rfl) (by simp) ?_
        refine AllReadyH.cons rfl (fun K hK => ?_) AllReadyH.nil
        go_simp
        refine (right_in S _ _ _ _ F fn t _ (HFC.out.below bD) (by omega) hn).mono ?_; rw [HFT.out]; rintro e w2 ⟨rfl, hb⟩; have b2 := bD.trans hb; clear hb
        refine hK.out _ _ (⟨(b2.cell (p := ⟨w.heap.size, 0, none⟩) ls).trans s0, (b2.cell (p := ⟨w.heap.size, 1, none⟩) ls).trans s1, (b2.cell (p := ⟨w.heap.size, 2, none⟩) ls).trans s2, (b2.cell (p := ⟨w.heap.size, 3, none⟩) ls).trans s3, (b2.cell (p := ⟨w.heap.size + 1, 0, none⟩) lq).trans q0, (b2.cell (p := ⟨wr.heap.size, 0, none⟩) lc).trans k0, (b2.cell (p := ⟨wr.heap.size, 1, none⟩) lc).trans k1⟩) (fun hHeld => ?_)
        clear hK K
        try simp only [List.getElem_toArray, List.getElem_cons_zero, List.getElem_cons_succ, Act.put, List.setIfInBounds_toArray, List.set_cons_zero, List.set_cons_succ]
        refine wpAnyH_take (i := 3) (v := ?_) rfl (by kernel_rfl) (by kernel_rfl) (by kernel_rfl) (fun _ _ _ h => h) (Or.inl ⟨by rfl, ?_⟩) (by assumption) ?_
        rotate_left 1
        · (intro wS hSw; (try dsimp only at hSw); go_simp; try with_reducible rfl)
        try simp only [List.getElem_toArray, List.getElem_cons_zero, List.getElem_cons_succ, Act.put, List.setIfInBounds_toArray, List.set_cons_zero, List.set_cons_succ]
        refine wpAnyH_take (i := 4) (v := ?_) rfl (by kernel_rfl) (by kernel_rfl) (by kernel_rfl) (fun _ _ _ h => h) (Or.inl ⟨by rfl, ?_⟩) (by assumption) ?_
        rotate_left 1
        · (intro wS hSw; (try dsimp only at hSw); go_simp; try with_reducible rfl)
        try simp only [List.getElem_toArray, List.getElem_cons_zero, List.getElem_cons_succ, Act.put, List.setIfInBounds_toArray, List.set_cons_zero, List.set_cons_succ]
        refine wpAnyH_take (i := 5) (v := ?_) rfl (by kernel_rfl) (by kernel_rfl) (by kernel_rfl) (fun _ _ _ h => h) (Or.inl ⟨by rfl, ?_⟩) (by assumption) ?_
        rotate_left 1
        · (intro wS hSw; (try dsimp only at hSw); go_simp; try with_reducible rfl)
        try simp only [List.getElem_toArray, List.getElem_cons_zero, List.getElem_cons_succ, Act.put, List.setIfInBounds_toArray, List.set_cons_zero, List.set_cons_succ]
        refine wpAnyH_take (i := 6) (v := ?_) rfl (by kernel_rfl) (by kernel_rfl) (by kernel_rfl) (fun _ _ _ h => h) (Or.inl ⟨by rfl, ?_⟩) (by assumption) ?_
        rotate_left 1
        · (intro wS hSw; (try dsimp only at hSw); go_simp; try with_reducible rfl)
        try simp only [List.getElem_toArray, List.getElem_cons_zero, List.getElem_cons_succ, Act.put, List.setIfInBounds_toArray, List.set_cons_zero, List.set_cons_succ]
        refine wpAnyH_take (i := 7) (v := ?_) rfl (by kernel_rfl) (by kernel_rfl) (by kernel_rfl) (fun _ _ _ h => h) (Or.inl ⟨by rfl, ?_⟩) (by assumption) ?_
        rotate_left 1
        · (intro wS hSw; (try dsimp only at hSw); go_simp; try with_reducible rfl)
        try simp only [List.getElem_toArray, List.getElem_cons_zero, List.getElem_cons_succ, Act.put, List.setIfInBounds_toArray, List.set_cons_zero, List.set_cons_succ]
        refine wpAnyH_take (i := 8) (v := undef) rfl (by kernel_rfl) (by kernel_rfl) (by kernel_rfl) (fun _ _ _ h => h) (Or.inr ⟨by rfl, rfl⟩) (by assumption) ?_
        try simp only [List.getElem_toArray, List.getElem_cons_zero, List.getElem_cons_succ, Act.put, List.setIfInBounds_toArray, List.set_cons_zero, List.set_cons_succ]
        refine wpAnyH_take (i := 9) (v := undef) rfl (by kernel_rfl) (by kernel_rfl) (by kernel_rfl) (fun _ _ _ h => h) (Or.inr ⟨by rfl, rfl⟩) (by assumption) ?_
        try simp only [List.getElem_toArray, List.getElem_cons_zero, List.getElem_cons_succ, Act.put, List.setIfInBounds_toArray, List.set_cons_zero, List.set_cons_succ]
        refine wpAnyH_take (i := 10) (v := undef) rfl (by kernel_rfl) (by kernel_rfl) (by kernel_rfl) (fun _ _ _ h => h) (Or.inr ⟨by rfl, rfl⟩) (by assumption) ?_
        try simp only [List.getElem_toArray, List.getElem_cons_zero, List.getElem_cons_succ, Act.put, List.setIfInBounds_toArray, List.set_cons_zero, List.set_cons_succ]
        refine wpAnyH_take (i := 11) (v := undef) rfl (by kernel_rfl) (by kernel_rfl) (by kernel_rfl) (fun _ _ _ h => h) (Or.inr ⟨by rfl, rfl⟩) (by assumption) ?_
        try simp only [List.getElem_toArray, List.getElem_cons_zero, List.getElem_cons_succ, Act.put, List.setIfInBounds_toArray, List.set_cons_zero, List.set_cons_succ]
        refine wpAnyH_take (i := 12) (v := undef) rfl (by kernel_rfl) (by kernel_rfl) (by kernel_rfl) (fun _ _ _ h => h) (Or.inr ⟨by rfl, rfl⟩) (by assumption) ?_
        try simp only [List.getElem_toArray, List.getElem_cons_zero, List.getElem_cons_succ, Act.put, List.setIfInBounds_toArray, List.set_cons_zero, List.set_cons_succ]
        refine wpAnyH_take (i := 13) (v := undef) rfl (by kernel_rfl) (by kernel_rfl) (by kernel_rfl) (fun _ _ _ h => h) (Or.inr ⟨by rfl, rfl⟩) (by assumption) ?_
        try simp only [List.getElem_toArray, List.getElem_cons_zero, List.getElem_cons_succ, Act.put, List.setIfInBounds_toArray, List.set_cons_zero, List.set_cons_succ]
        refine wpAnyH_take (i := 14) (v := undef) rfl (by kernel_rfl) (by kernel_rfl) (by kernel_rfl) (fun _ _ _ h => h) (Or.inr ⟨by rfl, rfl⟩) (by assumption) ?_
        try simp only [List.getElem_toArray, List.getElem_cons_zero, List.getElem_cons_succ, Act.put, List.setIfInBounds_toArray, List.set_cons_zero, List.set_cons_succ]
        refine wpAnyH_take (i := 15) (v := undef) rfl (by kernel_rfl) (by kernel_rfl) (by kernel_rfl) (fun _ _ _ h => h) (Or.inr ⟨by rfl, rfl⟩) (by assumption) ?_
        try simp only [List.getElem_toArray, List.getElem_cons_zero, List.getElem_cons_succ, Act.put, List.setIfInBounds_toArray, List.set_cons_zero, List.set_cons_succ]
        refine wpAnyH_take (i := 16) (v := undef) rfl (by kernel_rfl) (by kernel_rfl) (by kernel_rfl) (fun _ _ _ h => h) (Or.inr ⟨by rfl, rfl⟩) (by assumption) ?_
        try simp only [List.getElem_toArray, List.getElem_cons_zero, List.getElem_cons_succ, Act.put, List.setIfInBounds_toArray, List.set_cons_zero, List.set_cons_succ]
        refine wpAnyH_take (i := 17) (v := ?_) rfl (by kernel_rfl) (by kernel_rfl) (by kernel_rfl) (fun _ _ _ h => h) (Or.inl ⟨by rfl, ?_⟩) (by assumption) ?_
        rotate_left 1
        · (intro wS hSw; (try dsimp only at hSw); go_simp; try with_reducible rfl)
        try simp only [List.getElem_toArray, List.getElem_cons_zero, List.getElem_cons_succ, Act.put, List.setIfInBounds_toArray, List.set_cons_zero, List.set_cons_succ]
        refine wpAnyH_take (i := 18) (v := ?_) rfl (by kernel_rfl) (by kernel_rfl) (by kernel_rfl) (fun _ _ _ h => h) (Or.inl ⟨by rfl, ?_⟩) (by assumption) ?_
        rotate_left 1
        · (intro wS hSw; (try dsimp only at hSw); go_simp; try with_reducible rfl)
        try simp only [List.getElem_toArray, List.getElem_cons_zero, List.getElem_cons_succ, Act.put, List.setIfInBounds_toArray, List.set_cons_zero, List.set_cons_succ]
        refine wpAnyH_done (by kernel_rfl) ?_ _
        refine NoPanic.normal ?_
        go_wp2_with fail
        go_roundw
        case rel => exact ⟨j + 1, by go_num, by omega, HBW.out.trans ((HBC.out.trans (b2.mono HBC.out.size)).mono HBW.out.size)⟩
        case measure => simp [intOf]; omega
      · obtain ⟨p, hp⟩ : ∃ p, j = p + 1 := ⟨j - 1, by omega⟩
        have g0 : decide ((0 : Int) < (j : Int)) = true := by simp; omega
        have g0n : decide (0 < j) = true := by simp; omega
        have hw1 : IntKind.i64.wrap ((j : Int) - 1) = (p : Int) := by rw [IntKind.wrap_i64]; omega
        have hpi : (p : Int) < (K.length : Int) := by omega
        obtain ⟨b2', off2, e2, -, hcp⟩ := (HK.out.below (hbw0.trans (hbc.mono hbw0.size))).get p (by omega)
        cases e2
        have y0 := hcp 0 _ rfl; have y1 := hcp 1 _ rfl
        rw [Nat.add_zero] at y0
        have hasc := HOk.out.asc p (by omega)
        obtain ⟨⟨f', t'⟩, hx'⟩ : ∃ x, K.getD p (0, 0) = x := ⟨_, rfl⟩
        have hx'' : K[p]'(by omega) = (f', t') := by rw [← hx', List.getD, List.getElem?_eq_getElem (by omega)]; rfl
        have hxc : K.getD (p + 1) (0, 0) = ((fn : Int), t) := by rw [← hx, List.getD, List.getElem?_eq_getElem (by omega)]; simp only [hp]; rfl
        rw [hx', hxc] at hasc
        rw [hx''] at y0 y1
        dsimp only at y0 y1
        obtain ⟨oc, hoc⟩ : ∃ o, orderC (f', t') ((fn : Int), t) = o := ⟨_, rfl⟩
        rw [hoc] at hasc
        have hge : decide ((0 : Int) ≤ oc) = false := by simp; omega
        have HOc := Lib.hid hoc
        have lbc : b < Wc.heap.size := Nat.lt_of_lt_of_le lb hbc.size
        clear hs1 hq1 hc0 hs2 hq2 hbc c0 c1 hj0 hcp hx hx' hx'' hxc hoc hp hasc
        refine wp_region_noPanic ?_
        refine wp_region_held_drew (S := (fun w' => w'.cell? ⟨w.heap.size, 0, none⟩ = some (vf) ∧ w'.cell? ⟨w.heap.size, 1, none⟩ = some (vt) ∧ w'.cell? ⟨w.heap.size, 2, none⟩ = some (vn) ∧ w'.cell? ⟨w.heap.size, 3, none⟩ = some (vs) ∧ w'.cell? ⟨w.heap.size + 1, 0, none⟩ = some (.slice (some ⟨b, off, none⟩) K.length ck) ∧ w'.cell? ⟨wr.heap.size, 0, none⟩ = some (.int .i64 fn) ∧ w'.cell? ⟨wr.heap.size, 1, none⟩ = some (.int .i64 t) ∧ w'.cell? ⟨b, off + p * 2, none⟩ = some (.int .i64 f') ∧ w'.cell? ⟨b, off + p * 2 + 1, none⟩ = some (.int .i64 t'))) (by kernel_rfl) (⟨s0, s1, s2, s3, q0, k0, k1, y0, y1⟩) (fun hHeld => ?_)
        refine wpAnyH_take (i := 0) (v := ?_) rfl (by kernel_rfl) (by kernel_rfl) (by kernel_rfl) (fun _ _ _ h => h) (Or.inl ⟨by rfl, ?_⟩) (by assumption) ?_
        rotate_left 1
        · (intro wS hSw; (try dsimp only at hSw); go_simp; try with_reducible rfl)
        try simp only [List.getElem_toArray, List.getElem_cons_zero, List.getElem_cons_succ, Act.put, List.setIfInBounds_toArray, List.set_cons_zero, List.set_cons_succ]
        refine wpAnyH_take (i := 1) (v := ?_) rfl (by kernel_rfl) (by kernel_rfl) (by kernel_rfl) (fun _ _ _ h => h) (Or.inl ⟨by rfl, ?_⟩) (by assumption) ?_
        rotate_left 1
        · (intro wS hSw; (try dsimp only at hSw); go_simp; try with_reducible rfl)
        try simp only [List.getElem_toArray, List.getElem_cons_zero, List.getElem_cons_succ, Act.put, List.setIfInBounds_toArray, List.set_cons_zero, List.set_cons_succ]
        refine wpAnyH_ready (rs := [2]) (by kernel_rfl) (by simp) ?_
        refine AllReadyH.cons rfl (fun K hK => ?_) AllReadyH.nil
        go_simp
        refine (right_in S _ _ _ _ F fn t _ (HFC.out.below bD) (by omega) hn).mono ?_; rw [HFT.out]; rintro e w2 ⟨rfl, hb⟩; have b2 := bD.trans hb; clear hb
        refine hK.out _ _ (⟨(b2.cell (p := ⟨w.heap.size, 0, none⟩) ls).trans s0, (b2.cell (p := ⟨w.heap.size, 1, none⟩) ls).trans s1, (b2.cell (p := ⟨w.heap.size, 2, none⟩) ls).trans s2, (b2.cell (p := ⟨w.heap.size, 3, none⟩) ls).trans s3, (b2.cell (p := ⟨w.heap.size + 1, 0, none⟩) lq).trans q0, (b2.cell (p := ⟨wr.heap.size, 0, none⟩) lc).trans k0, (b2.cell (p := ⟨wr.heap.size, 1, none⟩) lc).trans k1, (b2.cell (p := ⟨b, off + p * 2, none⟩) lbc).trans y0, (b2.cell (p := ⟨b, off + p * 2 + 1, none⟩) lbc).trans y1⟩) (fun hHeld => ?_)
        clear hK K
        try simp only [List.getElem_toArray, List.getElem_cons_zero, List.getElem_cons_succ, Act.put, List.setIfInBounds_toArray, List.set_cons_zero, List.set_cons_succ]
        refine wpAnyH_take (i := 3) (v := ?_) rfl (by kernel_rfl) (by kernel_rfl) (by kernel_rfl) (fun _ _ _ h => h) (Or.inl ⟨by rfl, ?_⟩) (by assumption) ?_
        rotate_left 1
        · (intro wS hSw; (try dsimp only at hSw); go_simp; try with_reducible rfl)
        try simp only [List.getElem_toArray, List.getElem_cons_zero, List.getElem_cons_succ, Act.put, List.setIfInBounds_toArray, List.set_cons_zero, List.set_cons_succ]
        refine wpAnyH_take (i := 4) (v := ?_) rfl (by kernel_rfl) (by kernel_rfl) (by kernel_rfl) (fun _ _ _ h => h) (Or.inl ⟨by rfl, ?_⟩) (by assumption) ?_
        rotate_left 1
        · (intro wS hSw; (try dsimp only at hSw); go_simp; try with_reducible rfl)
        try simp only [List.getElem_toArray, List.getElem_cons_zero, List.getElem_cons_succ, Act.put, List.setIfInBounds_toArray, List.set_cons_zero, List.set_cons_succ]
        refine wpAnyH_take (i := 5) (v := ?_) rfl (by kernel_rfl) (by kernel_rfl) (by kernel_rfl) (fun _ _ _ h => h) (Or.inl ⟨by rfl, ?_⟩) (by assumption) ?_
        rotate_left 1
        · (intro wS hSw; (try dsimp only at hSw); go_simp; try with_reducible rfl)
        try simp only [List.getElem_toArray, List.getElem_cons_zero, List.getElem_cons_succ, Act.put, List.setIfInBounds_toArray, List.set_cons_zero, List.set_cons_succ]
        refine wpAnyH_take (i := 6) (v := ?_) rfl (by kernel_rfl) (by kernel_rfl) (by kernel_rfl) (fun _ _ _ h => h) (Or.inl ⟨by rfl, ?_⟩) (by assumption) ?_
        rotate_left 1
        · (intro wS hSw; (try dsimp only at hSw); go_simp; try with_reducible rfl)
        try simp only [List.getElem_toArray, List.getElem_cons_zero, List.getElem_cons_succ, Act.put, List.setIfInBounds_toArray, List.set_cons_zero, List.set_cons_succ]
        refine wpAnyH_take (i := 7) (v := ?_) rfl (by kernel_rfl) (by kernel_rfl) (by kernel_rfl) (fun _ _ _ h => h) (Or.inl ⟨by rfl, ?_⟩) (by assumption) ?_
        rotate_left 1
        · (intro wS hSw; (try dsimp only at hSw); go_simp; try with_reducible rfl)
        try simp only [List.getElem_toArray, List.getElem_cons_zero, List.getElem_cons_succ, Act.put, List.setIfInBounds_toArray, List.set_cons_zero, List.set_cons_succ]
        refine wpAnyH_take (i := 8) (v := ?_) rfl (by kernel_rfl) (by kernel_rfl) (by kernel_rfl) (fun _ _ _ h => h) (Or.inl ⟨by rfl, ?_⟩) (by assumption) ?_
        rotate_left 1
        · (intro wS hSw; (try dsimp only at hSw); go_simp; try with_reducible rfl)
        try simp only [List.getElem_toArray, List.getElem_cons_zero, List.getElem_cons_succ, Act.put, List.setIfInBounds_toArray, List.set_cons_zero, List.set_cons_succ]
        refine wpAnyH_take (i := 9) (v := ?_) rfl (by kernel_rfl) (by kernel_rfl) (by kernel_rfl) (fun _ _ _ h => h) (Or.inl ⟨by rfl, ?_⟩) (by assumption) ?_
        rotate_left 1
        · (intro wS hSw; (try dsimp only at hSw); go_simp; try with_reducible rfl)
        try simp only [List.getElem_toArray, List.getElem_cons_zero, List.getElem_cons_succ, Act.put, List.setIfInBounds_toArray, List.set_cons_zero, List.set_cons_succ]
        refine wpAnyH_take (i := 10) (v := ?_) rfl (by kernel_rfl) (by kernel_rfl) (by kernel_rfl) (fun _ _ _ h => h) (Or.inl ⟨by rfl, ?_⟩) (by assumption) ?_
        rotate_left 1
        · (intro wS hSw; (try dsimp only at hSw); go_simp; try with_reducible rfl)
        try simp only [List.getElem_toArray, List.getElem_cons_zero, List.getElem_cons_succ, Act.put, List.setIfInBounds_toArray, List.set_cons_zero, List.set_cons_succ]
        refine wpAnyH_take (i := 11) (v := ?_) rfl (by kernel_rfl) (by kernel_rfl) (by kernel_rfl) (fun _ _ _ h => h) (Or.inl ⟨by rfl, ?_⟩) (by assumption) ?_
        rotate_left 1
        · (intro wS hSw; (try dsimp only at hSw); go_simp; try with_reducible rfl)
        try simp only [List.getElem_toArray, List.getElem_cons_zero, List.getElem_cons_succ, Act.put, List.setIfInBounds_toArray, List.set_cons_zero, List.set_cons_succ]
        refine wpAnyH_take (i := 12) (v := ?_) rfl (by kernel_rfl) (by kernel_rfl) (by kernel_rfl) (fun _ _ _ h => h) (Or.inl ⟨by rfl, ?_⟩) (by assumption) ?_
        rotate_left 1
        · (intro wS hSw; (try dsimp only at hSw); go_simp; try with_reducible rfl)
        try simp only [List.getElem_toArray, List.getElem_cons_zero, List.getElem_cons_succ, Act.put, List.setIfInBounds_toArray, List.set_cons_zero, List.set_cons_succ]
        refine wpAnyH_take (i := 13) (v := ?_) rfl (by kernel_rfl) (by kernel_rfl) (by kernel_rfl) (fun _ _ _ h => h) (Or.inl ⟨by rfl, ?_⟩) (by assumption) ?_
        rotate_left 1
        · (intro wS hSw; (try dsimp only at hSw); go_simp; try with_reducible rfl)
        try simp only [List.getElem_toArray, List.getElem_cons_zero, List.getElem_cons_succ, Act.put, List.setIfInBounds_toArray, List.set_cons_zero, List.set_cons_succ]
        refine wpAnyH_take (i := 14) (v := ?_) rfl (by kernel_rfl) (by kernel_rfl) (by kernel_rfl) (fun _ _ _ h => h) (Or.inl ⟨by rfl, ?_⟩) (by assumption) ?_
        rotate_left 1
        · (intro wS hSw; (try dsimp only at hSw); go_simp; try with_reducible rfl)
        try simp only [List.getElem_toArray, List.getElem_cons_zero, List.getElem_cons_succ, Act.put, List.setIfInBounds_toArray, List.set_cons_zero, List.set_cons_succ]
        refine wpAnyH_ready (rs := [15]) (by kernel_rfl) (by simp) ?_
        refine AllReadyH.cons rfl (fun K hK => ?_) AllReadyH.nil
        go_simp
        refine (order_any (f', t') ((fn : Int), t) _).mono ?_; rw [HOc.out]; rintro e w3 ⟨rfl, hb⟩; have b3 := b2.trans (hb.mono b2.size); clear hb
        refine hK.out _ _ (⟨(b3.cell (p := ⟨w.heap.size, 0, none⟩) ls).trans s0, (b3.cell (p := ⟨w.heap.size, 1, none⟩) ls).trans s1, (b3.cell (p := ⟨w.heap.size, 2, none⟩) ls).trans s2, (b3.cell (p := ⟨w.heap.size, 3, none⟩) ls).trans s3, (b3.cell (p := ⟨w.heap.size + 1, 0, none⟩) lq).trans q0, (b3.cell (p := ⟨wr.heap.size, 0, none⟩) lc).trans k0, (b3.cell (p := ⟨wr.heap.size, 1, none⟩) lc).trans k1, (b3.cell (p := ⟨b, off + p * 2, none⟩) lbc).trans y0, (b3.cell (p := ⟨b, off + p * 2 + 1, none⟩) lbc).trans y1⟩) (fun hHeld => ?_)
        clear hK K
        try simp only [List.getElem_toArray, List.getElem_cons_zero, List.getElem_cons_succ, Act.put, List.setIfInBounds_toArray, List.set_cons_zero, List.set_cons_succ]
        refine wpAnyH_take (i := 16) (v := ?_) rfl (by kernel_rfl) (by kernel_rfl) (by kernel_rfl) (fun _ _ _ h => h) (Or.inl ⟨by rfl, ?_⟩) (by assumption) ?_
        rotate_left 1
        · (intro wS hSw; (try dsimp only at hSw); go_simp; try with_reducible rfl)
        try simp only [List.getElem_toArray, List.getElem_cons_zero, List.getElem_cons_succ, Act.put, List.setIfInBounds_toArray, List.set_cons_zero, List.set_cons_succ]
        refine wpAnyH_take (i := 17) (v := ?_) rfl (by kernel_rfl) (by kernel_rfl) (by kernel_rfl) (fun _ _ _ h => h) (Or.inl ⟨by rfl, ?_⟩) (by assumption) ?_
        rotate_left 1
        · (intro wS hSw; (try dsimp only at hSw); go_simp; try with_reducible rfl)
        try simp only [List.getElem_toArray, List.getElem_cons_zero, List.getElem_cons_succ, Act.put, List.setIfInBounds_toArray, List.set_cons_zero, List.set_cons_succ]
        refine wpAnyH_take (i := 18) (v := ?_) rfl (by kernel_rfl) (by kernel_rfl) (by kernel_rfl) (fun _ _ _ h => h) (Or.inl ⟨by rfl, ?_⟩) (by assumption) ?_
        rotate_left 1
        · (intro wS hSw; (try dsimp only at hSw); go_simp; try with_reducible rfl)
        try simp only [List.getElem_toArray, List.getElem_cons_zero, List.getElem_cons_succ, Act.put, List.setIfInBounds_toArray, List.set_cons_zero, List.set_cons_succ]
        refine wpAnyH_done (by kernel_rfl) ?_ _
        refine NoPanic.normal ?_
        go_wp2_with fail
        go_roundw
        case rel => exact ⟨j + 1, by go_num, by omega, HBW.out.trans ((HBC.out.trans (b3.mono HBC.out.size)).mono HBW.out.size)⟩
        case measure => simp [intOf]; omega
    · have hq : decide ((j : Int) < (K.length : Int)) = false := by simp; omega
      go_wp2_with fail
      go_ret
      exact ⟨rfl, HB0.out.trans (hbw.mono HB0.out.size)⟩
end Go.Proofs.YthdolmofeeniaaaGreatDoor
end
section
/- bloom, the program's: Encode. -/
set_option linter.unusedSimpArgs false
set_option linter.unusedVariables false
set_option maxRecDepth 100000
namespace Go.Proofs.YthdolmofeeniaaaGreatDoor
open Go.RowKit
theorem fl_u : ∀ l : List Int, l.flatMap encU = l.map (Value.int .u64) := by
  intro l; induction l with
  | nil => rfl
  | cons a l ih => simp only [List.flatMap_cons, List.map_cons, ih]; rfl
theorem word_set (W : List Int) (q : Nat) (x : Int) : ((W.flatMap encU).toArray).setIfInBounds q (.int .u64 x) = ((W.set q x).flatMap encU).toArray := by
  rw [fl_u, fl_u, List.setIfInBounds_toArray, List.map_set]
/-- where bloom.Encode stands: the boxes, the array's two cells, its words -/
structure EncAt (w : World) (p : ParL) (k : Int × Int) (gw c9 m : Nat) (W : List Int) (wr : World) : Prop where
  hp : wr.heap[w.heap.size]? = some (.cells (parC p) 124 (0, 0))
  hk : wr.heap[w.heap.size + 1]? = some (.cells #[.int .u64 k.1, .int .u64 k.2] 39 (0, 0))
  hr : wr.heap[w.heap.size + 2]? = some (.cells #[.int .i64 0, .slice none 0 0] 127 (0, 0))
  hc : wr.heap[c9]? = some (.cells #[.int .i64 p.len, .slice (some ⟨gw, 0, none⟩) m m] 127 (0, 0))
  hw : wr.heap[gw]? = some (.cells (W.flatMap encU).toArray 37 (0, 0))
  len : W.length = m
  ne : w.heap.size + 2 < gw ∧ w.heap.size + 2 < c9 ∧ gw ≠ c9
  b : Below w.heap.size w wr
theorem EncAt.below {w : World} {p : ParL} {k : Int × Int} {gw c9 m : Nat} {W : List Int} {wr wx : World} (h : EncAt w p k gw c9 m W wr) (hb : Below wr.heap.size wr wx) : EncAt w p k gw c9 m W wx :=
  ⟨blk_below hb (lt_of_blk h.hp) h.hp, blk_below hb (lt_of_blk h.hk) h.hk, blk_below hb (lt_of_blk h.hr) h.hr, blk_below hb (lt_of_blk h.hc) h.hc, blk_below hb (lt_of_blk h.hw) h.hw, h.len, h.ne, h.b.trans (hb.mono h.b.size)⟩
theorem EncAt.set {w : World} {p : ParL} {k : Int × Int} {gw c9 m : Nat} {W : List Int} {wr : World} (h : EncAt w p k gw c9 m W wr) (q : Nat) (x : Int) : EncAt w p k gw c9 m (W.set q x) (wr.setCell ⟨gw, q, none⟩ (.int .u64 x)) := by
  obtain ⟨n1, n2, n3⟩ := h.ne
  refine ⟨blk_far h.hp (by show w.heap.size ≠ gw; omega), blk_far h.hk (by show w.heap.size + 1 ≠ gw; omega), blk_far h.hr (by show w.heap.size + 2 ≠ gw; omega), blk_far h.hc (Ne.symm n3), ?_, by rw [List.length_set]; exact h.len, h.ne, h.b.setCell (p := ⟨gw, q, none⟩) (by show w.heap.size ≤ gw; omega) _⟩
  rw [← word_set]; exact blk_set h.hw
theorem EncAt.drew {w : World} {p : ParL} {k : Int × Int} {gw c9 m : Nat} {W : List Int} {wr : World} (h : EncAt w p k gw c9 m W wr) : EncAt w p k gw c9 m W wr.drew := ⟨h.hp, h.hk, h.hr, h.hc, h.hw, h.len, h.ne, h.b.drew⟩
end Go.Proofs.YthdolmofeeniaaaGreatDoor
end
section
/-
  DERIVED: THE SHELF's CONTRACTS AT THIS DUMP, IN PLAIN WORDS (tools/lay-plain.mjs out of 'TryzShelf.lean', which tools/lay-shelf.mjs wrote): THE SAME DECLARATIONS UNDER THE SAME NAMES: 'import', 'namespace', 'open', 'def', 'theorem' AND NOTHING ELSE: no command of the shelf's: FOR A HAND-IN. Each laying: the table of numbers ('.._ren') and one theorem, a field a fact of the dump's own or the kernel's comparison; each contract: ONE APPLICATION.
-/
namespace Go.Proofs
open Go.Shelf
def Tryz.lays171_ren : Go.Shelf.Ren := ⟨fun | 171 => 79 | 243 => 133 | 246 => 194 | 283 => 236 | 284 => 237 | 285 => 238 | 286 => 239 | 129 => 282 | 317 => 281 | 318 => 283 | 319 => 284 | 320 => 285 | 337 => 312 | 338 => 313 | n => n, fun | 3 => 3 | 9 => 9 | 2 => 2 | 4 => 4 | 171 => 256 | 0 => 0 | 53 => 37 | 37 => 85 | 5 => 5 | 173 => 259 | 212 => 284 | 51 => 285 | 20 => 20 | 213 => 286 | 46 => 114 | 232 => 325 | 233 => 326 | n => n, fun | 17 => 2 | 18 => 6 | 19 => 7 | n => n⟩
theorem Tryz.lays171 : Go.Proofs.Lays.n171 Tryz.prog Tryz.lays171_ren := {
  mixed := by kernel_rfl
  f129 := Tryz.func282.trans (congrArg some (by kernel_rfl))
  f171 := Tryz.func79.trans (congrArg some (by kernel_rfl))
  f243 := Tryz.func133.trans (congrArg some (by kernel_rfl))
  f246 := Tryz.func194.trans (congrArg some (by kernel_rfl))
  f283 := Tryz.func236.trans (congrArg some (by kernel_rfl))
  f284 := Tryz.func237.trans (congrArg some (by kernel_rfl))
  f285 := Tryz.func238.trans (congrArg some (by kernel_rfl))
  f286 := Tryz.func239.trans (congrArg some (by kernel_rfl))
  f317 := Tryz.func281.trans (congrArg some (by kernel_rfl))
  f318 := Tryz.func283.trans (congrArg some (by kernel_rfl))
  f319 := Tryz.func284.trans (congrArg some (by kernel_rfl))
  f320 := Tryz.func285.trans (congrArg some (by kernel_rfl))
  f337 := Tryz.func312.trans (congrArg some (by kernel_rfl))
  f338 := Tryz.func313.trans (congrArg some (by kernel_rfl))
  t0 := Tryz.underlying0
  a0 := Tryz.isAgg0
  z0 := Tryz.sizeOf0
  v0 := Tryz.zeroValue0
  t2 := Tryz.underlying2
  a2 := Tryz.isAgg2
  z2 := Tryz.sizeOf2
  v2 := Tryz.zeroValue2
  t3 := Tryz.underlying3
  a3 := Tryz.isAgg3
  z3 := Tryz.sizeOf3
  v3 := Tryz.zeroValue3
  t4 := Tryz.underlying4
  a4 := Tryz.isAgg4
  z4 := Tryz.sizeOf4
  v4 := Tryz.zeroValue4
  t5 := Tryz.underlying5
  a5 := Tryz.isAgg5
  z5 := Tryz.sizeOf5
  v5 := Tryz.zeroValue5
  t9 := Tryz.underlying9
  a9 := Tryz.isAgg9
  z9 := Tryz.sizeOf9
  v9 := Tryz.zeroValue9
  t20 := Tryz.underlying20
  a20 := Tryz.isAgg20
  z20 := Tryz.sizeOf20
  v20 := Tryz.zeroValue20
  t37 := Tryz.underlying85
  a37 := Tryz.isAgg85
  z37 := Tryz.sizeOf85
  v37 := Tryz.zeroValue85
  t46 := Tryz.underlying114
  a46 := Tryz.isAgg114
  z46 := Tryz.sizeOf114
  v46 := Tryz.zeroValue114
  t51 := Tryz.underlying285
  a51 := Tryz.isAgg285
  z51 := Tryz.sizeOf285
  v51 := Tryz.zeroValue285
  t53 := Tryz.underlying37
  a53 := Tryz.isAgg37
  z53 := Tryz.sizeOf37
  v53 := Tryz.zeroValue37
  t171 := Tryz.underlying256
  a171 := Tryz.isAgg256
  z171 := Tryz.sizeOf256
  v171 := Tryz.zeroValue256
  t173 := Tryz.underlying259
  a173 := Tryz.isAgg259
  z173 := Tryz.sizeOf259
  v173 := Tryz.zeroValue259
  t212 := Tryz.underlying284
  a212 := Tryz.isAgg284
  z212 := Tryz.sizeOf284
  v212 := Tryz.zeroValue284
  t213 := Tryz.underlying286
  a213 := Tryz.isAgg286
  z213 := Tryz.sizeOf286
  t232 := Tryz.underlying325
  a232 := Tryz.isAgg325
  z232 := Tryz.sizeOf325
  v232 := Tryz.zeroValue325
  t233 := Tryz.underlying326
  a233 := Tryz.isAgg326
  z233 := Tryz.sizeOf326
  v233 := Tryz.zeroValue326
  g17 := by kernel_rfl
  g18 := by kernel_rfl
  g19 := by kernel_rfl }
open Go.RowKit Go.Sort Go.Lib in
/-- THE ROAD WITHOUT THE TABLE: 0 <= i < 100: NO PREMISE ON THE WORLD, AND THE WORLD IS AS IT WAS: a row that keeps its argument in that range need list no table ('laid = []'). (LAID: no walk: one application.) -/
theorem Tryz.strconv_Itoa_small (i : Nat) (hi : i < 100) (w : World) :
    Calls Tryz.prog 79 #[.int .i64 i] w fun e w' => e = .returned (.string ⟨(Lib.decDigits i).toArray⟩) ∧ w' = w := Any.strconv_Itoa_small Tryz.lays171 i hi w
end Go.Proofs
end
section
/- encode, the program's: the key of a field. -/
set_option linter.unusedSimpArgs false
set_option linter.unusedVariables false
set_option maxRecDepth 100000
namespace Go.Proofs.YthdolmofeeniaaaGreatDoor
open Go.RowKit
attribute [local go_sem] toList_mk mk_size str_append
theorem digs_len (i : Nat) (h : i < 100) : (Lib.decDigits i).length ≤ 2 := by
  have : ∀ j : Fin 100, (Lib.decDigits j).length ≤ 2 := by decide +kernel
  exact this ⟨i, h⟩
end Go.Proofs.YthdolmofeeniaaaGreatDoor
end
section
/- encode, the program's: the array of a field. -/
set_option linter.unusedSimpArgs false
set_option linter.unusedVariables false
set_option maxRecDepth 100000
namespace Go.Proofs.YthdolmofeeniaaaGreatDoor
open Go.RowKit Cal
attribute [local go_sem] toList_mk mk_size str_append
/-- what a field's array needs: the schema, a normal record, valid parameters -/
structure FieldIn (s : SchemaL) (p : ParL) (vals : List (List UInt8)) (i : Nat) : Prop where
  par : ParOk p
  salt : p.salt < vals.length
  at_ : i < vals.length
  five : vals.length ≤ 5
  kind : (findN s i).2 = 0
  norm : normalB s i (vals.getD i []) = true
  short : ∀ v ∈ vals, v.length ≤ 64
/-- where encode.field stands: its boxes -/
structure FldAt (w : World) (vf vt vn vs : Value) (p : ParL) (k : Int × Int) (id ver : Int) (sv : Value) (W : World) : Prop where
  s : W.heap[w.heap.size]? = some (.cells #[vf, vt, vn, vs] 33 (0, 0))
  p : W.heap[w.heap.size + 1]? = some (.cells (parC p) 124 (0, 0))
  k : W.heap[w.heap.size + 2]? = some (.cells #[.int .u64 k.1, .int .u64 k.2] 39 (0, 0))
  r : W.heap[w.heap.size + 3]? = some (.cells #[.int .i64 id, .int .i64 ver, sv] 42 (0, 0))
  z : W.heap[w.heap.size + 4]? = some (.cells #[.int .i64 0, .slice none 0 0] 127 (0, 0))
  b : Below w.heap.size w W
theorem FldAt.below {w : World} {vf vt vn vs : Value} {p : ParL} {k : Int × Int} {id ver : Int} {sv : Value} {W W' : World} (h : FldAt w vf vt vn vs p k id ver sv W) (hb : Below W.heap.size W W') : FldAt w vf vt vn vs p k id ver sv W' :=
  ⟨blk_below hb (lt_of_blk h.1) h.1, blk_below hb (lt_of_blk h.2) h.2, blk_below hb (lt_of_blk h.3) h.3, blk_below hb (lt_of_blk h.4) h.4, blk_below hb (lt_of_blk h.5) h.5, h.6.trans (hb.mono h.6.size)⟩
theorem FldAt.start (w : World) (vf vt vn vs : Value) (p : ParL) (k : Int × Int) (id ver : Int) (sv : Value) : FldAt w vf vt vn vs p k id ver sv (((((w.alloc (.cells #[vf, vt, vn, vs] 33)).alloc (.cells (parC p) 124)).alloc (.cells #[.int .u64 k.1, .int .u64 k.2] 39)).alloc (.cells #[.int .i64 id, .int .i64 ver, sv] 42)).alloc (.cells #[.int .i64 0, .slice none 0 0] 127)) :=
  ⟨blk_old (blk_old (blk_old (blk_old (blk_new rfl)))), blk_old (blk_old (blk_old (blk_new (by simp)))), blk_old (blk_old (blk_new (by simp))), blk_old (blk_new (by simp)), blk_new (by simp),
    (((((Below.refl w.heap.size w).alloc (Nat.le_refl _) _).alloc (by simp) _).alloc (by simp; omega) _).alloc (by simp; omega) _).alloc (by simp; omega) _⟩
end Go.Proofs.YthdolmofeeniaaaGreatDoor
end
section
/- encode, the program's: the arrays of a record. -/
set_option linter.unusedSimpArgs false
set_option linter.unusedVariables false
set_option maxRecDepth 100000
namespace Go.Proofs.YthdolmofeeniaaaGreatDoor
open Go.RowKit Cal
attribute [local go_sem] toList_mk mk_size str_append
/-- where the function stands that encoded hands on: what it has captured -/
structure CapAt (sb kb rb : Nat) (vf vt vn vs : Value) (s : SchemaL) (k : Int × Int) (id ver : Int) (sv : Value) (vals : List (List UInt8)) (w : World) : Prop where
  bs : w.heap[sb]? = some (.cells #[vf, vt, vn, vs] 33 (0, 0))
  bk : w.heap[kb]? = some (.cells #[.int .u64 k.1, .int .u64 k.2] 39 (0, 0))
  br : w.heap[rb]? = some (.cells #[.int .i64 id, .int .i64 ver, sv] 42 (0, 0))
  sch : SchemaAt w Any1 vf vt vn vs s
  val : Vec w Any1 1 encS sv vals
theorem CapAt.below {sb kb rb : Nat} {vf vt vn vs : Value} {s : SchemaL} {k : Int × Int} {id ver : Int} {sv : Value} {vals : List (List UInt8)} {w w' : World} (h : CapAt sb kb rb vf vt vn vs s k id ver sv vals w) (hb : Below w.heap.size w w') : CapAt sb kb rb vf vt vn vs s k id ver sv vals w' :=
  ⟨blk_below hb (lt_of_blk h.bs) h.bs, blk_below hb (lt_of_blk h.bk) h.bk, blk_below hb (lt_of_blk h.br) h.br, h.sch.below hb, h.val.below hb⟩
structure BV where
  len : Int
  a : Option Addr
  n : Nat
  c : Nat
abbrev encBV (x : BV) : List Value := [.int .i64 x.len, .slice x.a x.n x.c]
/-- arrays whose words lie in blocks of S -/
def BitsAll (w : World) (S : Nat → Prop) (C : List BV) (L : List BitsL) : Prop := C.length = L.length ∧ ∀ n (h1 : n < C.length) (h2 : n < L.length), BitsAt w S (.agg (encBV C[n]).toArray) L[n]
theorem BitsAt.below {w w' : World} {S : Nat → Prop} {v : Value} {b : BitsL} (h : BitsAt w S v b) (hb : Below w.heap.size w w') : BitsAt w' S v b := by
  obtain ⟨s, rfl, hv⟩ := h; exact ⟨s, rfl, hv.below hb⟩
theorem BitsAll.below {w w' : World} {S : Nat → Prop} {C : List BV} {L : List BitsL} (h : BitsAll w S C L) (hb : Below w.heap.size w w') : BitsAll w' S C L := ⟨h.1, fun n h1 h2 => (h.2 n h1 h2).below hb⟩
theorem BitsAll.snoc {w : World} {S : Nat → Prop} {C : List BV} {L : List BitsL} {c : BV} {b : BitsL} (h : BitsAll w S C L) (hc : BitsAt w S (.agg (encBV c).toArray) b) : BitsAll w S (C ++ [c]) (L ++ [b]) := by
  refine ⟨by simp [h.1], fun n h1 h2 => ?_⟩
  by_cases hn : n < C.length
  · rw [List.getElem_append_left hn, List.getElem_append_left (by rw [← h.1]; exact hn)]; exact h.2 n _ _
  · have : n = C.length := by simp at h1; omega
    subst this
    rw [List.getElem_append_right (Nat.le_refl _), List.getElem_append_right (by rw [h.1]; exact Nat.le_refl _)]
    simpa using hc
theorem BitsAt.form {w : World} {S : Nat → Prop} {v : Value} {b : BitsL} (h : BitsAt w S v b) : ∃ c : BV, v = .agg (encBV c).toArray ∧ BitsAt w S (.agg (encBV c).toArray) b := by
  obtain ⟨s, rfl, hv⟩ := h
  obtain ⟨a, cap, rfl⟩ := hv.slice
  exact ⟨⟨b.len, a, _, cap⟩, rfl, _, rfl, hv⟩
theorem BitsAt.weaken {w : World} {S T : Nat → Prop} {v : Value} {b : BitsL} (h : BitsAt w S v b) (hS : ∀ x, S x → T x) : BitsAt w T v b := by
  obtain ⟨s, rfl, hv⟩ := h
  exact ⟨s, rfl, hv.move (Nat.le_refl _) fun x _ hx => ⟨rfl, hS x hx⟩⟩
theorem BitsAt.move {w w' : World} {S : Nat → Prop} {v : Value} {b : BitsL} (h : BitsAt w S v b) (hz : w.heap.size ≤ w'.heap.size) (hS : ∀ x, x < w.heap.size → S x → w'.heap[x]? = w.heap[x]?) : BitsAt w' S v b := by
  obtain ⟨s, rfl, hv⟩ := h
  exact ⟨s, rfl, hv.move hz fun x h1 h2 => ⟨hS x h1 h2, h2⟩⟩
theorem BitsAll.weaken {w : World} {S T : Nat → Prop} {C : List BV} {L : List BitsL} (h : BitsAll w S C L) (hS : ∀ x, S x → T x) : BitsAll w T C L := ⟨h.1, fun n h1 h2 => (h.2 n h1 h2).weaken hS⟩
theorem BitsAll.move {w w' : World} {S T : Nat → Prop} {C : List BV} {L : List BitsL} (h : BitsAll w S C L) (hz : w.heap.size ≤ w'.heap.size) (hS : ∀ x, x < w.heap.size → S x → w'.heap[x]? = w.heap[x]? ∧ T x) : BitsAll w' T C L :=
  ⟨h.1, fun n h1 h2 => by obtain ⟨s, e, hv⟩ := h.2 n h1 h2; exact ⟨s, e, hv.move hz hS⟩⟩
/-- a slice of arrays -/
def BitsVec (w : World) (S : Nat → Prop) (v : Value) (L : List BitsL) : Prop := ∃ C, Vec w S 2 encBV v C ∧ BitsAll w S C L
end Go.Proofs.YthdolmofeeniaaaGreatDoor
end
section
/- blocking, the program's: Check, check of valid block keys. -/
set_option linter.unusedSimpArgs false
set_option linter.unusedVariables false
set_option maxRecDepth 100000
namespace Go.Proofs.YthdolmofeeniaaaGreatDoor
open Go.RowKit
structure SV where
  a : Option Addr
  n : Nat
  c : Nat
abbrev encSV (x : SV) : List Value := [.slice x.a x.n x.c]
def KeysAll (w : World) (S : Nat → Prop) (C : List SV) (Ks : List (List (Int × Int))) : Prop := C.length = Ks.length ∧ ∀ n (h1 : n < C.length) (h2 : n < Ks.length), Vec w S 2 encC (.slice C[n].a C[n].n C[n].c) Ks[n]
/-- block keys: each one cell, the slice of its components -/
def KeysVec (w : World) (S : Nat → Prop) (v : Value) (Ks : List (List (Int × Int))) : Prop := ∃ C, Vec w S 1 encSV v C ∧ KeysAll w S C Ks
theorem KeysVec.slice {w : World} {S : Nat → Prop} {v : Value} {L : List (List (Int × Int))} (h : KeysVec w S v L) : ∃ a cap, v = .slice a L.length cap := by
  obtain ⟨C, hC, hA⟩ := h
  obtain ⟨a, cap, rfl⟩ := hC.slice
  exact ⟨a, cap, by rw [hA.1]⟩
theorem KeysVec.move {w w' : World} {S T : Nat → Prop} {v : Value} {L : List (List (Int × Int))} (h : KeysVec w S v L) (hz : w.heap.size ≤ w'.heap.size) (hS : ∀ x, x < w.heap.size → S x → w'.heap[x]? = w.heap[x]? ∧ T x) : KeysVec w' T v L := by
  obtain ⟨C, hC, hA⟩ := h
  exact ⟨C, hC.move hz hS, hA.1, fun n h1 h2 => (hA.2 n h1 h2).move hz hS⟩
theorem KeysVec.below {w w' : World} {S : Nat → Prop} {v : Value} {L : List (List (Int × Int))} (h : KeysVec w S v L) (hb : Below w.heap.size w w') : KeysVec w' S v L :=
  h.move hb.size fun x hx hs => ⟨hb.block x hx, hs⟩
theorem KeysVec.at {w : World} {S : Nat → Prop} {a : Option Addr} {n cap : Nat} {L : List (List (Int × Int))} (h : KeysVec w S (.slice a n cap) L) (j : Nat) (hj : j < L.length) :
    ∃ (b off : Nat) (c : SV), a = some ⟨b, off, none⟩ ∧ b < w.heap.size ∧ w.cell? ⟨b, off + j, none⟩ = some (.slice c.a c.n c.c) ∧ Vec w S 2 encC (.slice c.a c.n c.c) (L.getD j []) := by
  obtain ⟨C, hC, hA⟩ := h
  have hj2 : j < C.length := by rw [hA.1]; exact hj
  obtain ⟨b, off, e, hb, hc⟩ := hC.get j hj2
  refine ⟨b, off, C[j], e, hb, by have := hc 0 _ rfl; simpa using this, ?_⟩
  rw [getD_at _ _ hj]
  exact hA.2 j hj2 hj
structure KeysOk (F : List F2) (Ks : List (List (Int × Int))) : Prop where
  len : Ks.length ≤ 8
  key : ∀ K ∈ Ks, KeyOk F K
set_option maxHeartbeats 4000000 in
theorem bchk_yes (S T : Nat → Prop) (vf vt vn vs kv : Value) (s : SchemaL) (Ks : List (List (Int × Int))) (w : World) (h : SchemaAt w S vf vt vn vs s) (hk : KeysVec w T kv Ks) (hc : checkS s = 0) (hn : s.fields.length ≤ 1000000) (ok : KeysOk s.fields Ks) :
    Calls Tryz.prog 25 #[.agg #[vf, vt, vn, vs], kv] w fun e w' => e = .returned (.int .i64 0) ∧ Below w.heap.size w w' := by
  obtain ⟨ak, ck, rfl⟩ := hk.slice
  have HS := Lib.hid h; have HK := Lib.hid hk; have HOk := Lib.hid ok; have HC := Lib.hid hc
  have l8 := ok.len
  have d2 : decide ((8 : Int) < (Ks.length : Int)) = false := by simp; omega
  have dz : ((0 : Int) != 0) = false := rfl
  clear h hk ok hc
  go_enter Tryz.func25, Tryz.ntmps25
  go_wp2_with fail
  refine wp_calls_world (fun W hW => ?_)
  have hb0 : Below w.heap.size w W := by rw [hW]; exact (Below.refl w.heap.size w).alloc (Nat.le_refl _) _
  have hs0 : W.heap[w.heap.size]? = some (.cells #[vf, vt, vn, vs] 33 (0, 0)) := by rw [hW]; exact blk_new rfl
  clear hW
  refine (scheck_any S _ _ _ _ s W (HS.out.below hb0)).mono ?_
  rw [HC.out]
  rintro e w1 ⟨rfl, hb⟩
  have hs1 := blk_below hb (lt_of_blk hs0) hs0
  have HB1 := Lib.hid (hb0.trans (hb.mono hb0.size)); have HS1 := Lib.hid hs1
  clear hb hb0 hs0 hs1
  go_wp2_with fail
  go_loopw [19] (fun i wr => ∃ j : Nat, i = .int .i64 j ∧ j ≤ Ks.length ∧ Below w1.heap.size w1 wr) (fun i _ => Ks.length - (intOf i).toNat)
  case atStart => exact ⟨0, rfl, by omega, Below.refl _ _⟩
  case round =>
    obtain ⟨j, rfl, hj, hbw⟩ := hrel
    have HBW := Lib.hid hbw
    by_cases hlt : j < Ks.length
    · have hq : decide ((j : Int) < (Ks.length : Int)) = true := by simp; omega
      have hji : (j : Int) < (Ks.length : Int) := by omega
      have hbw0 := HB1.out.trans (hbw.mono HB1.out.size)
      obtain ⟨b, off, c, rfl, lb, c0, hv⟩ := (HK.out.below hbw0).at j hlt
      have hok := HOk.out.key (Ks.getD j []) (by rw [getD_at _ _ hlt]; exact List.getElem_mem hlt)
      obtain ⟨ca, cn, cc⟩ := c
      dsimp only at c0 hv
      have hs1 := blk_below hbw (lt_of_blk HS1.out) HS1.out
      obtain ⟨s0, s1, s2, s3⟩ := cellsS hs1
      have ls := lt_of_blk hs1
      have HV := Lib.hid hv; have HOk1 := Lib.hid hok
      clear hbw hs1 hv hok
      go_wp2_with fail
      refine wp_calls_world (fun Wc hWc => ?_)
      have hbc : Below wr.heap.size wr Wc := by rw [hWc]; exact (Below.refl wr.heap.size wr).alloc (Nat.le_refl _) _
      clear hWc
      refine (bkey_yes S T _ _ _ _ _ s.fields (Ks.getD j []) Wc ((HS.out.below (hbw0.trans (hbc.mono hbw0.size))).1) (HV.out.below hbc) hn HOk1.out).mono ?_
      rintro e w2 ⟨rfl, hb⟩
      have HB2 := Lib.hid (HBW.out.trans ((hbc.trans (hb.mono hbc.size)).mono HBW.out.size))
      clear hb hbc
      go_wp2_with fail
      go_roundw
      case rel => exact ⟨j + 1, by go_num, by omega, HB2.out⟩
      case measure => simp [intOf]; omega
    · have hq : decide ((j : Int) < (Ks.length : Int)) = false := by simp; omega
      go_wp2_with fail
      go_ret
      exact ⟨rfl, HB1.out.trans (hbw.mono HB1.out.size)⟩
end Go.Proofs.YthdolmofeeniaaaGreatDoor
end
section
/- blocking, the program's: hash. -/
set_option linter.unusedSimpArgs false
set_option linter.unusedVariables false
set_option maxRecDepth 100000
namespace Go.Proofs.YthdolmofeeniaaaGreatDoor
open Go.RowKit
attribute [local go_sem] toList_mk mk_size str_append
def compN (vals : List (List UInt8)) (c : Int × Int) : List UInt8 := partN c.2 (vals.getD c.1.toNat [])
def blkLabel (t : List UInt8) : List UInt8 := [98, 108, 111, 99, 107] ++ t
def bhashN (k : Int × Int) (i : Nat) (L : List (List UInt8)) : Int × Bool := if hasB L [] = true then (0, false) else (partsP (deriveP k.1 k.2 (blkLabel (Lib.decDigits i))).1 (deriveP k.1 k.2 (blkLabel (Lib.decDigits i))).2 L, true)
structure CompsOk (K : List (Int × Int)) (vals : List (List UInt8)) : Prop where
  len : K.length ≤ 3
  fit : ∀ c ∈ K, 0 ≤ c.1 ∧ c.1 < vals.length ∧ (1 ≤ c.2 ∧ c.2 ≤ 5) ∧ (vals.getD c.1.toNat []).length ≤ 1000 ∧ (c.2 = 2 ∨ c.2 = 5 → ascii (vals.getD c.1.toNat []))
  short : ∀ c ∈ K, (compN vals c).length ≤ 60000
theorem oneB6 : ∀ x : List UInt8, ∀ u ∈ encS x, u.oneCell' = true := by intro x u hu; simp [encS] at hu; subst hu; rfl
set_option maxHeartbeats 8000000 in
theorem bhash_yes (T : Nat → Prop) (k : Int × Int) (kv : Value) (K : List (Int × Int)) (i : Nat) (id ver : Int) (sv : Value) (vals : List (List UInt8)) (w : World) (hk : Vec w T 2 encC kv K) (hv : Vec w Any1 1 encS sv vals) (hn : vals.length ≤ 1000000) (ok : CompsOk K vals) (hi : i < 100) :
    Calls Tryz.prog 62 #[.agg #[.int .u64 k.1, .int .u64 k.2], .agg #[kv], .int .i64 i, .agg #[.int .i64 id, .int .i64 ver, sv]] w fun e w' => e = .returned (.tuple #[.int .u64 (bhashN k i (K.map (compN vals))).1, .bool (bhashN k i (K.map (compN vals))).2]) ∧ Below w.heap.size w w' := by
  obtain ⟨ak, ck, rfl⟩ := hk.slice
  obtain ⟨av, cv, rfl⟩ := hv.slice
  obtain ⟨L, hL⟩ : ∃ L, K.map (compN vals) = L := ⟨_, rfl⟩
  have hLl : L.length = K.length := by rw [← hL]; simp
  have hLs : ∀ x ∈ L, x.length ≤ 60000 := by rw [← hL]; intro x hx; obtain ⟨c, hc, rfl⟩ := List.mem_map.1 hx; exact ok.short c hc
  have hL3 : L.length ≤ 3 := by rw [hLl]; exact ok.len
  have hK3 := ok.len
  obtain ⟨⟨h0, b0⟩, hR⟩ : ∃ R, bhashN k i L = R := ⟨_, rfl⟩
  rw [hL, hR]
  have HK := Lib.hid hk; have HV := Lib.hid hv; have HOk := Lib.hid ok; have HL := Lib.hid hL; have HLl := Lib.hid hLl; have HLs := Lib.hid hLs; have HR := Lib.hid hR
  clear hk hv ok hL hLl hLs hR
  go_enter Tryz.func62, Tryz.ntmps62
  go_wp2_with fail
  refine wp_world (fun W hW => ?_)
  have hb0 : Below w.heap.size w W := by rw [hW]; exact (((Below.refl w.heap.size w).alloc (Nat.le_refl _) _).alloc (by simp) _).alloc (by simp; omega) _
  have hk0 : W.heap[w.heap.size]? = some (.cells #[.int .u64 k.1, .int .u64 k.2] 39 (0, 0)) := by rw [hW]; exact blk_old (blk_old (blk_new rfl))
  have hr0 : W.heap[w.heap.size + 2]? = some (.cells #[.int .i64 id, .int .i64 ver, .slice av vals.length cv] 42 (0, 0)) := by rw [hW]; exact blk_new (by simp)
  clear hW
  have HB0 := Lib.hid hb0; have HK0 := Lib.hid hk0; have HR0 := Lib.hid hr0
  clear hb0 hk0 hr0
  go_loopw [10, 16] (fun v j wr => ∃ n : Nat, j = .int .i64 n ∧ n ≤ K.length ∧ OwnV 9 1 encS W v (L.take n) wr) (fun _ j _ => K.length - (intOf j).toNat)
  case atStart => exact ⟨0, rfl, by omega, OwnV.start _ _ _ _⟩
  case round =>
    obtain ⟨n, rfl, hnK, ho⟩ := hrel
    obtain ⟨P, hP⟩ : ∃ P, L.take n = P := ⟨_, rfl⟩
    have hPl : P.length ≤ 3 := by rw [← hP, List.length_take]; omega
    rw [hP] at ho
    have HP := Lib.hid hP
    have HO := Lib.hid ho
    obtain ⟨ao, co, rfl⟩ := own_slice ho.1
    have hbw := ho.2
    clear ho hP
    by_cases hlt : n < K.length
    · have hq : decide ((n : Int) < (K.length : Int)) = true := by simp; omega
      have hji : (n : Int) < (K.length : Int) := by omega
      have hbw0 := HB0.out.trans (hbw.mono HB0.out.size)
      obtain ⟨b, off, rfl, lb, hc⟩ := (HK.out.below hbw0).get n hlt
      have c0 := hc 0 _ rfl; have c1 := hc 1 _ rfl
      obtain ⟨⟨f, t⟩, hx⟩ : ∃ x, K[n] = x := ⟨_, rfl⟩
      obtain ⟨hf0, hfv, ht, hln, has⟩ := HOk.out.fit K[n] (List.getElem_mem hlt)
      have hnL : n < L.length := by rw [HLl.out]; exact hlt
      have hxL : L[n] = compN vals (f, t) := by rw [← hx]; simp only [← HL.out, List.getElem_map]
      rw [hx] at c0 c1 hf0 hfv ht hln has
      dsimp only at c0 c1 hf0 hfv ht hln has
      rw [Nat.add_zero] at c0
      obtain ⟨fn, rfl⟩ : ∃ fn : Nat, f = fn := ⟨f.toNat, by omega⟩
      have hfn : fn < vals.length := by omega
      obtain ⟨y, hy⟩ : ∃ y, partN t (vals.getD fn []) = y := ⟨_, rfl⟩
      have hxy : L[n] = y := by rw [hxL, ← hy]; rfl
      have hts : L.take (n + 1) = P ++ [y] := by rw [List.take_succ_eq_append_getElem hnL, hxy, HP.out]
      have HTs := Lib.hid hts; have HY := Lib.hid hy; have HAs := Lib.hid has
      have hln2 : (vals.getD fn []).length ≤ 1000 := hln
      have hr1 := blk_below hbw (lt_of_blk HR0.out) HR0.out
      obtain ⟨r0, r1, r2⟩ := cells3 hr1
      have lr := lt_of_blk hr1
      have HBW := Lib.hid hbw
      have HVW := Lib.hid (HV.out.below hbw0)
      clear hc hx hxL hxy hts hy has hln hr1 hbw hbw0
      go_wp2_with fail
      refine wp_calls_world (fun Wc hWc => ?_)
      have hbc : Below wr.heap.size wr Wc := by rw [hWc]; exact (Below.refl wr.heap.size wr).alloc (Nat.le_refl _) _
      clear hWc
      refine (part_yes fn t id ver _ vals Wc (HVW.out.below hbc) hfn hn ht hln2 HAs.out).mono ?_
      rw [HY.out]
      rintro e w2 ⟨rfl, hb⟩
      have hb2 := hbc.trans (hb.mono hbc.size)
      have HO1 := Lib.hid ((HO.out.below hb2).below ((Below.refl w2.heap.size w2).alloc (Nat.le_refl _) (.cells #[strV y] 9)))
      have HR1 := Lib.hid (show Reads (w2.alloc (.cells #[strV y] 9)) 1 (.slice (some ⟨w2.heap.size, 0, none⟩) 1 1) [y].length ([y].flatMap encS) from reads_block (t := 9) (fr := (0, 0)) (blk_new rfl) rfl)
      have hcn : P.length + [y].length ≤ 1000000000 := by simp only [List.length_cons, List.length_nil]; omega
      clear hb hbc hb2
      go_wp2_with (at_builtin; refine wpList_append_v rfl (.tmp 20) (.tmp 24) 28 rfl 9 (.string ⟨#[]⟩) 1 16 encS (fun _ => rfl) oneB6 Tryz.underlying28 infoS rfl (by decide) (by decide) (w0 := W) (v := .slice ao P.length co) (A := P) (B := [y]) rfl HO1.out rfl HR1.out hcn ?_; intro v3 w3 ho3 hk3 hz3)
      go_roundw
      case rel => exact ⟨n + 1, by go_num, by omega, by rw [HTs.out]; exact ho3⟩
      case measure => simp [intOf]; omega
    · have hq : decide ((n : Int) < (K.length : Int)) = false := by simp; omega
      have htk : L.take n = L := List.take_of_length_le (by have := HLl.out; omega)
      have hPL : P = L := by rw [← HP.out]; exact htk
      subst hPL
      clear HP htk
      have HVL := Lib.hid (OwnV.vec (size := 1) (enc := encS) (fun _ => rfl) HO.out)
      have hk1 := blk_below HO.out.2 (lt_of_blk HK0.out) HK0.out
      obtain ⟨k0, k1⟩ := cells2K hk1
      have lk := lt_of_blk hk1
      cases hhas : hasB P []
      · have hR2 := HR.out
        unfold bhashN at hR2
        rw [if_neg (by rw [hhas]; decide)] at hR2
        have hd := digs_len i hi
        have hit := fun w => Tryz.strconv_Itoa_small i hi w
        obtain ⟨tt, ht⟩ : ∃ t, Lib.decDigits i = t := ⟨_, rfl⟩
        rw [ht] at hd hit hR2
        obtain ⟨ft, hft⟩ : ∃ ft, blkLabel tt = ft := ⟨_, rfl⟩
        have hf5 : 98 :: 108 :: 111 :: 99 :: 107 :: tt = ft := hft
        have hfl : ft.length ≤ 60000 := by rw [← hft]; simp [blkLabel]; omega
        rw [hft] at hR2
        obtain ⟨x, hx⟩ : ∃ x, deriveP k.1 k.2 ft = x := ⟨_, rfl⟩
        rw [hx] at hR2
        obtain ⟨e1, e2⟩ := Prod.mk.inj hR2
        subst e2
        have hl1 : ¬ 9223372036854775807 < 5 + tt.length := by omega
        have HIt := Lib.hid hit; have HHas := Lib.hid hhas; have HX := Lib.hid hx; have HE := Lib.hid e1
        clear hR2 hhas hit ht hft hx e1
        go_wp2_with fail
        refine (contains_any _ _ P [] _ HVL.out (by omega)).mono ?_
        rw [HHas.out]
        rintro e w2 ⟨rfl, rfl⟩
        go_wp2_with fail
        have bD : Below wr.heap.size wr wr.drew := (Below.refl _ _).drew
        refine wp_region_noPanic ?_
        refine wp_region_held_drew (S := (fun w' => w'.cell? ⟨w.heap.size, 0, none⟩ = some (.int .u64 k.1) ∧ w'.cell? ⟨w.heap.size, 1, none⟩ = some (.int .u64 k.2))) (by kernel_rfl) (⟨k0, k1⟩) (fun hHeld => ?_)
        refine wpAnyH_take (i := 0) (v := ?_) rfl (by kernel_rfl) (by kernel_rfl) (by kernel_rfl) (fun _ _ _ h => h) (Or.inl ⟨by rfl, ?_⟩) (by assumption) ?_
        rotate_left 1
        · (intro wS hSw; (try dsimp only at hSw); go_simp; try with_reducible rfl)
        try simp only [List.getElem_toArray, List.getElem_cons_zero, List.getElem_cons_succ, Act.put, List.setIfInBounds_toArray, List.set_cons_zero, List.set_cons_succ]
        refine wpAnyH_take (i := 1) (v := ?_) rfl (by kernel_rfl) (by kernel_rfl) (by kernel_rfl) (fun _ _ _ h => h) (Or.inl ⟨by rfl, ?_⟩) (by assumption) ?_
        rotate_left 1
        · (intro wS hSw; (try dsimp only at hSw); go_simp; try with_reducible rfl)
        try simp only [List.getElem_toArray, List.getElem_cons_zero, List.getElem_cons_succ, Act.put, List.setIfInBounds_toArray, List.set_cons_zero, List.set_cons_succ]
        refine wpAnyH_take (i := 5) (v := ?_) rfl (by kernel_rfl) (by kernel_rfl) (by kernel_rfl) (fun _ _ _ h => h) (Or.inl ⟨by rfl, ?_⟩) (by assumption) ?_
        rotate_left 1
        · (intro wS hSw; (try dsimp only at hSw); go_simp; try with_reducible rfl)
        try simp only [List.getElem_toArray, List.getElem_cons_zero, List.getElem_cons_succ, Act.put, List.setIfInBounds_toArray, List.set_cons_zero, List.set_cons_succ]
        refine wpAnyH_ready (rs := [2]) (by kernel_rfl) (by simp) ?_
        refine AllReadyH.cons rfl (fun K hK => ?_) AllReadyH.nil
        go_simp
        refine (HIt.out _).mono ?_; rintro e wq ⟨rfl, rfl⟩
        refine hK.out _ _ (⟨k0, k1⟩) (fun hHeld => ?_)
        clear hK K
        try simp only [List.getElem_toArray, List.getElem_cons_zero, List.getElem_cons_succ, Act.put, List.setIfInBounds_toArray, List.set_cons_zero, List.set_cons_succ]
        refine wpAnyH_take (i := 3) (v := ?_) rfl (by kernel_rfl) (by kernel_rfl) (by kernel_rfl) (fun _ _ _ h => h) (Or.inl ⟨by rfl, ?_⟩) (by assumption) ?_
        rotate_left 1
        · (intro wS hSw; (try dsimp only at hSw); go_simp; try with_reducible rfl)
        try simp only [List.getElem_toArray, List.getElem_cons_zero, List.getElem_cons_succ, Act.put, List.setIfInBounds_toArray, List.set_cons_zero, List.set_cons_succ]
        refine wpAnyH_ready (rs := [4]) (by kernel_rfl) (by simp) ?_
        refine AllReadyH.cons rfl (fun K hK => ?_) AllReadyH.nil
        go_simp
        refine (sderive_any k.1 k.2 ft _ hfl).mono ?_; rw [HX.out]; rintro e w3 ⟨rfl, hb⟩; have b3 := bD.trans hb; clear hb
        refine hK.out _ _ (⟨(b3.cell (p := ⟨w.heap.size, 0, none⟩) lk).trans k0, (b3.cell (p := ⟨w.heap.size, 1, none⟩) lk).trans k1⟩) (fun hHeld => ?_)
        clear hK K
        try simp only [List.getElem_toArray, List.getElem_cons_zero, List.getElem_cons_succ, Act.put, List.setIfInBounds_toArray, List.set_cons_zero, List.set_cons_succ]
        refine wpAnyH_ready (rs := [6]) (by kernel_rfl) (by simp) ?_
        refine AllReadyH.cons rfl (fun K hK => ?_) AllReadyH.nil
        go_simp
        refine (sparts_any (fun b => W.heap.size ≤ b) x.1 x.2 _ P _ (HVL.out.below b3) HLs.out (by omega)).mono ?_; rw [HE.out]; rintro e w4 ⟨rfl, hb⟩; have b4 := b3.trans (hb.mono b3.size); clear hb
        refine hK.out _ _ (⟨(b4.cell (p := ⟨w.heap.size, 0, none⟩) lk).trans k0, (b4.cell (p := ⟨w.heap.size, 1, none⟩) lk).trans k1⟩) (fun hHeld => ?_)
        clear hK K
        try simp only [List.getElem_toArray, List.getElem_cons_zero, List.getElem_cons_succ, Act.put, List.setIfInBounds_toArray, List.set_cons_zero, List.set_cons_succ]
        refine wpAnyH_take (i := 7) (v := ?_) rfl (by kernel_rfl) (by kernel_rfl) (by kernel_rfl) (fun _ _ _ h => h) (Or.inl ⟨by rfl, ?_⟩) (by assumption) ?_
        rotate_left 1
        · (intro wS hSw; (try dsimp only at hSw); go_simp; try with_reducible rfl)
        try simp only [List.getElem_toArray, List.getElem_cons_zero, List.getElem_cons_succ, Act.put, List.setIfInBounds_toArray, List.set_cons_zero, List.set_cons_succ]
        refine wpAnyH_take (i := 8) (v := ?_) rfl (by kernel_rfl) (by kernel_rfl) (by kernel_rfl) (fun _ _ _ h => h) (Or.inl ⟨by rfl, ?_⟩) (by assumption) ?_
        rotate_left 1
        · (intro wS hSw; (try dsimp only at hSw); go_simp; try with_reducible rfl)
        try simp only [List.getElem_toArray, List.getElem_cons_zero, List.getElem_cons_succ, Act.put, List.setIfInBounds_toArray, List.set_cons_zero, List.set_cons_succ]
        refine wpAnyH_done (by kernel_rfl) ?_ _
        refine NoPanic.normal ?_
        go_wp2_with fail
        go_ret2
        exact ⟨rfl, HB0.out.trans ((HO.out.2.trans (b4.mono HO.out.2.size)).mono HB0.out.size)⟩
      · have hR2 := HR.out
        unfold bhashN at hR2
        rw [if_pos hhas] at hR2
        obtain ⟨e1, e2⟩ := Prod.mk.inj hR2
        subst e1 e2
        have HHas := Lib.hid hhas
        clear hR2 hhas
        go_wp2_with fail
        refine (contains_any _ _ P [] _ HVL.out (by omega)).mono ?_
        rw [HHas.out]
        rintro e w2 ⟨rfl, rfl⟩
        go_wp2_with fail
        go_ret2
        exact ⟨rfl, HB0.out.trans (HO.out.2.mono HB0.out.size)⟩
end Go.Proofs.YthdolmofeeniaaaGreatDoor
end
section
/- encode, the program's: encoded records. -/
set_option linter.unusedSimpArgs false
set_option linter.unusedVariables false
set_option maxRecDepth 100000
namespace Go.Proofs.YthdolmofeeniaaaGreatDoor
open Go.RowKit Cal
attribute [local go_sem] toList_mk mk_size str_append
theorem BitsVec.slice {w : World} {S : Nat → Prop} {v : Value} {L : List BitsL} (h : BitsVec w S v L) : ∃ a cap, v = .slice a L.length cap := by
  obtain ⟨C, hv, hc⟩ := h
  obtain ⟨a, cap, rfl⟩ := hv.slice
  exact ⟨a, cap, by rw [hc.1]⟩
theorem BitsVec.below {w w' : World} {S : Nat → Prop} {v : Value} {L : List BitsL} (h : BitsVec w S v L) (hb : Below w.heap.size w w') : BitsVec w' S v L := by
  obtain ⟨C, hv, hc⟩ := h; exact ⟨C, hv.below hb, hc.below hb⟩
theorem BitsVec.move {w w' : World} {S T : Nat → Prop} {v : Value} {L : List BitsL} (h : BitsVec w S v L) (hz : w.heap.size ≤ w'.heap.size) (hS : ∀ x, x < w.heap.size → S x → w'.heap[x]? = w.heap[x]? ∧ T x) : BitsVec w' T v L := by
  obtain ⟨C, hv, hc⟩ := h; exact ⟨C, hv.move hz hS, hc.move hz hS⟩
/-- an encoded record in memory: its three cells -/
def EncVal (w : World) (S : Nat → Prop) (v : Value) (e : EncL) : Prop := ∃ s, v = .agg #[.int .i64 e.id, .int .i64 e.ver, s] ∧ BitsVec w S s e.fields
/-- what encoding needs -/
structure EncIn (s : SchemaL) (P : List ParL) (vals : List (List UInt8)) : Prop where
  len : P.length = vals.length
  five : P.length ≤ 5
  fld : ∀ i, i < P.length → FieldIn s (P.getD i default) vals i
end Go.Proofs.YthdolmofeeniaaaGreatDoor
end
section
/- record, the program's: which records are valid. -/
set_option linter.unusedSimpArgs false
set_option linter.unusedVariables false
set_option maxRecDepth 100000
namespace Go.Proofs.YthdolmofeeniaaaGreatDoor
open Go.RowKit Cal
attribute [local go_sem] toList_mk mk_size str_append
set_option maxHeartbeats 1000000 in
theorem numbered_any (i v : Int) (w : World) :
    Calls Tryz.prog 98 #[.int .i64 i, .int .i64 v] w fun e w' => e = .returned (.bool (numberedB i v)) ∧ w = w' := by
  unfold numberedB
  cases e1 : decide ((1 : Int) ≤ i)
  · go_enter Tryz.func98, Tryz.ntmps98
    go_wp2_with fail
    go_ret
    exact ⟨rfl, rfl⟩
  · cases e2 : decide (i ≤ (1048576 : Int))
    · go_enter Tryz.func98, Tryz.ntmps98
      go_wp2_with fail
      go_ret
      exact ⟨rfl, rfl⟩
    · cases e3 : decide ((1 : Int) ≤ v)
      · go_enter Tryz.func98, Tryz.ntmps98
        go_wp2_with fail
        go_ret
        exact ⟨rfl, rfl⟩
      · go_enter Tryz.func98, Tryz.ntmps98
        go_wp2_with fail
        go_ret
        exact ⟨rfl, rfl⟩
set_option maxHeartbeats 4000000 in
theorem rchk_any (S : Nat → Prop) (vf vt vn vs : Value) (s : SchemaL) (r : RecL) (sv : Value) (w : World) (h : SchemaAt w S vf vt vn vs s) (hv : Vec w Any1 1 encS sv r.vals) (hs : ∀ x ∈ r.vals, x.length ≤ 1000000) (hn : r.vals.length ≤ 1000000) :
    Calls Tryz.prog 93 #[.agg #[vf, vt, vn, vs], .agg #[.int .i64 r.id, .int .i64 r.ver, sv]] w fun e w' => e = .returned (.int .i64 (checkI s r)) ∧ Below w.heap.size w w' := by
  obtain ⟨a, cap, rfl⟩ := hv.slice
  obtain ⟨af, cf, rfl⟩ := h.1.slice
  obtain ⟨id, ver, vals⟩ := r
  dsimp only at hv hs hn ⊢
  have hval : checkI s ⟨id, ver, vals⟩ = if (numberedB id ver && (vals.length == s.fields.length) && normA s 0 vals) = true then 0 else 7 := rfl
  obtain ⟨c, hc⟩ : ∃ c, checkI s ⟨id, ver, vals⟩ = c := ⟨_, rfl⟩
  rw [hc] at hval ⊢
  have HV := Lib.hid hv; have HSh := Lib.hid hs; have HS := Lib.hid h.any; have HVal := Lib.hid hval
  clear hv hs h hval hc
  cases hnum : numberedB id ver
  · have h7 : c = 7 := by rw [HVal.out, hnum]; rfl
    subst h7
    have HN := Lib.hid hnum; clear hnum HVal
    go_enter Tryz.func93, Tryz.ntmps93
    go_wp2_with fail
    refine (numbered_any _ _ _).mono ?_
    rw [HN.out]
    rintro e w1 ⟨rfl, rfl⟩
    go_wp2_with fail
    go_ret
    exact ⟨rfl, ((Below.refl w.heap.size w).alloc (Nat.le_refl _) _).alloc (by simp) _⟩
  · have HN := Lib.hid hnum
    by_cases hlen : vals.length = s.fields.length
    · have HVal2 := Lib.hid (show c = if normA s 0 vals = true then 0 else 7 by rw [HVal.out, hnum, hlen]; simp)
      have hne : ((vals.length : Int) != (s.fields.length : Int)) = false := by rw [hlen]; simp
      have HL := Lib.hid hlen
      clear hnum HVal hlen
      go_enter Tryz.func93, Tryz.ntmps93
      go_wp2_with fail
      refine (numbered_any _ _ _).mono ?_
      rw [HN.out]
      rintro e w1 ⟨rfl, rfl⟩
      go_wp2_with fail
      refine wp_world (fun W hW => ?_)
      have hb0 : Below w.heap.size w W := by rw [hW]; exact ((Below.refl w.heap.size w).alloc (Nat.le_refl _) _).alloc (by simp) _
      have hs0 : W.heap[w.heap.size]? = some (.cells #[.slice af s.fields.length cf, vt, vn, vs] 33 (0, 0)) := by rw [hW]; exact blk_old (blk_new rfl)
      clear hW
      have HB0 := Lib.hid hb0; have HS0 := Lib.hid hs0; clear hb0 hs0
      go_loopw [5, 6, 25] (fun _ _ i wr => ∃ j : Nat, i = .int .i64 j ∧ j ≤ vals.length ∧ Hid (normA s j (vals.drop j) = normA s 0 vals) ∧ Below W.heap.size W wr) (fun _ _ i _ => vals.length - (intOf i).toNat)
      case atStart => exact ⟨0, rfl, by omega, Lib.hid rfl, Below.refl _ _⟩
      case round =>
        obtain ⟨j, rfl, hj, HT, hb⟩ := hrel
        have HBr := Lib.hid hb; clear hb
        by_cases hlt : j < vals.length
        · have hq : decide ((j : Int) < vals.length) = true := by simp; omega
          obtain ⟨x, hx⟩ : ∃ x, vals[j] = x := ⟨_, rfl⟩
          have hxl : x.length ≤ 1000000 := HSh.out x (by rw [← hx]; exact List.getElem_mem _)
          have hT := HT.out
          rw [List.drop_eq_getElem_cons hlt, hx, normA] at hT
          obtain ⟨b, off, rfl, hb, hc⟩ := (HV.out.below (HB0.out.trans (HBr.out.mono HB0.out.size))).get j hlt
          have c0 := hc 0 _ rfl
          rw [Nat.mul_one, Nat.add_zero, hx] at c0
          have hsr := blk_below HBr.out (lt_of_blk HS0.out) HS0.out
          obtain ⟨s0, s1, s2, s3⟩ := cellsS hsr
          have HT2 := Lib.hid hT
          clear hc hT hx hsr HT
          go_wp2_with fail
          refine (normal_s Any1 _ vt vn vs s j ⟨x.toArray⟩ _ (HS.out.below (HB0.out.trans (HBr.out.mono HB0.out.size))) (by rw [mk_size]; omega)).mono ?_
          rw [show (⟨x.toArray⟩ : ByteArray).data.toList = x by simp]
          obtain ⟨nb, hnb⟩ : ∃ nb, normalB s j x = nb := ⟨_, rfl⟩
          rw [hnb] at HT2 ⊢
          rintro e w2 ⟨rfl, hb2⟩
          have HB2 := Lib.hid (HBr.out.trans (hb2.mono HBr.out.size))
          clear hb2 hnb s0 s1 s2 s3 c0
          cases nb
          · have h7 : c = 7 := by rw [HVal2.out, ← HT2.out]; rfl
            subst h7
            go_wp2_with fail
            go_ret
            exact ⟨rfl, HB0.out.trans (HB2.out.mono HB0.out.size)⟩
          · go_wp2_with fail
            go_roundw
            case rel => exact ⟨j + 1, by go_num, by omega, Lib.hid (by rw [← HT2.out, Bool.true_and]), HB2.out⟩
            case measure => simp [intOf]; omega
        · have hq : decide ((j : Int) < vals.length) = false := by simp; omega
          obtain rfl : j = vals.length := by omega
          have h0 : c = 0 := by rw [HVal2.out, ← HT.out, List.drop_length]; rfl
          subst h0
          go_wp2_with fail
          go_ret
          exact ⟨rfl, HB0.out.trans (HBr.out.mono HB0.out.size)⟩
    · have h7 : c = 7 := by rw [HVal.out, hnum]; simp [hlen]
      have hne : ((vals.length : Int) != (s.fields.length : Int)) = true := by simp; omega
      subst h7
      clear hnum HVal hlen
      go_enter Tryz.func93, Tryz.ntmps93
      go_wp2_with fail
      refine (numbered_any _ _ _).mono ?_
      rw [HN.out]
      rintro e w1 ⟨rfl, rfl⟩
      go_wp2_with fail
      go_ret
      exact ⟨rfl, ((Below.refl w.heap.size w).alloc (Nat.le_refl _) _).alloc (by simp) _⟩
set_option maxHeartbeats 4000000 in
theorem rcheck_all (S : Nat → Prop) (vf vt vn vs : Value) (s : SchemaL) (r : RecL) (sv : Value) (w : World) (h : SchemaAt w S vf vt vn vs s) (hv : Vec w Any1 1 encS sv r.vals) (hs : ∀ x ∈ r.vals, x.length ≤ 1000000) (hn : r.vals.length ≤ 1000000) :
    Calls Tryz.prog 52 #[.agg #[vf, vt, vn, vs], .agg #[.int .i64 r.id, .int .i64 r.ver, sv]] w fun e w' => e = .returned (.int .i64 (checkN s r)) ∧ Below w.heap.size w w' := by
  have hval : checkN s r = if checkS s = 0 then checkI s r else checkS s := rfl
  obtain ⟨c, hc⟩ : ∃ c, checkN s r = c := ⟨_, rfl⟩
  obtain ⟨d, hd⟩ : ∃ d, checkS s = d := ⟨_, rfl⟩
  rw [hc, hd] at hval
  rw [hc]
  have HV := Lib.hid hv; have HS := Lib.hid h.any; have HVal := Lib.hid hval; have HD := Lib.hid hd; have HSh := Lib.hid hs
  clear hv h hval hc hd hs
  have LV : Vec w Any1 1 encS sv r.vals := HV.out
  obtain ⟨a, cap, rfl⟩ := LV.slice
  clear LV
  by_cases h0 : d = 0
  · subst h0
    have HV2 := Lib.hid (show checkI s r = c by rw [HVal.out, if_pos rfl])
    go_enter Tryz.func52, Tryz.ntmps52
    go_wp2_with fail
    refine wp_calls_world (fun W hW => ?_)
    have hb0 : Below w.heap.size w W := by rw [hW]; exact ((Below.refl w.heap.size w).alloc (Nat.le_refl _) _).alloc (by simp) _
    have hs0 : W.heap[w.heap.size]? = some (.cells #[vf, vt, vn, vs] 33 (0, 0)) := by rw [hW]; exact blk_old (blk_new rfl)
    have hr0 : W.heap[w.heap.size + 1]? = some (.cells #[.int .i64 r.id, .int .i64 r.ver, .slice a r.vals.length cap] 42 (0, 0)) := by rw [hW]; exact blk_new (by simp)
    clear hW
    refine (scheck_any Any1 _ _ _ _ s _ (HS.out.below hb0)).mono ?_
    rw [HD.out]
    rintro e w1 ⟨rfl, hb⟩
    have hs1 := blk_below hb (lt_of_blk hs0) hs0; have hr1 := blk_below hb (lt_of_blk hr0) hr0
    have HB1 := Lib.hid (hb0.trans (hb.mono hb0.size))
    obtain ⟨s0, s1, s2, s3⟩ := cellsS hs1; obtain ⟨r0, r1, r2⟩ := cells3 hr1
    clear hb hb0 hs0 hr0 hs1 hr1
    go_wp2_with fail
    refine (rchk_any Any1 _ _ _ _ s r _ _ (HS.out.below HB1.out) (HV.out.below HB1.out) HSh.out hn).mono ?_
    rw [HV2.out]
    rintro e w2 ⟨rfl, hb⟩
    have HB2 := Lib.hid (HB1.out.trans (hb.mono HB1.out.size))
    clear hb s0 s1 s2 s3 r0 r1 r2
    go_wp2_with fail
    go_ret
    exact ⟨rfl, HB2.out⟩
  · have h1 : c = d := by rw [HVal.out, if_neg h0]
    subst h1
    have hne : (c != 0) = true := by simpa using h0
    clear h0
    go_enter Tryz.func52, Tryz.ntmps52
    go_wp2_with fail
    refine (scheck_any Any1 _ _ _ _ s _ (HS.out.below (((Below.refl w.heap.size w).alloc (Nat.le_refl _) _).alloc (by simp) _))).mono ?_
    rw [HD.out]
    rintro e w1 ⟨rfl, hb⟩
    have HB1 := Lib.hid ((((Below.refl w.heap.size w).alloc (Nat.le_refl _) (.cells #[vf, vt, vn, vs] 33)).alloc (by simp) (.cells #[.int .i64 r.id, .int .i64 r.ver, .slice a r.vals.length cap] 42)).trans (hb.mono (by simp; omega)))
    clear hb
    go_wp2_with fail
    go_ret
    exact ⟨rfl, HB1.out⟩
end Go.Proofs.YthdolmofeeniaaaGreatDoor
end
section
/- blocking, the program's: check, Part. -/
set_option linter.unusedSimpArgs false
set_option linter.unusedVariables false
set_option maxRecDepth 100000
namespace Go.Proofs.YthdolmofeeniaaaGreatDoor
open Go.RowKit
theorem sndGo_len (l : List UInt8) : ∀ (la : UInt8) (out : List UInt8), out.length ≤ 4 → (sndGo la out l).length ≤ 4 := by
  induction l with
  | nil => intro la out h; exact h
  | cons c l ih =>
    intro la out h
    unfold sndGo
    split
    next h4 =>
      refine ih _ _ ?_
      unfold sndStep
      split
      · exact h
      · split
        · simp; omega
        · exact h
    next h4 => exact h
theorem soundL_len (l : List UInt8) : (soundL l).length ≤ 4 := by
  unfold soundL
  cases toks l with
  | nil => simp [sndFirst]
  | cons t T =>
    show (soundT t).length ≤ 4
    unfold soundT
    split
    · cases t with
      | nil => simp
      | cons c t =>
        show (padL (sndGo (codeB c) [c] t)).length ≤ 4
        have := sndGo_len t (codeB c) [c] (by simp)
        unfold padL
        simp only [List.length_append, List.length_replicate]; omega
    · simp
theorem numL_len (l : List UInt8) : (numL l).length ≤ l.length := by
  unfold numL
  cases h : (toks l).filter numB with
  | nil => simp
  | cons x L =>
    have hx : x ∈ toks l := (List.mem_filter.1 (by rw [h]; exact List.mem_cons_self)).1
    have := toks_le l [] x hx
    simpa using this
theorem partN_len (t : Int) (v : List UInt8) : (partN t v).length ≤ v.length + 4 := by
  unfold partN
  split
  · simp
  · unfold transN
    split
    · omega
    · split
      · have := soundL_len v; omega
      · split
        · rw [List.length_take]; omega
        · split
          · rw [List.length_take]; omega
          · have := numL_len v; omega
/-- the components of a valid key fit the values of a valid record -/
theorem comps_ok {s : SchemaL} {K : List (Int × Int)} {r : RecL} (h : KeyOk s.fields K) (hr : checkN s r = 0) (hs : ∀ x ∈ r.vals, x.length ≤ 64) : CompsOk K r.vals := by
  obtain ⟨hc, _, hl, hno⟩ := checkN_ok hr
  refine ⟨h.len2, fun c hcK => ?_, fun c hcK => ?_⟩
  · obtain ⟨f0, f1, f2⟩ := h.fit c hcK
    have hfn : c.1.toNat < r.vals.length := by omega
    have h64 : (r.vals.getD c.1.toNat []).length ≤ 64 := by rw [getD_at _ _ hfn]; exact hs _ (List.getElem_mem hfn)
    have ht : 1 ≤ c.2 ∧ c.2 ≤ 5 := by
      unfold fitsB at f2
      split at f2
      · omega
      · split at f2
        · omega
        · split at f2
          · omega
          · split at f2
            · omega
            · simp at f2
    refine ⟨f0, by omega, ht, by omega, fun h25 => ?_⟩
    by_cases h0 : r.vals.getD c.1.toNat [] = []
    · rw [h0]; intro b hb; simp at hb
    · have hnj := normA_get s r.vals 0 hno c.1.toNat hfn
      rw [Nat.zero_add] at hnj
      have hfi : findN s (c.1.toNat : Int) = ((s.fields.getD c.1.toNat default).2, 0) := findN_in hc (by omega)
      have hown : ownK (s.fields.getD c.1.toNat default).2 s.rules (r.vals.getD c.1.toNat []) = true := by
        unfold normalB at hnj
        rw [hfi, if_pos rfl, if_neg h0] at hnj
        exact hnj
      have hkk := findN_kind (s := s) (f := (c.1.toNat : Int)) (by rw [hfi])
      rw [hfi] at hkk
      refine (own_facts hown hkk).2.1 ?_
      rcases h25 with h2 | h5
      · unfold fitsB at f2; rw [h2] at f2; left; simpa using f2
      · unfold fitsB at f2; rw [h5] at f2; right; simpa using f2
  · obtain ⟨f0, f1, f2⟩ := h.fit c hcK
    have hfn : c.1.toNat < r.vals.length := by omega
    have h64 : (r.vals.getD c.1.toNat []).length ≤ 64 := by rw [getD_at _ _ hfn]; exact hs _ (List.getElem_mem hfn)
    have := partN_len c.2 (r.vals.getD c.1.toNat [])
    unfold compN
    omega
end Go.Proofs.YthdolmofeeniaaaGreatDoor
end
section
/- blocking, the program's: check, Part, Hash. -/
set_option linter.unusedSimpArgs false
set_option linter.unusedVariables false
set_option maxRecDepth 100000
namespace Go.Proofs.YthdolmofeeniaaaGreatDoor
open Go.RowKit
set_option maxHeartbeats 4000000 in
theorem bcheck2_any (S T : Nat → Prop) (vf vt vn vs kv : Value) (s : SchemaL) (Ks : List (List (Int × Int))) (i : Nat) (w : World) (h : SchemaAt w S vf vt vn vs s) (hk : KeysVec w T kv Ks) (hc : checkS s = 0) (hn : s.fields.length ≤ 1000000) (ok : KeysOk s.fields Ks) (hi : i ≤ 1000000) :
    Calls Tryz.prog 61 #[.agg #[vf, vt, vn, vs], kv, .int .i64 i] w fun e w' => e = .returned (.int .i64 (if i < Ks.length then 0 else 2)) ∧ Below w.heap.size w w' := by
  obtain ⟨ak, ck, rfl⟩ := hk.slice
  have HS := Lib.hid h; have HK := Lib.hid hk; have HOk := Lib.hid ok; have HC := Lib.hid hc
  have dz : ((0 : Int) != 0) = false := rfl
  have d0 : decide ((i : Int) < 0) = false := by simp
  obtain ⟨r, hr⟩ : ∃ r : Int, (if i < Ks.length then 0 else 2) = r := ⟨_, rfl⟩
  rw [hr]
  have HR := Lib.hid hr
  clear h hk ok hc hr
  go_enter Tryz.func61, Tryz.ntmps61
  go_wp2_with fail
  refine wp_calls_world (fun W hW => ?_)
  have hb0 : Below w.heap.size w W := by rw [hW]; exact (Below.refl w.heap.size w).alloc (Nat.le_refl _) _
  clear hW
  refine (bchk_yes S T _ _ _ _ _ s Ks W (HS.out.below hb0) (HK.out.below hb0) HC.out hn HOk.out).mono ?_
  rintro e w1 ⟨rfl, hb⟩
  have HB := Lib.hid (hb0.trans (hb.mono hb0.size))
  clear hb hb0
  by_cases hlt : i < Ks.length
  · have d1 : decide ((Ks.length : Int) ≤ (i : Int)) = false := by simp; omega
    have hr := HR.out
    rw [if_pos hlt] at hr
    subst hr
    go_wp2_with fail
    go_ret
    exact ⟨rfl, HB.out⟩
  · have d1 : decide ((Ks.length : Int) ≤ (i : Int)) = true := by simp; omega
    have hr := HR.out
    rw [if_neg hlt] at hr
    subst hr
    go_wp2_with fail
    go_ret
    exact ⟨rfl, HB.out⟩
set_option maxHeartbeats 4000000 in
theorem bpart_yes (S : Nat → Prop) (vf vt vn vs : Value) (s : SchemaL) (c : Int × Int) (r : RecL) (sv : Value) (w : World) (h : SchemaAt w S vf vt vn vs s) (hv : Vec w Any1 1 encS sv r.vals) (hr : checkN s r = 0) (hs : ∀ x ∈ r.vals, x.length ≤ 64) (hn : s.fields.length ≤ 1000) (hc0 : 0 ≤ c.1) (hc1 : c.1 < s.fields.length) (hft : fitsB c.2 (s.fields.getD c.1.toNat default).2 = true)
    (hf : 1 ≤ c.2 ∧ c.2 ≤ 5) (hl : (r.vals.getD c.1.toNat []).length ≤ 1000) (has : c.2 = 2 ∨ c.2 = 5 → ascii (r.vals.getD c.1.toNat [])) :
    Calls Tryz.prog 16 #[.agg #[vf, vt, vn, vs], .agg #[.int .i64 c.1, .int .i64 c.2], .agg #[.int .i64 r.id, .int .i64 r.ver, sv]] w fun e w' => e = .returned (strV (compN r.vals c)) ∧ Below w.heap.size w w' := by
  obtain ⟨av, cv, rfl⟩ := hv.slice
  have hvl := (checkN_ok hr).2.2.1
  obtain ⟨f, t⟩ := c
  dsimp only at hc0 hc1 hft hf hl has ⊢
  obtain ⟨fn, rfl⟩ : ∃ fn : Nat, f = fn := ⟨f.toNat, by omega⟩
  have hfn : fn < s.fields.length := by omega
  have hfv : fn < r.vals.length := by omega
  have hvn : r.vals.length ≤ 1000 := by omega
  have hft2 : fitsB t (s.fields.getD fn default).2 = true := hft
  have hl2 : (r.vals.getD fn []).length ≤ 1000 := hl
  obtain ⟨y, hy⟩ : ∃ y, partN t (r.vals.getD fn []) = y := ⟨_, rfl⟩
  have hy2 : compN r.vals ((fn : Int), t) = y := hy
  rw [hy2]
  have HS := Lib.hid h; have HV := Lib.hid hv; have HR := Lib.hid hr; have HSh := Lib.hid hs; have HFT := Lib.hid hft2; have HAs := Lib.hid (show t = 2 ∨ t = 5 → ascii (r.vals.getD fn []) from has); have HY := Lib.hid hy
  have dz : ((0 : Int) != 0) = false := rfl
  clear h hv hr hs hft hft2 has hl hvl hy hy2 hc0 hc1
  obtain ⟨rid, rver, vals⟩ := r
  dsimp only at HV hfv hvn hl2 HY HAs HSh ⊢
  go_enter Tryz.func16, Tryz.ntmps16
  go_wp2_with fail
  refine wp_calls_world (fun W hW => ?_)
  have hb0 : Below w.heap.size w W := by rw [hW]; exact (((Below.refl w.heap.size w).alloc (Nat.le_refl _) _).alloc (by simp) _).alloc (by simp; omega) _
  have hs0 : W.heap[w.heap.size]? = some (.cells #[vf, vt, vn, vs] 33 (0, 0)) := by rw [hW]; exact blk_old (blk_old (blk_new rfl))
  have hc0 : W.heap[w.heap.size + 1]? = some (.cells #[.int .i64 fn, .int .i64 t] 48 (0, 0)) := by rw [hW]; exact blk_old (blk_new (by simp))
  have hr0 : W.heap[w.heap.size + 2]? = some (.cells #[.int .i64 rid, .int .i64 rver, .slice av vals.length cv] 42 (0, 0)) := by rw [hW]; exact blk_new (by simp)
  clear hW
  refine (rcheck_all S _ _ _ _ s ⟨rid, rver, vals⟩ _ W (HS.out.below hb0) (HV.out.below hb0) (fun x hx => by have := HSh.out x hx; omega) (by show vals.length ≤ _; omega)).mono ?_
  rw [HR.out]
  rintro e w1 ⟨rfl, hb⟩
  have hs1 := blk_below hb (lt_of_blk hs0) hs0; have hc1 := blk_below hb (lt_of_blk hc0) hc0; have hr1 := blk_below hb (lt_of_blk hr0) hr0
  have HB1 := Lib.hid (hb0.trans (hb.mono hb0.size)); have HC1 := Lib.hid hc1; have HR1 := Lib.hid hr1
  obtain ⟨s0, s1, s2, s3⟩ := cellsS hs1; obtain ⟨c0, c1⟩ := cells2K hc1
  clear hb hb0 hs0 hc0 hr0 hs1 hc1 hr1
  go_wp2_with fail
  refine (right_in S _ _ _ _ s.fields fn t _ ((HS.out.below HB1.out).1) hfn (by omega)).mono ?_
  rw [HFT.out]
  rintro e w2 ⟨rfl, hb⟩
  have hc2 := blk_below hb (lt_of_blk HC1.out) HC1.out; have hr2 := blk_below hb (lt_of_blk HR1.out) HR1.out
  have HB2 := Lib.hid (HB1.out.trans (hb.mono HB1.out.size))
  clear hb s0 s1 s2 s3 c0 c1
  obtain ⟨c0, c1⟩ := cells2K hc2; obtain ⟨r0, r1, r2⟩ := cells3 hr2
  clear hc2 hr2
  go_wp2_with fail
  refine (part_yes fn t rid rver _ vals w2 (HV.out.below HB2.out) hfv (by omega) hf hl2 HAs.out).mono ?_
  rw [HY.out]
  rintro e w3 ⟨rfl, hb⟩
  go_wp2_with fail
  go_ret
  exact ⟨rfl, HB2.out.trans (hb.mono HB2.out.size)⟩
end Go.Proofs.YthdolmofeeniaaaGreatDoor
end
section
/- blocking, the program's: Hash of a valid record for one of valid block keys. -/
set_option linter.unusedSimpArgs false
set_option linter.unusedVariables false
set_option maxRecDepth 100000
namespace Go.Proofs.YthdolmofeeniaaaGreatDoor
open Go.RowKit
set_option maxHeartbeats 4000000 in
theorem bHash_yes (S T : Nat → Prop) (vf vt vn vs kv : Value) (s : SchemaL) (k : Int × Int) (Ks : List (List (Int × Int))) (i : Nat) (r : RecL) (sv : Value) (w : World) (h : SchemaAt w S vf vt vn vs s) (hk : KeysVec w T kv Ks) (hv : Vec w Any1 1 encS sv r.vals) (hr : checkN s r = 0) (hs : ∀ x ∈ r.vals, x.length ≤ 64) (hn : s.fields.length ≤ 1000) (ok : KeysOk s.fields Ks) (hi : i < Ks.length) :
    Calls Tryz.prog 17 #[.agg #[vf, vt, vn, vs], .agg #[.int .u64 k.1, .int .u64 k.2], kv, .int .i64 i, .agg #[.int .i64 r.id, .int .i64 r.ver, sv]] w fun e w' =>
      e = .returned (.tuple #[.int .u64 (bhashN k i ((Ks.getD i []).map (compN r.vals))).1, .bool (bhashN k i ((Ks.getD i []).map (compN r.vals))).2, .int .i64 0]) ∧ Below w.heap.size w w' := by
  obtain ⟨ak, ck, rfl⟩ := hk.slice
  obtain ⟨av, cv, rfl⟩ := hv.slice
  have hc := (checkN_ok hr).1
  have hvl := (checkN_ok hr).2.2.1
  have hvn : r.vals.length ≤ 1000 := by omega
  have hco := comps_ok (ok.key (Ks.getD i []) (by rw [getD_at _ _ hi]; exact List.getElem_mem hi)) hr hs
  have h8 := ok.len
  obtain ⟨⟨h0, b0⟩, hR⟩ : ∃ R, bhashN k i ((Ks.getD i []).map (compN r.vals)) = R := ⟨_, rfl⟩
  rw [hR]
  have HS := Lib.hid h; have HK := Lib.hid hk; have HV := Lib.hid hv; have HRc := Lib.hid hr; have HSh := Lib.hid hs; have HOk := Lib.hid ok; have HC := Lib.hid hc; have HCo := Lib.hid hco; have HR := Lib.hid hR
  have hck := Lib.hid (show (if i < Ks.length then (0 : Int) else 2) = 0 from if_pos hi)
  have dz : ((0 : Int) != 0) = false := rfl
  have hii : (i : Int) < (Ks.length : Int) := by omega
  clear h hk hv hr hs ok hc hco hR hvl
  obtain ⟨rid, rver, vals⟩ := r
  dsimp only at HV HSh hvn HCo HR ⊢
  go_enter Tryz.func17, Tryz.ntmps17
  go_wp2_with fail
  refine wp_calls_world (fun W hW => ?_)
  have hb0 : Below w.heap.size w W := by rw [hW]; exact (((Below.refl w.heap.size w).alloc (Nat.le_refl _) _).alloc (by simp) _).alloc (by simp; omega) _
  have hs0 : W.heap[w.heap.size]? = some (.cells #[vf, vt, vn, vs] 33 (0, 0)) := by rw [hW]; exact blk_old (blk_old (blk_new rfl))
  have hk0 : W.heap[w.heap.size + 1]? = some (.cells #[.int .u64 k.1, .int .u64 k.2] 39 (0, 0)) := by rw [hW]; exact blk_old (blk_new (by simp))
  have hr0 : W.heap[w.heap.size + 2]? = some (.cells #[.int .i64 rid, .int .i64 rver, .slice av vals.length cv] 42 (0, 0)) := by rw [hW]; exact blk_new (by simp)
  clear hW
  refine (bcheck2_any S T _ _ _ _ _ s Ks i W (HS.out.below hb0) (HK.out.below hb0) HC.out (by omega) HOk.out (by omega)).mono ?_
  rw [hck.out]
  rintro e w1 ⟨rfl, hb⟩
  have hs1 := blk_below hb (lt_of_blk hs0) hs0; have hk1 := blk_below hb (lt_of_blk hk0) hk0; have hr1 := blk_below hb (lt_of_blk hr0) hr0
  have HB1 := Lib.hid (hb0.trans (hb.mono hb0.size)); have HK1 := Lib.hid hk1; have HR1 := Lib.hid hr1
  obtain ⟨s0, s1, s2, s3⟩ := cellsS hs1; obtain ⟨r0, r1, r2⟩ := cells3 hr1
  clear hb hb0 hs0 hk0 hr0 hs1 hk1 hr1
  go_wp2_with fail
  refine (rcheck_all S _ _ _ _ s ⟨rid, rver, vals⟩ _ w1 (HS.out.below HB1.out) (HV.out.below HB1.out) (fun x hx => by have := HSh.out x hx; omega) (by show vals.length ≤ _; omega)).mono ?_
  rw [HRc.out]
  rintro e w2 ⟨rfl, hb⟩
  have hk2 := blk_below hb (lt_of_blk HK1.out) HK1.out; have hr2 := blk_below hb (lt_of_blk HR1.out) HR1.out
  have HB2 := Lib.hid (HB1.out.trans (hb.mono HB1.out.size))
  clear hb s0 s1 s2 s3 r0 r1 r2
  obtain ⟨k0, k1⟩ := cells2K hk2; obtain ⟨r0, r1, r2⟩ := cells3 hr2
  have lk := lt_of_blk hk2; have lr := lt_of_blk hr2
  obtain ⟨b, off, c, rfl, lb, c0, hvc⟩ := (HK.out.below HB2.out).at i hi
  obtain ⟨ca, cn, cc⟩ := c
  dsimp only at c0 hvc
  have HVC := Lib.hid hvc
  clear hk2 hr2 hvc
  go_wp2_with fail
  have bD : Below w2.heap.size w2 w2.drew := (Below.refl _ _).drew
  refine wp_region_noPanic ?_
  refine wp_region_held_drew (S := (fun w' => w'.cell? ⟨w.heap.size + 1, 0, none⟩ = some (.int .u64 k.1) ∧ w'.cell? ⟨w.heap.size + 1, 1, none⟩ = some (.int .u64 k.2) ∧ w'.cell? ⟨b, off + i, none⟩ = some (.slice ca cn cc) ∧ w'.cell? ⟨w.heap.size + 2, 0, none⟩ = some (.int .i64 rid) ∧ w'.cell? ⟨w.heap.size + 2, 1, none⟩ = some (.int .i64 rver) ∧ w'.cell? ⟨w.heap.size + 2, 2, none⟩ = some (.slice av vals.length cv))) (by kernel_rfl) (⟨k0, k1, c0, r0, r1, r2⟩) (fun hHeld => ?_)
  refine wpAnyH_take (i := 0) (v := ?_) rfl (by kernel_rfl) (by kernel_rfl) (by kernel_rfl) (fun _ _ _ h => h) (Or.inl ⟨by rfl, ?_⟩) (by assumption) ?_
  rotate_left 1
  · (intro wS hSw; (try dsimp only at hSw); go_simp; try with_reducible rfl)
  try simp only [List.getElem_toArray, List.getElem_cons_zero, List.getElem_cons_succ, Act.put, List.setIfInBounds_toArray, List.set_cons_zero, List.set_cons_succ]
  refine wpAnyH_take (i := 1) (v := ?_) rfl (by kernel_rfl) (by kernel_rfl) (by kernel_rfl) (fun _ _ _ h => h) (Or.inl ⟨by rfl, ?_⟩) (by assumption) ?_
  rotate_left 1
  · (intro wS hSw; (try dsimp only at hSw); go_simp; try with_reducible rfl)
  try simp only [List.getElem_toArray, List.getElem_cons_zero, List.getElem_cons_succ, Act.put, List.setIfInBounds_toArray, List.set_cons_zero, List.set_cons_succ]
  refine wpAnyH_take (i := 2) (v := ?_) rfl (by kernel_rfl) (by kernel_rfl) (by kernel_rfl) (fun _ _ _ h => h) (Or.inl ⟨by rfl, ?_⟩) (by assumption) ?_
  rotate_left 1
  · (intro wS hSw; (try dsimp only at hSw); go_simp; try with_reducible rfl)
  try simp only [List.getElem_toArray, List.getElem_cons_zero, List.getElem_cons_succ, Act.put, List.setIfInBounds_toArray, List.set_cons_zero, List.set_cons_succ]
  refine wpAnyH_take (i := 3) (v := ?_) rfl (by kernel_rfl) (by kernel_rfl) (by kernel_rfl) (fun _ _ _ h => h) (Or.inl ⟨by rfl, ?_⟩) (by assumption) ?_
  rotate_left 1
  · (intro wS hSw; (try dsimp only at hSw); go_simp; try with_reducible rfl)
  try simp only [List.getElem_toArray, List.getElem_cons_zero, List.getElem_cons_succ, Act.put, List.setIfInBounds_toArray, List.set_cons_zero, List.set_cons_succ]
  refine wpAnyH_take (i := 4) (v := ?_) rfl (by kernel_rfl) (by kernel_rfl) (by kernel_rfl) (fun _ _ _ h => h) (Or.inl ⟨by rfl, ?_⟩) (by assumption) ?_
  rotate_left 1
  · (intro wS hSw; (try dsimp only at hSw); go_simp; try with_reducible rfl)
  try simp only [List.getElem_toArray, List.getElem_cons_zero, List.getElem_cons_succ, Act.put, List.setIfInBounds_toArray, List.set_cons_zero, List.set_cons_succ]
  refine wpAnyH_take (i := 5) (v := ?_) rfl (by kernel_rfl) (by kernel_rfl) (by kernel_rfl) (fun _ _ _ h => h) (Or.inl ⟨by rfl, ?_⟩) (by assumption) ?_
  rotate_left 1
  · (intro wS hSw; (try dsimp only at hSw); go_simp; try with_reducible rfl)
  try simp only [List.getElem_toArray, List.getElem_cons_zero, List.getElem_cons_succ, Act.put, List.setIfInBounds_toArray, List.set_cons_zero, List.set_cons_succ]
  refine wpAnyH_take (i := 6) (v := ?_) rfl (by kernel_rfl) (by kernel_rfl) (by kernel_rfl) (fun _ _ _ h => h) (Or.inl ⟨by rfl, ?_⟩) (by assumption) ?_
  rotate_left 1
  · (intro wS hSw; (try dsimp only at hSw); go_simp; try with_reducible rfl)
  try simp only [List.getElem_toArray, List.getElem_cons_zero, List.getElem_cons_succ, Act.put, List.setIfInBounds_toArray, List.set_cons_zero, List.set_cons_succ]
  refine wpAnyH_ready (rs := [7]) (by kernel_rfl) (by simp) ?_
  refine AllReadyH.cons rfl (fun K hK => ?_) AllReadyH.nil
  go_simp
  refine (bhash_yes T k _ (Ks.getD i []) i rid rver _ vals _ (HVC.out.below bD) ((HV.out.below HB2.out).below bD) (by omega) HCo.out (by omega)).mono ?_; rw [HR.out]; rintro e w3 ⟨rfl, hb⟩; have b3 := bD.trans hb; clear hb
  refine hK.out _ _ (⟨(b3.cell (p := ⟨w.heap.size + 1, 0, none⟩) lk).trans k0, (b3.cell (p := ⟨w.heap.size + 1, 1, none⟩) lk).trans k1, (b3.cell (p := ⟨b, off + i, none⟩) lb).trans c0, (b3.cell (p := ⟨w.heap.size + 2, 0, none⟩) lr).trans r0, (b3.cell (p := ⟨w.heap.size + 2, 1, none⟩) lr).trans r1, (b3.cell (p := ⟨w.heap.size + 2, 2, none⟩) lr).trans r2⟩) (fun hHeld => ?_)
  clear hK K
  try simp only [List.getElem_toArray, List.getElem_cons_zero, List.getElem_cons_succ, Act.put, List.setIfInBounds_toArray, List.set_cons_zero, List.set_cons_succ]
  refine wpAnyH_take (i := 8) (v := ?_) rfl (by kernel_rfl) (by kernel_rfl) (by kernel_rfl) (fun _ _ _ h => h) (Or.inl ⟨by rfl, ?_⟩) (by assumption) ?_
  rotate_left 1
  · (intro wS hSw; (try dsimp only at hSw); go_simp; try with_reducible rfl)
  try simp only [List.getElem_toArray, List.getElem_cons_zero, List.getElem_cons_succ, Act.put, List.setIfInBounds_toArray, List.set_cons_zero, List.set_cons_succ]
  refine wpAnyH_take (i := 9) (v := ?_) rfl (by kernel_rfl) (by kernel_rfl) (by kernel_rfl) (fun _ _ _ h => h) (Or.inl ⟨by rfl, ?_⟩) (by assumption) ?_
  rotate_left 1
  · (intro wS hSw; (try dsimp only at hSw); go_simp; try with_reducible rfl)
  try simp only [List.getElem_toArray, List.getElem_cons_zero, List.getElem_cons_succ, Act.put, List.setIfInBounds_toArray, List.set_cons_zero, List.set_cons_succ]
  refine wpAnyH_take (i := 10) (v := ?_) rfl (by kernel_rfl) (by kernel_rfl) (by kernel_rfl) (fun _ _ _ h => h) (Or.inl ⟨by rfl, ?_⟩) (by assumption) ?_
  rotate_left 1
  · (intro wS hSw; (try dsimp only at hSw); go_simp; try with_reducible rfl)
  try simp only [List.getElem_toArray, List.getElem_cons_zero, List.getElem_cons_succ, Act.put, List.setIfInBounds_toArray, List.set_cons_zero, List.set_cons_succ]
  refine wpAnyH_take (i := 11) (v := ?_) rfl (by kernel_rfl) (by kernel_rfl) (by kernel_rfl) (fun _ _ _ h => h) (Or.inl ⟨by rfl, ?_⟩) (by assumption) ?_
  rotate_left 1
  · (intro wS hSw; (try dsimp only at hSw); go_simp; try with_reducible rfl)
  try simp only [List.getElem_toArray, List.getElem_cons_zero, List.getElem_cons_succ, Act.put, List.setIfInBounds_toArray, List.set_cons_zero, List.set_cons_succ]
  refine wpAnyH_take (i := 12) (v := ?_) rfl (by kernel_rfl) (by kernel_rfl) (by kernel_rfl) (fun _ _ _ h => h) (Or.inl ⟨by rfl, ?_⟩) (by assumption) ?_
  rotate_left 1
  · (intro wS hSw; (try dsimp only at hSw); go_simp; try with_reducible rfl)
  try simp only [List.getElem_toArray, List.getElem_cons_zero, List.getElem_cons_succ, Act.put, List.setIfInBounds_toArray, List.set_cons_zero, List.set_cons_succ]
  refine wpAnyH_done (by kernel_rfl) ?_ _
  refine NoPanic.normal ?_
  go_wp2_with fail
  go_ret3
  exact ⟨rfl, HB2.out.trans (b3.mono HB2.out.size)⟩
end Go.Proofs.YthdolmofeeniaaaGreatDoor
end
section
/- encode, the program's: Valid, Same. -/
set_option linter.unusedSimpArgs false
set_option linter.unusedVariables false
set_option maxRecDepth 100000
namespace Go.Proofs.YthdolmofeeniaaaGreatDoor
open Go.RowKit
/-- the cells of one of some arrays -/
theorem BitsVec.at {w : World} {S : Nat → Prop} {a : Option Addr} {n cap : Nat} {L : List BitsL} (h : BitsVec w S (.slice a n cap) L) (j : Nat) (hj : j < L.length) :
    ∃ (b off : Nat) (c : BV), a = some ⟨b, off, none⟩ ∧ b < w.heap.size ∧ w.cell? ⟨b, off + j * 2, none⟩ = some (.int .i64 c.len) ∧ w.cell? ⟨b, off + j * 2 + 1, none⟩ = some (.slice c.a c.n c.c) ∧ BitsAt w S (.agg (encBV c).toArray) (L.getD j noBits) := by
  obtain ⟨C, hC, hA⟩ := h
  have hj2 : j < C.length := by rw [hA.1]; exact hj
  obtain ⟨b, off, e, hb, hc⟩ := hC.get j hj2
  refine ⟨b, off, C[j], e, hb, by have := hc 0 _ rfl; simpa using this, by have := hc 1 _ rfl; simpa using this, ?_⟩
  rw [getD_at _ _ hj]
  exact hA.2 j hj2 hj
theorem BitsVec.len {w : World} {S : Nat → Prop} {a : Option Addr} {n cap : Nat} {L : List BitsL} (h : BitsVec w S (.slice a n cap) L) : n = L.length ∧ n ≤ cap := by
  obtain ⟨C, hC, hA⟩ := h
  have := hC.len; have := hA.1; omega
end Go.Proofs.YthdolmofeeniaaaGreatDoor
end
section
/- encode, the program's: parameters that are valid; Record. -/
set_option linter.unusedSimpArgs false
set_option linter.unusedVariables false
set_option maxRecDepth 100000
namespace Go.Proofs.YthdolmofeeniaaaGreatDoor
open Go.RowKit Cal
attribute [local go_sem] toList_mk mk_size str_append
/-- parameters that are valid for a number of fields -/
structure ParsOk (P : List ParL) : Prop where
  par : ∀ i, i < P.length → ParOk (P.getD i default)
  salt : ∀ i, i < P.length → (P.getD i default).salt < P.length ∧ (P.getD i default).salt ≠ i
/-- what a record and parameters must be for encode.Record to succeed -/
structure RecIn (s : SchemaL) (P : List ParL) (r : RecL) : Prop where
  chk : checkS s = 0
  rec_ : checkN s r = 0
  len : P.length = s.fields.length
  pars : ParsOk P
  short : ∀ v ∈ r.vals, v.length ≤ 64
theorem RecIn.enc {s : SchemaL} {P : List ParL} {r : RecL} (h : RecIn s P r) : EncIn s P r.vals := by
  obtain ⟨_, hnum, hl, hno⟩ := checkN_ok h.rec_
  have h5 := (check_fields h.chk).1.2
  have hl2 := h.len
  refine ⟨by omega, by omega, fun i hi => ⟨h.pars.par i hi, by have := (h.pars.salt i hi).1; omega, by omega, by omega, ?_, ?_, h.short⟩⟩
  · rw [findN_in h.chk (by omega)]
  · have := normA_get s r.vals 0 hno i (by omega)
    rwa [Nat.zero_add] at this
end Go.Proofs.YthdolmofeeniaaaGreatDoor
end
section
/- encode, the program's: the line of a record whose arrays are all missing. -/
set_option linter.unusedSimpArgs false
set_option linter.unusedVariables false
set_option maxRecDepth 100000
namespace Go.Proofs.YthdolmofeeniaaaGreatDoor
open Go.RowKit
attribute [local go_sem] toList_mk mk_size str_append
theorem EncVal.below {w w' : World} {S : Nat → Prop} {v : Value} {e : EncL} (h : EncVal w S v e) (hb : Below w.heap.size w w') : EncVal w' S v e := by
  obtain ⟨s, rfl, h⟩ := h; exact ⟨s, rfl, h.below hb⟩
/-- a row that lies in a block of its own -/
theorem own_new {α : Type} {w0 w : World} {e : TypeId} {enc : α → List Value} {L : List α} {g size n : Nat} (hb : Below w0.heap.size w0 w) (hg : w0.heap.size ≤ g) (h : w.heap[g]? = some (.cells (L.flatMap enc).toArray e (0, 0))) (hl : (L.flatMap enc).length = L.length * size) (hm : L.length ≤ 1000000) (hn : n = L.length) :
    OwnV e size enc w0 (.slice (some ⟨g, 0, none⟩) n n) L w := by
  subst hn
  exact ⟨⟨hl, .inr ⟨g, L.length, _, rfl, hg, h, Nat.le_refl _, by unfold maxLen; omega, by simpa using hl, by rw [← hl]; show List.take _ (L.flatMap enc) = _; exact List.take_length⟩⟩, hb⟩
end Go.Proofs.YthdolmofeeniaaaGreatDoor
end
section
/- Plain: what a value influences; keys of fields. -/
set_option linter.unusedSimpArgs false
set_option linter.unusedVariables false
namespace Go.Proofs.YthdolmofeeniaaaGreatDoor
open Go.RowKit
theorem digs_one (i : Nat) (h : i < 10) : Lib.decDigits i = [UInt8.ofNat (48 + i)] := by
  have : ∀ j : Fin 10, Lib.decDigits j = [UInt8.ofNat (48 + j.val)] := by decide +kernel
  exact this ⟨i, h⟩
end Go.Proofs.YthdolmofeeniaaaGreatDoor
end
section
/- recordlinkref01.Number of a digit; blocking.Hash of an index that no key has. -/
set_option linter.unusedSimpArgs false
set_option linter.unusedVariables false
set_option maxRecDepth 100000
namespace Go.Proofs.YthdolmofeeniaaaGreatDoor
open Go.RowKit
attribute [local go_sem] toList_mk mk_size
set_option maxHeartbeats 1000000 in
theorem rnumber_one (n : Nat) (w : World) (hn : n < 10) : Calls Tryz.prog 20 #[.int .i64 n] w fun e w' => e = .returned (strV (Lib.decDigits n)) ∧ Below w.heap.size w w' := by
  obtain ⟨c, hc⟩ : ∃ c : UInt8, UInt8.ofNat (48 + n) = c := ⟨_, rfl⟩
  have hcv : 48 + (n : Int) = (c.toNat : Int) := by rw [← hc, UInt8.toNat_ofNat']; omega
  rw [digs_one n hn, hc]
  have d1 : decide ((n : Int) < 10) = true := by simp; omega
  have hm : max (n : Int) 0 = (n : Int) := by omega
  have hown := (own_new (w0 := w) (w := w.alloc (.cells #[.int .u8 (48 + (n : Int))] 5)) (enc := encB) (L := [c]) (size := 1) (n := 1) (e := 5) (g := w.heap.size) ((Below.refl _ _).alloc (Nat.le_refl _) _) (Nat.le_refl _) (by rw [hcv]; exact blk_new rfl) rfl (by simp) rfl).1
  have hconv := run_convert_owned (P := Tryz.prog) [c] hown Tryz.underlying85 Tryz.underlying5 Tryz.underlying9
  clear hown hc hcv
  go_enter Tryz.func20, Tryz.ntmps20
  go_wp2_with fail
  go_ret
  exact ⟨rfl, (Below.refl _ _).alloc (Nat.le_refl _) _⟩
set_option maxHeartbeats 4000000 in
theorem bHash_out (S T : Nat → Prop) (vf vt vn vs kv rv : Value) (s : SchemaL) (k : Int × Int) (Ks : List (List (Int × Int))) (rc : Array Value) (i : Nat) (w : World) (h : SchemaAt w S vf vt vn vs s) (hk : KeysVec w T kv Ks) (hc : checkS s = 0) (hn : s.fields.length ≤ 1000) (ok : KeysOk s.fields Ks) (hi : Ks.length ≤ i) (hi2 : i ≤ 1000000) (id ver : Int) (sv : Value) :
    Calls Tryz.prog 17 #[.agg #[vf, vt, vn, vs], .agg #[.int .u64 k.1, .int .u64 k.2], kv, .int .i64 i, .agg #[.int .i64 id, .int .i64 ver, sv]] w fun e w' => e = .returned (.tuple #[.int .u64 0, .bool false, .int .i64 2]) ∧ Below w.heap.size w w' := by
  obtain ⟨ak, ck, rfl⟩ := hk.slice
  have HS := Lib.hid h; have HK := Lib.hid hk; have HOk := Lib.hid ok; have HC := Lib.hid hc
  have hck := Lib.hid (show (if i < Ks.length then (0 : Int) else 2) = 2 from if_neg (by omega))
  have dz : ((2 : Int) != 0) = true := rfl
  clear h hk ok hc
  go_enter Tryz.func17, Tryz.ntmps17
  go_wp2_with fail
  refine wp_calls_world (fun W hW => ?_)
  have hb0 : Below w.heap.size w W := by rw [hW]; exact (((Below.refl w.heap.size w).alloc (Nat.le_refl _) _).alloc (by simp) _).alloc (by simp; omega) _
  clear hW
  refine (bcheck2_any S T _ _ _ _ _ s Ks i W (HS.out.below hb0) (HK.out.below hb0) HC.out (by omega) HOk.out hi2).mono ?_
  rw [hck.out]
  rintro e w1 ⟨rfl, hb⟩
  have HB1 := Lib.hid (hb0.trans (hb.mono hb0.size))
  clear hb hb0
  go_wp2_with fail
  go_ret3
  exact ⟨rfl, HB1.out⟩
end Go.Proofs.YthdolmofeeniaaaGreatDoor
end
section
/- blocking, the program's: the order of a block and a hash. -/
set_option linter.unusedSimpArgs false
set_option linter.unusedVariables false
set_option maxRecDepth 100000
namespace Go.Proofs.YthdolmofeeniaaaGreatDoor
open Go.RowKit
set_option maxHeartbeats 1000000 in
theorem blkcmp_any (h k : Int) (v : Value) (a : Option Addr) (n c : Nat) (w : World) : Calls Tryz.prog 119 #[.agg #[.int .u64 h, .slice a n c], .int .u64 k] w fun e w' => e = .returned (.int .i64 (cmp3 h k)) ∧ Below w.heap.size w w' := by
  obtain ⟨r, hr⟩ : ∃ r, cmp3 h k = r := ⟨_, rfl⟩
  rw [hr]
  have HR := Lib.hid hr; clear hr
  go_enter Tryz.func119, Tryz.ntmps119
  go_wp2_with fail
  refine (cmpU_any h k _).mono ?_
  rw [HR.out]
  rintro e w1 ⟨rfl, rfl⟩
  go_wp2_with fail
  go_ret
  exact ⟨rfl, (Below.refl _ _).alloc (Nat.le_refl _) _⟩
end Go.Proofs.YthdolmofeeniaaaGreatDoor
end
section
/- slices.BinarySearchFunc at blocks . -/
set_option linter.unusedSimpArgs false
set_option linter.unusedVariables false
set_option maxRecDepth 100000
namespace Go.Proofs.YthdolmofeeniaaaGreatDoor
open Go.RowKit
def BsPost (C : List BkV) (k : Int) (w : World) (e : Ending) (w' : World) : Prop := ∃ at_ : Nat, at_ ≤ C.length ∧ (∀ t, t < at_ → (C.getD t default).h < k) ∧ (∀ t, at_ ≤ t → t < C.length → k ≤ (C.getD t default).h) ∧
  e = .returned (.tuple #[.int .i64 at_, .bool (decide (at_ < C.length ∧ (C.getD at_ default).h = k))]) ∧ Below w.heap.size w w'
set_option maxHeartbeats 4000000 in
theorem bs_any (S : Nat → Prop) (v : Value) (C : List BkV) (k : Int) (w : World) (h : Vec w S 2 encBk v C) (hs : ∀ a b, a ≤ b → b < C.length → (C.getD a default).h ≤ (C.getD b default).h) (hn : C.length ≤ 1000000) :
    Calls Tryz.prog 118 #[v, .int .u64 k, .func (.func 119) #[] #[]] w (BsPost C k w) := by
  obtain ⟨a, cap, rfl⟩ := h.slice
  have HV := Lib.hid h; have HS := Lib.hid hs
  clear h hs
  go_enter Tryz.func118, Tryz.ntmps118
  go_wp2_with fail
  go_loopw [9, 10] (fun i j wr => ∃ x y : Nat, i = .int .i64 x ∧ j = .int .i64 y ∧ x ≤ y ∧ y ≤ C.length ∧ Hid (∀ t, t < x → (C.getD t default).h < k) ∧ Hid (∀ t, y ≤ t → t < C.length → k ≤ (C.getD t default).h) ∧ Below w.heap.size w wr) (fun i j _ => (intOf j).toNat - (intOf i).toNat)
  case atStart => exact ⟨0, C.length, rfl, rfl, by omega, by omega, Lib.hid (fun t ht => by omega), Lib.hid (fun t h1 h2 => by omega), Below.refl _ _⟩
  case round =>
    obtain ⟨x, y, rfl, rfl, hxy, hy, HL, HG, hbw⟩ := hrel
    have HB := Lib.hid hbw
    by_cases hlt : x < y
    · have hq : decide ((x : Int) < (y : Int)) = true := by simp; omega
      obtain ⟨m, hm⟩ : ∃ m, (x + y) / 2 = m := ⟨_, rfl⟩
      have hm1 : x ≤ m ∧ m < y := by omega
      have hdiv : ((x : Int) + (y : Int)) / 2 = (m : Int) := by omega
      have hmi : (m : Int) < (C.length : Int) := by omega
      obtain ⟨b, off, rfl, lb, hc⟩ := (HV.out.below hbw).get m (by omega)
      have c0 := hc 0 _ rfl; have c1 := hc 1 _ rfl
      rw [Nat.add_zero] at c0
      have hmC : m < C.length := by omega
      obtain ⟨cm, hcm⟩ : ∃ z, C[m] = z := ⟨_, rfl⟩
      have hcd : C.getD m default = cm := by rw [getD_at _ _ hmC]; exact hcm
      rw [hcm] at c0 c1
      have HCD := Lib.hid hcd
      obtain ⟨ch, cA, cn, cc, cids⟩ := cm
      dsimp only at c0 c1
      obtain ⟨r, hr⟩ : ∃ r, cmp3 ch k = r := ⟨_, rfl⟩
      have HR := Lib.hid hr
      clear hm hc hcm hcd hr
      go_wp2_with fail
      refine (blkcmp_any ch k (.int .u64 0) cA cn cc _).mono ?_
      rw [HR.out]
      rintro e w1 ⟨rfl, hb⟩
      have HB1 := Lib.hid (HB.out.trans (hb.mono HB.out.size))
      clear hb
      by_cases hk : ch < k
      · have hrn : r = -1 := by rw [← HR.out]; unfold cmp3; rw [if_pos hk]
        have d1 : decide (r < 0) = true := by rw [hrn]; rfl
        have HL2 := Lib.hid (show ∀ t, t < m + 1 → (C.getD t default).h < k from fun t ht => by
          have h1 := HS.out t m (by omega) hmC
          rw [HCD.out] at h1
          have h2 : (C.getD t default).h ≤ ch := h1
          omega)
        clear hrn hk
        go_wp2_with fail
        go_roundw
        case rel => exact ⟨m + 1, y, by go_num, rfl, by omega, hy, HL2, HG, HB1.out⟩
        case measure => simp [intOf]; omega
      · have d1 : decide (r < 0) = false := by
          have : r = 0 ∨ r = 1 := by
            rw [← HR.out]; unfold cmp3; rw [if_neg hk]; split
            · right; rfl
            · left; rfl
          rcases this with h | h <;> rw [h] <;> rfl
        have HG2 := Lib.hid (show ∀ t, m ≤ t → t < C.length → k ≤ (C.getD t default).h from fun t h1 h2 => by
          have h3 := HS.out m t h1 h2
          rw [HCD.out] at h3
          have h4 : ch ≤ (C.getD t default).h := h3
          omega)
        clear hk
        go_wp2_with fail
        go_roundw
        case rel => exact ⟨x, m, rfl, rfl, by omega, by omega, HL, HG2, HB1.out⟩
        case measure => simp [intOf]; omega
    · have hq : decide ((x : Int) < (y : Int)) = false := by simp; omega
      have hxy2 : x = y := by omega
      subst hxy2
      by_cases hx : x < C.length
      · have d2 : decide ((x : Int) < (C.length : Int)) = true := by simp; omega
        have hxi : (x : Int) < (C.length : Int) := by omega
        obtain ⟨b, off, rfl, lb, hc⟩ := (HV.out.below hbw).get x hx
        have c0 := hc 0 _ rfl; have c1 := hc 1 _ rfl
        rw [Nat.add_zero] at c0
        obtain ⟨cm, hcm⟩ : ∃ z, C[x] = z := ⟨_, rfl⟩
        have hcd : C.getD x default = cm := by rw [getD_at _ _ hx]; exact hcm
        rw [hcm] at c0 c1
        obtain ⟨ch, cA, cn, cc, cids⟩ := cm
        dsimp only at c0 c1
        obtain ⟨r, hr⟩ : ∃ r, cmp3 ch k = r := ⟨_, rfl⟩
        have HR := Lib.hid hr
        have HFin := Lib.hid (show Ending.returned (.tuple #[.int .i64 x, .bool (r == 0)]) = .returned (.tuple #[.int .i64 x, .bool (decide (x < C.length ∧ (C.getD x default).h = k))]) by
          have e1 : (r == 0) = decide (x < C.length ∧ (C.getD x default).h = k) := by
            rw [hcd, ← hr, beq_dec]
            apply decide_eq_decide.2
            constructor
            · intro h; exact ⟨hx, cmp3_eq h⟩
            · intro h; have h2 : ch = k := h.2; rw [h2]; exact cmp3_self k
          rw [e1])
        clear hc hcm hcd hr
        go_wp2_with fail
        refine (blkcmp_any ch k (.int .u64 0) cA cn cc _).mono ?_
        rw [HR.out]
        rintro e w1 ⟨rfl, hb⟩
        have HB1 := Lib.hid (HB.out.trans (hb.mono HB.out.size))
        clear hb
        go_wp2_with fail
        go_ret2
        exact ⟨x, by omega, HL.out, HG.out, HFin.out, HB1.out⟩
      · have d2 : decide ((x : Int) < (C.length : Int)) = false := by simp; omega
        have HFin := Lib.hid (show Ending.returned (.tuple #[.int .i64 x, .bool false]) = .returned (.tuple #[.int .i64 x, .bool (decide (x < C.length ∧ (C.getD x default).h = k))]) by
          rw [decide_eq_false (fun h => hx h.1)])
        go_wp2_with fail
        go_ret2
        exact ⟨x, by omega, HL.out, HG.out, HFin.out, HB.out⟩
end Go.Proofs.YthdolmofeeniaaaGreatDoor
end
