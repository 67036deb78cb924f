/- Parts of one proof: SchH, SchI, SchJ, SchK, SchL, SchM, SchN. -/
import Derived.Test.YtfgoiojmbphmnaaGreatDoorPartSchemaForms5
import Derived.Deep.Light
section
/- schema.Text. -/
set_option linter.unusedSimpArgs false
set_option linter.unusedVariables false
set_option maxRecDepth 100000
namespace Go.Proofs.YtfgoiojmbphmnaaGreatDoor
open Go.RowKit Cal
attribute [local go_sem] toList_mk mk_size
/-- the word of a kind -/
def kindW (k : Int) : List UInt8 := if k = 1 then [110, 97, 109, 101] else if k = 2 then [100, 97, 116, 101] else if k = 3 then [99, 111, 100, 101] else if k = 4 then [97, 100, 100, 114, 101, 115, 115] else []
theorem kindW_len (k : Int) : (kindW k).length ≤ 7 := by
  unfold kindW; repeat' split
  all_goals simp
def fieldLine (x : F2) : List UInt8 := joinL [[102, 105, 101, 108, 100], x.1, kindW x.2] ++ [10]
def titleLine (t : List UInt8) : List UInt8 := joinL [[116, 105, 116, 108, 101], t] ++ [10]
def nickLine (p : P2) : List UInt8 := joinL [[110, 105, 99, 107, 110, 97, 109, 101], p.1, p.2] ++ [10]
def streetLine (p : P2) : List UInt8 := joinL [[115, 116, 114, 101, 101, 116], p.1, p.2] ++ [10]
def textL (s : SchemaL) : List UInt8 := s.fields.flatMap fieldLine ++ (s.rules.titles.flatMap titleLine ++ (s.rules.nicks.flatMap nickLine ++ s.rules.streets.flatMap streetLine))
theorem join3_len (a b c : List UInt8) : (joinL [a, b, c]).length = a.length + b.length + c.length + 2 := by simp [joinL]; omega
theorem join2_len (a b : List UInt8) : (joinL [a, b]).length = a.length + b.length + 1 := by simp [joinL]; omega
theorem flat_bound {α : Type} {g : α → List UInt8} {m : Nat} : ∀ (L : List α), (∀ x ∈ L, (g x).length ≤ m) → (L.flatMap g).length ≤ L.length * m := by
  intro L
  induction L with
  | nil => intro _; simp
  | cons x L ih =>
    intro h
    have h1 := ih fun y hy => h y (List.mem_cons_of_mem _ hy)
    have h2 := h x List.mem_cons_self
    rw [List.flatMap_cons, List.length_append, List.length_cons, Nat.succ_mul]; omega
theorem wordB_len {t : List UInt8} (h : wordB t = true) : t.length ≤ 12 := by
  unfold wordB at h
  cases h1 : t.isEmpty <;> simp [h1] at h
  exact h.1
theorem getD_mem {α : Type} [Inhabited α] {L : List α} {p : α → Prop} (h : ∀ j, j < L.length → p (L.getD j default)) : ∀ x ∈ L, p x := by
  intro x hx
  obtain ⟨j, hj, rfl⟩ := List.mem_iff_getElem.1 hx
  have := h j hj
  rwa [List.getD, List.getElem?_eq_getElem hj] at this
/-- the lengths of all texts of a valid schema -/
theorem check_lens {s : SchemaL} (h : checkS s = 0) : (∀ x ∈ s.fields, x.1.length ≤ 12) ∧ (∀ t ∈ s.rules.titles, t.length ≤ 64) ∧ (∀ p ∈ s.rules.nicks, p.1.length ≤ 64 ∧ p.2.length ≤ 64) ∧ (∀ p ∈ s.rules.streets, p.1.length ≤ 64 ∧ p.2.length ≤ 64) := by
  obtain ⟨_, h2, h3⟩ := check_fields h
  obtain ⟨_, t1, t2, t3, _⟩ := check_zero h3
  have pr : ∀ L : List P2, pairsB L = true → ∀ p ∈ L, p.1.length ≤ 64 ∧ p.2.length ≤ 64 := fun L hL => getD_mem fun j hj => by
    have := pairs_at hL j hj
    unfold pairAtB at this
    simp only [Bool.and_eq_true] at this
    exact ⟨token_len this.1.1.1, token_len this.1.1.2⟩
  refine ⟨getD_mem fun j hj => ?_, ?_, pr _ t2, pr _ t3⟩
  · have := List.all_eq_true.1 h2 j (List.mem_range.2 hj)
    unfold fieldAtB at this
    simp only [Bool.and_eq_true] at this
    exact wordB_len this.1.1.1
  · refine getD_mem fun j hj => ?_
    have := List.all_eq_true.1 t1 j (List.mem_range.2 hj)
    unfold titleAt at this
    simp only [Bool.and_eq_true] at this
    exact token_len this.1
theorem field_kindW (kd : Int) (h1 : 1 ≤ kd) (h4 : kd ≤ 4) : ∀ w, (Instr.field 79 (.agg (kindAt kd)) 0).run Tryz.prog w = .ok (strV (kindW kd)) w := by
  obtain rfl | rfl | rfl | rfl : kd = 1 ∨ kd = 2 ∨ kd = 3 ∨ kd = 4 := by omega
  · exact fun w => by kernel_rfl
  · exact fun w => by kernel_rfl
  · exact fun w => by kernel_rfl
  · exact fun w => by kernel_rfl
theorem vec_block {w : World} {A : Nat} {L : List (List UInt8)} (h : w.heap[A]? = some (.cells (L.flatMap encS).toArray 9 (0, 0))) (n : Nat) (hn : n = L.length) : Vec w Any1 1 encS (.slice (some ⟨A, 0, none⟩) n n) L := by
  subst hn; exact RowB.vec h _ (Nat.le_refl _)
theorem flat_take {α : Type} (g : α → List UInt8) (L : List α) (k : Nat) : ((L.take k).flatMap g).length ≤ (L.flatMap g).length := by
  conv => rhs; rw [← List.take_append_drop k L]
  rw [List.flatMap_append, List.length_append]; omega
theorem take_snocA {α : Type} [Inhabited α] (T : List α) (k : Nat) (h : k < T.length) : T.take (k + 1) = T.take k ++ [T.getD k default] := by
  rw [List.take_succ_eq_append_getElem h, List.getD, List.getElem?_eq_getElem h]; rfl
theorem kept_block {b k : Nat} {w w' : World} (hk : Lib.OthersKept 5 (some b) w w') {cs : Array Value} {t : TypeId} {fr : Nat × Nat} (h : w.heap[k]? = some (.cells cs t fr)) (hne : k ≠ b) (hT : t ≠ 5) : w'.heap[k]? = some (.cells cs t fr) :=
  hk k _ h (fun e => hne (by injection e)) (fun c fz e => by injection e with e1 e2; exact hT e2)
theorem HoldsB.lt {B b : Nat} {l : List UInt8} {w : World} (h : HoldsB B b l w) : b < w.heap.size := by
  rcases h.1 with ⟨_, v, h2, _⟩ | ⟨_, v, h2, _⟩ <;> exact lt_of_blk h2
/-- what the loops of Text hold: the text so far; the blocks of w1 as they were -/
def TextAt (w1 : World) (l : List UInt8) (wr : World) : Prop := HoldsB w1.heap.size w1.heap.size l wr ∧ Below w1.heap.size w1 wr
theorem TextAt.below {w1 wr w' : World} {l : List UInt8} (h : TextAt w1 l wr) (hb : Below wr.heap.size wr w') : TextAt w1 l w' := ⟨h.1.below hb, h.2.trans (hb.mono h.2.size)⟩
set_option maxHeartbeats 8000000 in
theorem text_yes (S : Nat → Prop) (vf vt vn vs : Value) (s : SchemaL) (w : World) (h : SchemaAt w S vf vt vn vs s) (hc : checkS s = 0) :
    Calls Tryz.prog 34 #[.agg #[vf, vt, vn, vs]] w fun e w' => e = .returned (pairV (textL s, 0)) ∧ Below w.heap.size w w' := by
  obtain ⟨g1, g2, g3⟩ := check_fields hc
  obtain ⟨⟨n1, n2, n3⟩, _⟩ := check_zero g3
  obtain ⟨l1, l2, l3, l4⟩ := check_lens hc
  have B1 := flat_bound (g := fieldLine) (m := 40) s.fields (fun x hx => by have := l1 x hx; have := kindW_len x.2; unfold fieldLine; rw [List.length_append, join3_len]; simp; omega)
  have B2 := flat_bound (g := titleLine) (m := 80) s.rules.titles (fun x hx => by have := l2 x hx; unfold titleLine; rw [List.length_append, join2_len]; simp; omega)
  have B3 := flat_bound (g := nickLine) (m := 160) s.rules.nicks (fun x hx => by have := l3 x hx; unfold nickLine; rw [List.length_append, join3_len]; simp; omega)
  have B4 := flat_bound (g := streetLine) (m := 160) s.rules.streets (fun x hx => by have := l4 x hx; unfold streetLine; rw [List.length_append, join3_len]; simp; omega)
  obtain ⟨F, ⟨T, N, R⟩⟩ := s
  dsimp only at *
  obtain ⟨af, cf, rfl⟩ := h.1.slice
  obtain ⟨at1, ct, rfl⟩ := h.2.1.slice
  obtain ⟨an, cn, rfl⟩ := h.2.2.1.slice
  obtain ⟨as', cs, rfl⟩ := h.2.2.2.slice
  have HS := Lib.hid h.any
  have HC := Lib.hid hc
  have L1 := Lib.hid l1; have L2 := Lib.hid l2; have L3 := Lib.hid l3; have L4 := Lib.hid l4
  have HFk := Lib.hid g2
  clear h hc g2 g3 l1 l2 l3 l4
  dsimp only at *
  go_enter Tryz.func34, Tryz.ntmps34
  go_wp2_with fail
  refine (scheck_any Any1 _ _ _ _ _ _ (HS.out.below ((Below.refl _ _).alloc (Nat.le_refl _) _))).mono ?_
  rw [HC.out]
  rintro e w1 ⟨rfl, hb1⟩
  have X1 := blk_below (b := w.heap.size) (o := .cells #[.slice af F.length cf, .slice at1 T.length ct, .slice an N.length cn, .slice as' R.length cs] 33 (0, 0)) hb1 (by simp) (blk_new rfl)
  have HX1 := Lib.hid X1
  have z1 := lt_of_blk X1
  obtain ⟨p0, p1, p2, p3⟩ := cells4 X1
  have HB1 := Lib.hid (((Below.refl w.heap.size w).alloc (Nat.le_refl _) (.cells #[.slice af F.length cf, .slice at1 T.length ct, .slice an N.length cn, .slice as' R.length cs] 33)).trans (hb1.mono (by simp)))
  clear hb1 X1
  go_wp2_with fail
  go_loopw [24] (fun i wr => ∃ k : Nat, k ≤ F.length ∧ i = .int .i64 k ∧ TextAt w1 ((F.take k).flatMap fieldLine) wr) (fun i _ => F.length - (intOf i).toNat)
  case atStart => exact ⟨0, by omega, rfl, ⟨.inl ⟨Nat.le_refl _, _, blk_new rfl, ⟨rfl, .inl ⟨rfl, rfl⟩⟩, by simp [Value.ownBlock]⟩, by simp⟩, (Below.refl _ _).alloc (Nat.le_refl _) _⟩
  case round =>
    obtain ⟨k, hk, rfl, ho⟩ := hrel
    have HO := Lib.hid ho
    by_cases hlt : k < F.length
    · have hq : decide ((k : Int) < F.length) = true := by simp; omega
      have hi : (k : Int) < (F.length : Int) := by omega
      obtain ⟨b, off, e1, _, hb, hcc⟩ := vec_cell2 (HS.out.1.below HB1.out) (show 0 < F.length by omega)
      subst e1
      have hc := hcc k hlt
      have htk := take_snocA F k hlt
      obtain ⟨kk1, kk4⟩ := field_kind HFk.out k hlt
      have hml := L1.out (F.getD k default) (by rw [List.getD, List.getElem?_eq_getElem hlt]; exact List.getElem_mem hlt)
      obtain ⟨⟨nm, kd⟩, hx⟩ : ∃ x, F.getD k default = x := ⟨_, rfl⟩
      rw [hx] at hc htk hml kk1 kk4
      dsimp only at kk1 kk4 hml
      have c0 : wr.cell? ⟨b, off + k * 2, none⟩ = some (strV nm) := (ho.2.cell (p := ⟨b, off + k * 2, none⟩) hb).trans (hc 0 _ rfl)
      have c1 : wr.cell? ⟨b, off + k * 2 + 1, none⟩ = some (.int .i64 kd) := (ho.2.cell (p := ⟨b, off + k * 2 + 1, none⟩) hb).trans (hc 1 _ rfl)
      have hlt1 := ho.1.lt
      have HT := Lib.hid htk
      have HIX := Lib.hid (index_kind kd kk1 kk4)
      clear hx hc hcc htk ho
      go_wp2_with fail
      refine wp_world (fun wS hS => ?_)
      have bS : Below wr.heap.size wr wS := by rw [hS]; exact (Below.refl _ _).alloc (Nat.le_refl _) _
      have q0 : wS.cell? ⟨wr.heap.size, 0, none⟩ = some (strV nm) := by rw [hS]; simp
      have q1 : wS.cell? ⟨wr.heap.size, 1, none⟩ = some (.int .i64 kd) := by rw [hS]; simp
      have zS : wr.heap.size < wS.heap.size := by rw [hS]; simp
      have hY : wS.heap[wr.heap.size]? = some (.cells #[strV nm, .int .i64 kd] 42 (0, 0)) := by rw [hS]; exact blk_new rfl
      have HY := Lib.hid hY
      have HOS := Lib.hid (show TextAt w1 ((F.take k).flatMap fieldLine) wS from ⟨HO.out.1.below bS, HO.out.2.trans (bS.mono HO.out.2.size)⟩)
      clear hS bS c0 c1 hY HO p0 p1 p2 p3
      have hne4 : wr.heap.size ≠ w1.heap.size := by have := hlt1; omega
      have hacc : ((F.take k).flatMap fieldLine).length ≤ 1000000000 := by have := flat_take fieldLine F k; omega
      refine wp_region_noPanic ?_
      refine wp_region_held_drew (S := (fun w' => w'.cell? ⟨wr.heap.size, 0, none⟩ = some (strV nm) ∧ w'.cell? ⟨wr.heap.size, 1, none⟩ = some (.int .i64 kd))) (by kernel_rfl) (⟨q0, q1⟩) (fun hHeld => ?_)
      refine wpAnyH_take (i := 0) (v := ?_) rfl (by kernel_rfl) (by kernel_rfl) (by kernel_rfl) (fun _ _ _ h => h) (Or.inl ⟨by rfl, ?_⟩) (by assumption) ?_
      rotate_left 1
      · (intro wS hSw; (try dsimp only at hSw); go_simp; try with_reducible rfl)
      try simp only [List.getElem_toArray, List.getElem_cons_zero, List.getElem_cons_succ, Act.put, List.setIfInBounds_toArray, List.set_cons_zero, List.set_cons_succ]
      refine wpAnyH_take (i := 1) (v := ?_) rfl (by kernel_rfl) (by kernel_rfl) (by kernel_rfl) (fun _ _ _ h => h) (Or.inl ⟨by rfl, ?_⟩) (by assumption) ?_
      rotate_left 1
      · (intro wS hSw; (try dsimp only at hSw); go_simp; try with_reducible rfl)
      try simp only [List.getElem_toArray, List.getElem_cons_zero, List.getElem_cons_succ, Act.put, List.setIfInBounds_toArray, List.set_cons_zero, List.set_cons_succ]
      refine wpAnyH_take (i := 2) (v := ?_) rfl (by kernel_rfl) (by kernel_rfl) (by kernel_rfl) (fun _ _ _ h => h) (Or.inl ⟨by rfl, ?_⟩) (by assumption) ?_
      rotate_left 1
      · (intro wS hSw; (try dsimp only at hSw); go_simp; try with_reducible rfl)
      try simp only [List.getElem_toArray, List.getElem_cons_zero, List.getElem_cons_succ, Act.put, List.setIfInBounds_toArray, List.set_cons_zero, List.set_cons_succ]
      refine wpAnyH_take (i := 4) (v := ?_) rfl (by kernel_rfl) (by kernel_rfl) (by kernel_rfl) (fun _ _ _ h => h) (Or.inl ⟨by rfl, ?_⟩) (by assumption) ?_
      rotate_left 1
      · (intro wS hSw; (try dsimp only at hSw); go_simp; try with_reducible rfl)
      try simp only [List.getElem_toArray, List.getElem_cons_zero, List.getElem_cons_succ, Act.put, List.setIfInBounds_toArray, List.set_cons_zero, List.set_cons_succ]
      refine wpAnyH_take (i := 5) (v := ?_) rfl (by kernel_rfl) (by kernel_rfl) (by kernel_rfl) (fun _ _ _ h => h) (Or.inl ⟨by rfl, ?_⟩) (by assumption) ?_
      rotate_left 1
      · (intro wS hSw; (try dsimp only at hSw); go_simp; try with_reducible rfl)
      try simp only [List.getElem_toArray, List.getElem_cons_zero, List.getElem_cons_succ, Act.put, List.setIfInBounds_toArray, List.set_cons_zero, List.set_cons_succ]
      refine wpAnyH_ready (rs := [3]) (by kernel_rfl) (by simp) ?_
      refine AllReadyH.cons rfl (fun K hK => ?_) AllReadyH.nil
      go_simp
      refine (kinds_any _).mono ?_; rintro e w2 ⟨rfl, hb2⟩; have q0a := (hb2.cell (p := ⟨wr.heap.size, 0, none⟩) zS).trans q0; have q1a := (hb2.cell (p := ⟨wr.heap.size, 1, none⟩) zS).trans q1; have HO2 := Lib.hid (show TextAt w1 ((F.take k).flatMap fieldLine) w2 from ⟨(HOS.out.1.below (w' := wS.drew) (Below.refl _ _).drew).below hb2, (HOS.out.2.drew).trans (hb2.mono HOS.out.2.size)⟩); have HY2 := Lib.hid (blk_below hb2 zS HY.out)
      refine hK.out _ _ (⟨q0a, q1a⟩) (fun hHeld => ?_)
      clear hK K
      try simp only [List.getElem_toArray, List.getElem_cons_zero, List.getElem_cons_succ, Act.put, List.setIfInBounds_toArray, List.set_cons_zero, List.set_cons_succ]
      have hix := HIX.out
      refine wpAnyH_take (i := 6) (v := ?_) rfl (by kernel_rfl) (by kernel_rfl) (by kernel_rfl) (fun _ _ _ h => h) (Or.inl ⟨by rfl, ?_⟩) (by assumption) ?_
      rotate_left 1
      · (intro wS hSw; (try dsimp only at hSw); go_simp; try with_reducible rfl)
      try simp only [List.getElem_toArray, List.getElem_cons_zero, List.getElem_cons_succ, Act.put, List.setIfInBounds_toArray, List.set_cons_zero, List.set_cons_succ]
      clear hix
      have hfd := field_kindW kd kk1 kk4
      refine wpAnyH_take (i := 7) (v := ?_) rfl (by kernel_rfl) (by kernel_rfl) (by kernel_rfl) (fun _ _ _ h => h) (Or.inl ⟨by rfl, ?_⟩) (by assumption) ?_
      rotate_left 1
      · (intro wS hSw; (try dsimp only at hSw); go_simp; try with_reducible rfl)
      try simp only [List.getElem_toArray, List.getElem_cons_zero, List.getElem_cons_succ, Act.put, List.setIfInBounds_toArray, List.set_cons_zero, List.set_cons_succ]
      clear hfd
      refine wpAnyH_ready (rs := [8]) (by kernel_rfl) (by simp) ?_
      refine AllReadyH.cons rfl (fun K hK => ?_) AllReadyH.nil
      go_simp
      have hV3 := vec_block (w := w2.alloc (.cells #[strV [102, 105, 101, 108, 100], strV nm, strV (kindW kd)] 9)) (A := w2.heap.size) (L := [[102, 105, 101, 108, 100], nm, kindW kd]) (blk_new rfl) 3 rfl; have HV3 := Lib.hid hV3; have HO3 := Lib.hid (show TextAt w1 ((F.take k).flatMap fieldLine) (w2.alloc (.cells #[strV [102, 105, 101, 108, 100], strV nm, strV (kindW kd)] 9)) from ⟨HO2.out.1.below ((Below.refl _ _).alloc (Nat.le_refl _) _), HO2.out.2.alloc HO2.out.2.size _⟩); have q0b := (((Below.refl w2.heap.size w2).alloc (Nat.le_refl _) (.cells #[strV [102, 105, 101, 108, 100], strV nm, strV (kindW kd)] 9)).cell (p := ⟨wr.heap.size, 0, none⟩) (lt_of_blk HY2.out)).trans q0a; have q1b := (((Below.refl w2.heap.size w2).alloc (Nat.le_refl _) (.cells #[strV [102, 105, 101, 108, 100], strV nm, strV (kindW kd)] 9)).cell (p := ⟨wr.heap.size, 1, none⟩) (lt_of_blk HY2.out)).trans q1a
      refine hK.out _ _ (⟨q0b, q1b⟩) (fun hHeld => ?_)
      clear hK K
      try simp only [List.getElem_toArray, List.getElem_cons_zero, List.getElem_cons_succ, Act.put, List.setIfInBounds_toArray, List.set_cons_zero, List.set_cons_succ]
      refine wpAnyH_ready (rs := [9]) (by kernel_rfl) (by simp) ?_
      refine AllReadyH.cons rfl (fun K hK => ?_) AllReadyH.nil
      go_simp
      refine (line_any w1.heap.size w1.heap.size ((F.take k).flatMap fieldLine) _ [[102, 105, 101, 108, 100], nm, kindW kd] _ HO3.out.1 HV3.out (by simp) (by rw [join3_len]; have := kindW_len kd; simp; omega) hacc).mono ?_; rintro e w4 ⟨rfl, h4, hb4, hk4⟩; have hY4 := kept_block hk4 (blk_old HY2.out) hne4 (by decide); have q0c : w4.cell? ⟨wr.heap.size, 0, none⟩ = some (strV nm) := (cell_of_row _ _ _ _ _ _ hY4).trans rfl; have q1c : w4.cell? ⟨wr.heap.size, 1, none⟩ = some (.int .i64 kd) := (cell_of_row _ _ _ _ _ _ hY4).trans rfl; have HO4 := Lib.hid (show TextAt w1 ((F.take (k + 1)).flatMap fieldLine) w4 from ⟨by rw [HT.out, List.flatMap_append]; simpa [fieldLine] using h4, HO3.out.2.trans hb4⟩)
      refine hK.out _ _ (⟨q0c, q1c⟩) (fun hHeld => ?_)
      clear hK K
      try simp only [List.getElem_toArray, List.getElem_cons_zero, List.getElem_cons_succ, Act.put, List.setIfInBounds_toArray, List.set_cons_zero, List.set_cons_succ]
      refine wpAnyH_done (by kernel_rfl) ?_ _
      refine NoPanic.normal ?_
      go_wp2_with fail
      go_roundw
      case rel => exact ⟨k + 1, by omega, by go_num, HO4.out⟩
      case measure => simp [intOf]; omega
    · have hq : decide ((k : Int) < F.length) = false := by simp; omega
      rw [List.take_of_length_le (by omega)] at ho
      have hX := blk_below ho.2 z1 HX1.out
      obtain ⟨p0, p1, p2, p3⟩ := cells4 hX
      obtain ⟨a1, ha1⟩ : ∃ a, F.flatMap fieldLine = a := ⟨_, rfl⟩
      have ba1 : a1.length ≤ 200 := by rw [← ha1]; omega
      rw [ha1] at ho
      have Ha1 := Lib.hid ha1
      have HO := Lib.hid ho
      obtain ⟨wu, rfl⟩ : ∃ wu : World, wu = wr := ⟨_, rfl⟩
      clear ho hX ha1
      go_wp2_with fail
      clear p0 p1 p2 p3 hq
      go_loopw [43] (fun i wr => ∃ k : Nat, k ≤ T.length ∧ i = .int .i64 k ∧ TextAt w1 (a1 ++ (T.take k).flatMap titleLine) wr) (fun i _ => T.length - (intOf i).toNat)
      case atStart => exact ⟨0, by omega, rfl, by simpa using HO.out⟩
      case round =>
        clear HO
        obtain ⟨k, hk, rfl, ho⟩ := hrel
        have HO := Lib.hid ho
        by_cases hlt : k < T.length
        · have hq : decide ((k : Int) < T.length) = true := by simp; omega
          have hi : (k : Int) < (T.length : Int) := by omega
          obtain ⟨b, off, e1, _, hb, hcc⟩ := vec_cell1 (HS.out.2.1.below HB1.out) (show 0 < T.length by omega)
          subst e1
          have htk := take_snocT T k hlt
          have hml := L2.out (T.getD k []) (by rw [List.getD, List.getElem?_eq_getElem hlt]; exact List.getElem_mem hlt)
          have hc := hcc k hlt
          obtain ⟨x, hx⟩ : ∃ x, T.getD k [] = x := ⟨_, rfl⟩
          rw [hx] at hc htk hml
          have c0 : wr.cell? ⟨b, off + k, none⟩ = some (strV x) := (ho.2.cell (p := ⟨b, off + k, none⟩) hb).trans hc
          have HT := Lib.hid htk
          have hacc : (a1 ++ (T.take k).flatMap titleLine).length ≤ 1000000000 := by have := flat_take titleLine T k; rw [List.length_append]; omega
          clear hx hc hcc htk ho
          go_wp2_with fail
          have bA : Below wr.heap.size wr (wr.alloc (.cells #[strV [116, 105, 116, 108, 101], strV x] 9)) := (Below.refl _ _).alloc (Nat.le_refl _) _
          refine (line_any w1.heap.size w1.heap.size (a1 ++ (T.take k).flatMap titleLine) _ [[116, 105, 116, 108, 101], x] _ (HO.out.below bA).1 (vec_block (L := [[116, 105, 116, 108, 101], x]) (blk_new rfl) 2 rfl) (by simp) (by rw [join2_len]; simp; omega) hacc).mono ?_
          rintro e w4 ⟨rfl, h4, hb4, hk4⟩
          have HO4 := Lib.hid (show TextAt w1 (a1 ++ (T.take (k + 1)).flatMap titleLine) w4 from ⟨by rw [HT.out, List.flatMap_append, ← List.append_assoc]; simpa [titleLine] using h4, (HO.out.below bA).2.trans hb4⟩)
          clear h4 hb4 hk4 bA
          go_wp2_with fail
          go_roundw
          case rel => exact ⟨k + 1, by omega, by go_num, HO4.out⟩
          case measure => simp [intOf]; omega
        · have hq : decide ((k : Int) < T.length) = false := by simp; omega
          rw [List.take_of_length_le (by omega)] at ho
          have hX := blk_below ho.2 z1 HX1.out
          obtain ⟨p0, p1, p2, p3⟩ := cells4 hX
          obtain ⟨a2, ha2⟩ : ∃ a, a1 ++ T.flatMap titleLine = a := ⟨_, rfl⟩
          have ba2 : a2.length ≤ 3000 := by rw [← ha2]; rw [List.length_append]; omega
          rw [ha2] at ho
          have Ha2 := Lib.hid ha2
          have HO := Lib.hid ho
          obtain ⟨wu, rfl⟩ : ∃ wu : World, wu = wr := ⟨_, rfl⟩
          clear ho hX ha2
          go_wp2_with fail
          clear p0 p1 p2 p3 hq
          go_loopw [56] (fun i wr => ∃ k : Nat, k ≤ N.length ∧ i = .int .i64 k ∧ TextAt w1 (a2 ++ (N.take k).flatMap nickLine) wr) (fun i _ => N.length - (intOf i).toNat)
          case atStart => exact ⟨0, by omega, rfl, by simpa using HO.out⟩
          case round =>
            clear HO
            obtain ⟨k, hk, rfl, ho⟩ := hrel
            have HO := Lib.hid ho
            by_cases hlt : k < N.length
            · have hq : decide ((k : Int) < N.length) = true := by simp; omega
              have hi : (k : Int) < (N.length : Int) := by omega
              obtain ⟨b, off, e1, _, hb, hcc⟩ := vec_cell2 (HS.out.2.2.1.below HB1.out) (show 0 < N.length by omega)
              subst e1
              have htk := take_snocA N k hlt
              have hml := L3.out (N.getD k default) (by rw [List.getD, List.getElem?_eq_getElem hlt]; exact List.getElem_mem hlt)
              have hc := hcc k hlt
              obtain ⟨⟨xf, xt⟩, hx⟩ : ∃ x, N.getD k default = x := ⟨_, rfl⟩
              rw [hx] at hc htk hml
              obtain ⟨hm1, hm2⟩ := hml
              dsimp only at hm1 hm2
              have c0 : wr.cell? ⟨b, off + k * 2, none⟩ = some (strV xf) := (ho.2.cell (p := ⟨b, off + k * 2, none⟩) hb).trans (hc 0 _ rfl)
              have c1 : wr.cell? ⟨b, off + k * 2 + 1, none⟩ = some (strV xt) := (ho.2.cell (p := ⟨b, off + k * 2 + 1, none⟩) hb).trans (hc 1 _ rfl)
              have HT := Lib.hid htk
              have hacc : (a2 ++ (N.take k).flatMap nickLine).length ≤ 1000000000 := by have := flat_take nickLine N k; rw [List.length_append]; omega
              clear hx hc hcc htk ho
              go_wp2_with fail
              have bA : Below wr.heap.size wr ((wr.alloc (.cells #[strV xf, strV xt] 83)).alloc (.cells #[strV [110, 105, 99, 107, 110, 97, 109, 101], strV xf, strV xt] 9)) := ((Below.refl _ _).alloc (Nat.le_refl _) _).alloc (by simp) _
              refine (line_any w1.heap.size w1.heap.size (a2 ++ (N.take k).flatMap nickLine) _ [[110, 105, 99, 107, 110, 97, 109, 101], xf, xt] _ (HO.out.below bA).1 (vec_block (L := [[110, 105, 99, 107, 110, 97, 109, 101], xf, xt]) (blk_new (by simp)) 3 rfl) (by simp) (by rw [join3_len]; simp; omega) hacc).mono ?_
              rintro e w4 ⟨rfl, h4, hb4, hk4⟩
              have HO4 := Lib.hid (show TextAt w1 (a2 ++ (N.take (k + 1)).flatMap nickLine) w4 from ⟨by rw [HT.out, List.flatMap_append, ← List.append_assoc]; simpa [nickLine] using h4, (HO.out.below bA).2.trans hb4⟩)
              clear h4 hb4 hk4 bA
              go_wp2_with fail
              go_roundw
              case rel => exact ⟨k + 1, by omega, by go_num, HO4.out⟩
              case measure => simp [intOf]; omega
            · have hq : decide ((k : Int) < N.length) = false := by simp; omega
              rw [List.take_of_length_le (by omega)] at ho
              have hX := blk_below ho.2 z1 HX1.out
              obtain ⟨p0, p1, p2, p3⟩ := cells4 hX
              obtain ⟨a3, ha3⟩ : ∃ a, a2 ++ N.flatMap nickLine = a := ⟨_, rfl⟩
              have ba3 : a3.length ≤ 10000 := by rw [← ha3]; rw [List.length_append]; omega
              rw [ha3] at ho
              have Ha3 := Lib.hid ha3
              have HO := Lib.hid ho
              obtain ⟨wu, rfl⟩ : ∃ wu : World, wu = wr := ⟨_, rfl⟩
              clear ho hX ha3
              go_wp2_with fail
              clear p0 p1 p2 p3 hq
              go_loopw [72] (fun i wr => ∃ k : Nat, k ≤ R.length ∧ i = .int .i64 k ∧ TextAt w1 (a3 ++ (R.take k).flatMap streetLine) wr) (fun i _ => R.length - (intOf i).toNat)
              case atStart => exact ⟨0, by omega, rfl, by simpa using HO.out⟩
              case round =>
                clear HO
                obtain ⟨k, hk, rfl, ho⟩ := hrel
                have HO := Lib.hid ho
                by_cases hlt : k < R.length
                · have hq : decide ((k : Int) < R.length) = true := by simp; omega
                  have hi : (k : Int) < (R.length : Int) := by omega
                  obtain ⟨b, off, e1, _, hb, hcc⟩ := vec_cell2 (HS.out.2.2.2.below HB1.out) (show 0 < R.length by omega)
                  subst e1
                  have htk := take_snocA R k hlt
                  have hml := L4.out (R.getD k default) (by rw [List.getD, List.getElem?_eq_getElem hlt]; exact List.getElem_mem hlt)
                  have hc := hcc k hlt
                  obtain ⟨⟨xf, xt⟩, hx⟩ : ∃ x, R.getD k default = x := ⟨_, rfl⟩
                  rw [hx] at hc htk hml
                  obtain ⟨hm1, hm2⟩ := hml
                  dsimp only at hm1 hm2
                  have c0 : wr.cell? ⟨b, off + k * 2, none⟩ = some (strV xf) := (ho.2.cell (p := ⟨b, off + k * 2, none⟩) hb).trans (hc 0 _ rfl)
                  have c1 : wr.cell? ⟨b, off + k * 2 + 1, none⟩ = some (strV xt) := (ho.2.cell (p := ⟨b, off + k * 2 + 1, none⟩) hb).trans (hc 1 _ rfl)
                  have HT := Lib.hid htk
                  have hacc : (a3 ++ (R.take k).flatMap streetLine).length ≤ 1000000000 := by have := flat_take streetLine R k; rw [List.length_append]; omega
                  clear hx hc hcc htk ho
                  go_wp2_with fail
                  have bA : Below wr.heap.size wr ((wr.alloc (.cells #[strV xf, strV xt] 83)).alloc (.cells #[strV [115, 116, 114, 101, 101, 116], strV xf, strV xt] 9)) := ((Below.refl _ _).alloc (Nat.le_refl _) _).alloc (by simp) _
                  refine (line_any w1.heap.size w1.heap.size (a3 ++ (R.take k).flatMap streetLine) _ [[115, 116, 114, 101, 101, 116], xf, xt] _ (HO.out.below bA).1 (vec_block (L := [[115, 116, 114, 101, 101, 116], xf, xt]) (blk_new (by simp)) 3 rfl) (by simp) (by rw [join3_len]; simp; omega) hacc).mono ?_
                  rintro e w4 ⟨rfl, h4, hb4, hk4⟩
                  have HO4 := Lib.hid (show TextAt w1 (a3 ++ (R.take (k + 1)).flatMap streetLine) w4 from ⟨by rw [HT.out, List.flatMap_append, ← List.append_assoc]; simpa [streetLine] using h4, (HO.out.below bA).2.trans hb4⟩)
                  clear h4 hb4 hk4 bA
                  go_wp2_with fail
                  go_roundw
                  case rel => exact ⟨k + 1, by omega, by go_num, HO4.out⟩
                  case measure => simp [intOf]; omega
                · have hq : decide ((k : Int) < R.length) = false := by simp; omega
                  rw [List.take_of_length_le (by omega)] at ho
                  have hall : a3 ++ R.flatMap streetLine = textL ⟨F, T, N, R⟩ := by
                    rw [← Ha3.out, ← Ha2.out, ← Ha1.out]; simp [textL, List.append_assoc]
                  rw [hall] at ho
                  have HAll := Lib.hid ho
                  clear ho hall HO
                  go_wp2_with fail
                  refine (bstr_k w1.heap.size w1.heap.size _ _ HAll.out.1.1 HAll.out.1.2).mono ?_
                  rintro e w5 ⟨rfl, hb5⟩
                  have HW5 := Lib.hid (HB1.out.trans ((HAll.out.2.trans hb5).mono HB1.out.size))
                  clear hb5
                  go_wp2_with fail
                  go_ret2
                  exact ⟨rfl, HW5.out⟩
end Go.Proofs.YtfgoiojmbphmnaaGreatDoor
end
section
/- gram.Positional; schema.Grams of a day. -/
set_option linter.unusedSimpArgs false
set_option linter.unusedVariables false
set_option maxRecDepth 100000
namespace Go.Proofs.YtfgoiojmbphmnaaGreatDoor
open Go.RowKit Cal
attribute [local go_sem] toList_mk mk_size
/-- the bytes of a text with their positions, from position j on -/
def posL : Nat → List UInt8 → List (List UInt8)
  | _, [] => []
  | j, c :: l => [UInt8.ofNat (97 + j), c] :: posL (j + 1) l
theorem posL_len (l : List UInt8) : ∀ j, (posL j l).length = l.length := by
  induction l with
  | nil => intro j; rfl
  | cons c l ih => intro j; simp [posL, ih]
theorem posL_snoc (l : List UInt8) (c : UInt8) : ∀ j, posL j (l ++ [c]) = posL j l ++ [[UInt8.ofNat (97 + (j + l.length)), c]] := by
  induction l with
  | nil => intro j; simp [posL]
  | cons d l ih => intro j; simp only [List.cons_append, posL, ih, List.length_cons]; rw [show j + 1 + l.length = j + (l.length + 1) by omega]
theorem two_bytes (w : World) (a b : UInt8) : (convert 66 9 (.slice (some ⟨w.heap.size, 0, none⟩) 2 2)).run Tryz.prog (w.alloc (.cells #[.int .u8 a.toNat, .int .u8 b.toNat] 5)) = .ok (strV [a, b]) (w.alloc (.cells #[.int .u8 a.toNat, .int .u8 b.toNat] 5)) := by
  have ho : (w.alloc (.cells (([a, b] : List UInt8).map byteV).toArray 5)).ownsRow 0 5 1 (.slice (some ⟨w.heap.size, 0, none⟩) 2 2) 2 (([a, b] : List UInt8).map byteV) :=
    ⟨by simp, .inr ⟨_, _, _, rfl, Nat.zero_le _, blk_new rfl, Nat.le_refl _, size_le_maxLen (by omega), by simp, by simp⟩⟩
  exact run_convert_owned [a, b] ho Tryz.underlying66 Tryz.underlying5 Tryz.underlying9
theorem wpList_append_newk {P : Program} {w : World} {ops : Array Oper} {rest : List Oper} {o : Oper} {a : Act} {Q : Exit → Act → World → Prop} (hgd : o.guard = none) (s x : Operand) (t : TypeId)
    (ho : o.op = .call { callee := .builtin .append, args := #[s, x], argTypes := #[t, t] })
    (base : Nat) (e : TypeId) (size bytes : Nat) (z : Value) (ht : P.underlying t = some (.slice e)) (hinfo : (P.info? e).map (fun i => (i.zero, i.size, i.bytes)) = some (some z, size, bytes))
    (hzs : z.cells.size = size) (hsz : 0 < size) (hby : bytes ≤ 128)
    (v : Value) (n : Nat) (xs : List Value) (hs : a.eval s = v) (hown : w.ownsRow base e size v n xs) (k : Nat) (hk : k = w.heap.size)
    (cs : Array Value) (c : Nat) (hx : a.eval x = .slice (some ⟨k, 0, none⟩) 1 c) (hcs : cs.size = size) (h1 : ∀ u ∈ cs.toList, u.oneCell' = true)
    (hn : n < 1099511627776) (hbase : base ≤ w.heap.size)
    (h : ∀ v' w', w'.ownsRow base e size v' (n + 1) (xs ++ cs.toList) → (∀ W, Below base W w → Below base W w') → wpList P ops Q rest (a.put o.dst v') w') :
    wpList P ops Q (o :: rest) a (w.alloc (.cells cs e)) := by
  subst hk
  exact wpList_append_new hgd s x t ho base e size bytes z ht hinfo hzs hsz hby v n xs hs hown cs c hx hcs h1 hn hbase h
set_option maxHeartbeats 2000000 in
theorem positional_any (s : ByteArray) (w : World) (hs : s.size ≤ 26) :
    Calls Tryz.prog 109 #[.string s] w fun e w' => ∃ v, e = .returned v ∧ OwnAt w v (posL 0 s.data.toList) w' := by
  have hl : s.data.toList.length = s.size := by simp
  have HL := Lib.hid hl; clear hl
  have d1 : decide ((26 : Int) < s.size) = false := by simp; omega
  go_enter Tryz.func109, Tryz.ntmps109
  go_wp2_with fail
  clear d1
  go_loopw [3, 10] (fun v i wr => ∃ k : Nat, k ≤ s.size ∧ i = .int .i64 k ∧ OwnAt w v (posL 0 (s.data.toList.take k)) wr) (fun _ i _ => s.size - (intOf i).toNat)
  case atStart => exact ⟨0, by omega, rfl, OwnAt.start w⟩
  case round =>
    obtain ⟨k, hk, rfl, ho⟩ := hrel
    have HO := Lib.hid ho; clear ho
    by_cases hlt : k < s.size
    · have hq : decide ((k : Int) < s.size) = true := by simp; omega
      have ht := take_snoc' s k hlt
      have hsn := posL_snoc (s.data.toList.take k) s[k] 0
      have htl : (s.data.toList.take k).length = k := by rw [List.length_take, HL.out]; omega
      rw [htl, Nat.zero_add] at hsn
      have HT := Lib.hid ht; have HSn := Lib.hid hsn
      have hpl : (posL 0 (s.data.toList.take k)).length < 1099511627776 := by rw [posL_len, htl]; omega
      have hbz := HO.out.2.size
      have ha : ((UInt8.ofNat (97 + k)).toNat : Int) = 97 + (k : Int) := by rw [UInt8.toNat_ofNat']; omega
      have hcv := two_bytes wr (UInt8.ofNat (97 + k)) s[k]
      rw [ha] at hcv
      obtain ⟨z, hz⟩ : ∃ z, [UInt8.ofNat (97 + k), s[k]] = z := ⟨_, rfl⟩
      rw [hz] at hcv
      have HZ := Lib.hid hz
      have hone : ∀ u ∈ (#[strV z] : Array Value).toList, u.oneCell' = true := by intro u hu; simp at hu; subst hu; rfl
      have HO2 := Lib.hid (HO.out.below (w' := wr.alloc (.cells #[.int .u8 (97 + (k : Int)), .int .u8 s[k].toNat] 5)) ((Below.refl _ _).alloc (Nat.le_refl _) _))
      have HK1 := Lib.hid (show wr.heap.size + 1 = (wr.alloc (.cells #[.int .u8 (97 + (k : Int)), .int .u8 s[k].toNat] 5)).heap.size by simp)
      clear ht hsn htl ha hz
      go_wp2_with (at_builtin; refine wpList_append_newk rfl _ _ 28 rfl w.heap.size 9 1 16 (.string ⟨#[]⟩) Tryz.underlying28 infoS rfl (by decide) (by decide) _ _ _ rfl HO2.out.1 (wr.heap.size + 1) HK1.out #[strV z] 1 rfl rfl hone hpl HO2.out.2.size ?_; intro v2 w8 ho8 hw8)
      go_roundw
      case rel => exact ⟨k + 1, by omega, by go_num, by rw [HT.out, HSn.out]; exact ⟨by rw [List.length_append, flat_snoc, HZ.out]; exact ho8, hw8 _ HO2.out.2⟩⟩
      case measure => simp [intOf]; omega
    · have hq : decide ((k : Int) < s.size) = false := by simp; omega
      rw [List.take_of_length_le (by rw [HL.out]; omega)] at HO
      go_wp2_with fail
      go_ret
      exact ⟨_, rfl, HO.out⟩
def GramsPost (L : List (List UInt8)) (w : World) (e : Ending) (w' : World) : Prop := ∃ v, e = .returned (.tuple #[v, .int .i64 0]) ∧ Vec w' Any1 1 encS v L ∧ Below w.heap.size w w'
set_option maxHeartbeats 4000000 in
theorem grams_day (S : Nat → Prop) (vf vt vn vs : Value) (s : SchemaL) (f : Int) (x : ByteArray) (w : World) (h : SchemaAt w S vf vt vn vs s) (hx : x.size ≤ 26) (hp : findN s f = (2, 0)) (hn : normalB s f x.data.toList = true) (hx0 : x.data.toList ≠ []) :
    Calls Tryz.prog 18 #[.agg #[vf, vt, vn, vs], .int .i64 f, .string x] w (GramsPost (posL 0 x.data.toList) w) := by
  have HS := Lib.hid h.any
  have HL := Lib.hid (Lib.toList_data x)
  clear h
  have K := find_s Any1 vf vt vn vs s f (w.alloc (.cells #[vf, vt, vn, vs] 33)) (HS.out.below ((Below.refl _ _).alloc (Nat.le_refl _) _))
  rw [hp] at K
  change Calls _ _ _ _ fun e w' => e = .returned (.tuple #[.agg (kindAt 2), .int .i64 0]) ∧ _ at K
  have HK := Lib.hid K
  have HN := Lib.hid hn
  have e1 : (x.toList == []) = false := by rw [HL.out]; simpa using hx0
  have e2 : x.toList.isEmpty = false := by rw [HL.out]; simpa using hx0
  obtain ⟨ko, ks⟩ := kindAt_one 2
  have KO := Lib.hid ko; have KS := Lib.hid ks
  clear K hp hn hx0 ko ks
  go_enter Tryz.func18, Tryz.ntmps18
  go_wp2_with fail
  refine HK.out.mono ?_
  rintro e w1 ⟨rfl, hb1⟩
  have HB1 := Lib.hid (((Below.refl w.heap.size w).alloc (Nat.le_refl _) (.cells #[vf, vt, vn, vs] 33)).trans (hb1.mono (by simp)))
  have HX1 := Lib.hid (blk_below (b := w.heap.size) (o := .cells #[vf, vt, vn, vs] 33 (0, 0)) hb1 (by simp) (blk_new rfl))
  clear hb1 HK
  have z0 := lt_of_blk HX1.out
  obtain ⟨p0, p1, p2, p3⟩ := cells4 HX1.out
  go_wp2_with (refine wpList_store_row rfl 79 (.tmp 8) (.tmp 14) rfl w1.heap.size (kindAt 2) rfl rfl 79 kind0 (heap_alloc_new w1 _) (by rw [KS.out]; kernel_rfl) (by rw [KS.out]; rfl) KO.out ?_; rw [World.setRow_alloc_new])
  have HB2 := Lib.hid (HB1.out.alloc HB1.out.size (.cells (kindAt 2) 79))
  refine (normal_s Any1 vf vt vn vs s f x _ (HS.out.below HB2.out) (by omega)).mono ?_
  rw [HN.out]
  rintro e w3 ⟨rfl, hb3⟩
  have HB3 := Lib.hid (HB2.out.trans (hb3.mono HB2.out.size))
  have HX3 := Lib.hid (blk_below (b := w1.heap.size) (o := .cells (kindAt 2) 79 (0, 0)) hb3 (by simp) (blk_new rfl))
  have cf : w3.cell? ⟨w1.heap.size, 3, none⟩ = some (fnV 109) := by rw [cell_of_row _ _ _ _ _ _ HX3.out]; rfl
  clear hb3 p0 p1 p2 p3
  go_wp2_with fail
  refine (positional_any x _ hx).mono ?_
  rintro e w4 ⟨v, rfl, ho⟩
  have HO := Lib.hid ho; clear ho
  go_wp2_with fail
  go_ret2
  exact ⟨v, rfl, Vec.owns (k := 1) (enc := encS) (fun _ => rfl) HO.out.1 (fun _ _ _ => trivial), HB3.out.trans (HO.out.2.mono HB3.out.size)⟩
end Go.Proofs.YtfgoiojmbphmnaaGreatDoor
end
section
/- The sanity check of the laws of schemas. -/
set_option linter.unusedSimpArgs false
set_option linter.unusedVariables false
set_option maxRecDepth 100000
namespace Go.Proofs.YtfgoiojmbphmnaaGreatDoor
open Go.RowKit Cal
attribute [local go_sem] toList_mk mk_size
def birthL : List UInt8 := [98, 105, 114, 116, 104]
def awS : SchemaL := ⟨[(birthL, 2)], [[100, 114]], [], []⟩
def rawL0 : List UInt8 := [50, 48, 48, 48, 45, 48, 50, 45, 48, 51]
def normL0 : List UInt8 := [50, 48, 48, 48, 48, 50, 48, 51]
theorem aw_check : checkS awS = 0 := by kernel_rfl
theorem aw_find : findN awS 0 = (2, 0) := by kernel_rfl
theorem aw_value : valueN awS 0 rawL0 = (normL0, 0) := by kernel_rfl
theorem aw_normal : normalB awS 0 normL0 = true := by kernel_rfl
theorem aw_word : wordB [97, 98] = true := by kernel_rfl
theorem aw_text : textL awS = [102, 105, 101, 108, 100, 32, 98, 105, 114, 116, 104, 32, 100, 97, 116, 101, 10, 116, 105, 116, 108, 101, 32, 100, 114, 10] := by kernel_rfl
theorem vecF_one {w : World} {A : Nat} {x : F2} (h : w.heap[A]? = some (.cells #[strV x.1, .int .i64 x.2] 42 (0, 0))) : Vec w Any1 2 encF (.slice (some ⟨A, 0, none⟩) 1 1) [x] :=
  ⟨_, 1, rfl, by simp, fun _ => ⟨A, 0, rfl, trivial, lt_of_blk h, fun j y hj i u hu => by
    have hj0 : j = 0 := by
      have := (List.getElem?_eq_some_iff.1 hj).1
      simp at this; exact this
    subst hj0
    simp at hj; subst hj
    rw [cell_of_row _ _ _ _ _ _ h]
    match i, hu with
    | 0, hu => simpa [encF] using hu
    | 1, hu => simpa [encF] using hu
    | i + 2, hu => simp [encF] at hu⟩⟩
/-- a call's world under a name of its own -/
theorem wp_calls_world {P : Program} {f : FuncId} {args : Array Value} {W : World} {K : Ending → World → Prop} (h : ∀ w', w' = W → Calls P f args w' K) : Calls P f args W K := h W rfl
set_option maxHeartbeats 4000000 in
theorem awake_s (w : World) : Calls Tryz.prog 8 #[] w fun e w' => e = .returned (.bool true) ∧ Below w.heap.size w w' := by
  go_enter Tryz.func8, Tryz.ntmps8
  go_wp2_with fail
  refine wp_calls_world (fun W hW => ?_)
  have bW : Below w.heap.size w W := by rw [hW]; exact (((Below.refl _ _).alloc (Nat.le_refl _) _).alloc (by simp) _).alloc (by simp; omega) _
  have x0 : W.heap[w.heap.size]? = some (.cells #[strV birthL, .int .i64 2] 42 (0, 0)) := by rw [hW]; exact blk_old (blk_old (blk_new rfl))
  have x1 : W.heap[w.heap.size + 1]? = some (.cells (([[100, 114]] : List (List UInt8)).flatMap encS).toArray 9 (0, 0)) := by rw [hW]; exact blk_old (blk_new (by simp))
  have x2 : W.heap[w.heap.size + 2]? = some (.cells #[.slice (some ⟨w.heap.size, 0, none⟩) 1 1, .slice (some ⟨w.heap.size + 1, 0, none⟩) 1 1, .slice none 0 0, .slice none 0 0] 33 (0, 0)) := by rw [hW]; exact blk_new (by simp)
  have HSW := Lib.hid (show SchemaAt W Any1 (.slice (some ⟨w.heap.size, 0, none⟩) 1 1) (.slice (some ⟨w.heap.size + 1, 0, none⟩) 1 1) (.slice none 0 0) (.slice none 0 0) awS from ⟨vecF_one (x := (birthL, 2)) x0, vec_block x1 1 rfl, Vec.nil _ _ _ _, Vec.nil _ _ _ _⟩)
  have HX2 := Lib.hid x2
  have HBW := Lib.hid bW
  clear x0 x1 x2 bW hW
  refine (value_any Any1 _ _ _ _ awS 0 ⟨rawL0.toArray⟩ _ HSW.out (by decide)).mono ?_
  rw [show (⟨rawL0.toArray⟩ : ByteArray).data.toList = rawL0 from rfl, aw_value]
  rintro e w1 ⟨rfl, hb1⟩
  have HX1 := Lib.hid (blk_below hb1 (lt_of_blk HX2.out) HX2.out)
  have HB1 := Lib.hid (HBW.out.trans (hb1.mono HBW.out.size))
  have HS1 := Lib.hid (HSW.out.below hb1)
  clear hb1 HX2 HBW HSW
  obtain ⟨p0, p1, p2, p3⟩ := cells4 HX1.out
  unfold pairV
  go_wp2_with fail
  refine (text_yes Any1 _ _ _ _ awS _ HS1.out aw_check).mono ?_
  rw [aw_text]
  rintro e w2 ⟨rfl, hb2⟩
  have HX2 := Lib.hid (blk_below hb2 (lt_of_blk HX1.out) HX1.out)
  have HB2 := Lib.hid (HB1.out.trans (hb2.mono HB1.out.size))
  have HS2 := Lib.hid (HS1.out.below hb2)
  clear hb2 HX1 HB1 HS1 p0 p1 p2 p3
  obtain ⟨p0, p1, p2, p3⟩ := cells4 HX2.out
  unfold pairV
  go_wp2_with fail
  refine (grams_day Any1 _ _ _ _ awS 0 ⟨normL0.toArray⟩ _ HS2.out (by decide) aw_find aw_normal (by decide)).mono ?_
  rintro e w3 ⟨v, rfl, hv, hb3⟩
  obtain ⟨av, cv, rfl⟩ := hv.slice
  rw [posL_len, show (⟨normL0.toArray⟩ : ByteArray).data.toList.length = 8 from rfl]
  have HB3 := Lib.hid (HB2.out.trans (hb3.mono HB2.out.size))
  clear hv hb3 HX2 HB2 HS2 p0 p1 p2 p3
  go_wp2_with fail
  refine (word_is [97, 98] _).mono ?_
  rw [aw_word]
  rintro e w4 ⟨rfl, hb4⟩
  have HB4 := Lib.hid (HB3.out.trans (hb4.mono HB3.out.size))
  clear hb4 HB3
  go_wp2_with fail
  go_ret
  exact ⟨rfl, HB4.out⟩
end Go.Proofs.YtfgoiojmbphmnaaGreatDoor
end
section
/- Plain law: a normal form is normal. -/
set_option linter.unusedSimpArgs false
set_option linter.unusedVariables false
set_option maxRecDepth 100000
namespace Go.Proofs.YtfgoiojmbphmnaaGreatDoor
open Go.RowKit Cal
/-- a token: not empty, of letters and digits -/
def okT (t : List UInt8) : Prop := t ≠ [] ∧ ∀ b ∈ t, okB b = true ∧ b ≠ 32
theorem toksA_run (t : List UInt8) (h : ∀ b ∈ t, b ≠ 32) : ∀ p r, toksA p (t ++ r) = toksA (p ++ t) r := by
  induction t with
  | nil => intro p r; simp
  | cons c t ih =>
    intro p r
    rw [List.cons_append, toksA_ch _ _ _ (h c List.mem_cons_self), ih (fun b hb => h b (List.mem_cons_of_mem _ hb)), List.append_assoc]
    rfl
theorem toks_join : ∀ (L : List (List UInt8)), (∀ t ∈ L, okT t) → toks (joinL L) = L := by
  intro L
  induction L with
  | nil => intro _; rfl
  | cons t L ih =>
    intro h
    obtain ⟨h1, h2⟩ := h t List.mem_cons_self
    have hr := ih fun x hx => h x (List.mem_cons_of_mem _ hx)
    unfold toks at hr ⊢
    by_cases hL : L = []
    · subst hL
      rw [show joinL [t] = t ++ [] by simp [joinL], toksA_run t (fun b hb => (h2 b hb).2), List.nil_append, toksA_end _ h1]
    · rw [join_cons_ne _ _ hL, List.append_assoc, toksA_run t (fun b hb => (h2 b hb).2), List.nil_append, List.cons_append, List.nil_append, toksA_sp _ _ h1, hr]
theorem join_ok (L : List (List UInt8)) (h : ∀ t ∈ L, okT t) : ∀ b ∈ joinL L, okB b = true := by
  intro b hb
  rcases join_mem L b hb with h1 | ⟨t, ht, hbt⟩
  · subst h1; rfl
  · exact ((h t ht).2 b hbt).1
theorem ok_plain {b : UInt8} (h : okB b = true) : plainB b = [b] := by
  have hlt := okB_lt h
  unfold plainB
  by_cases hu : isUp b = true
  · exfalso
    unfold okB at h
    simp only [Bool.or_eq_true, low_iff, dig_iff, decide_eq_true_iff, beq_iff_eq] at h
    rw [up_iff, decide_eq_true_iff] at hu
    rcases h with (h | h) | h
    · omega
    · omega
    · subst h; simp at hu
  · rw [if_neg hu]
    unfold okB at h
    simp only [Bool.or_eq_true, beq_iff_eq] at h
    rcases h with h | h
    · rw [if_pos (by simpa using h)]
    · subst h; rfl
theorem ok_pair {a b : UInt8} (h : okB a = true) : isPair a b = false := by
  have hlt := okB_lt h
  rw [pair_iff]; simp; omega
theorem ok_byte {b : UInt8} (h : okB b = true) : okByte b = true := by
  unfold okB at h
  simp only [Bool.or_eq_true, low_iff, dig_iff, decide_eq_true_iff, beq_iff_eq] at h
  rw [ok_iff, decide_eq_true_iff]
  rcases h with (h | h) | h
  · omega
  · omega
  · subst h; decide
theorem raw_same (l : List UInt8) (h : ∀ b ∈ l, okB b = true) : rawL l = l ∧ validL l = true := by
  induction l using rawL.induct with
  | case1 => exact ⟨rfl, rfl⟩
  | case2 a => exact ⟨by simp only [rawL]; exact ok_plain (h a (by simp)), by simp only [validL]; exact ok_byte (h a (by simp))⟩
  | case3 a b r hp ih => exfalso; rw [ok_pair (h a (by simp))] at hp; cases hp
  | case4 a b r hp ih =>
    have hp' := ok_pair (a := a) (b := b) (h a (by simp))
    have := ih fun x hx => h x (List.mem_cons_of_mem _ hx)
    refine ⟨?_, ?_⟩
    · rw [rawL, hp']; simp only [Bool.false_eq_true, if_false]; rw [this.1, ok_plain (h a (by simp))]; rfl
    · rw [validL, hp']; simp only [Bool.false_eq_true, if_false]; rw [this.2, ok_byte (h a (by simp))]; rfl
theorem fold_same (L : List (List UInt8)) (h : ∀ t ∈ L, okT t) : foldL (joinL L) = joinL L ∧ toks (foldL (joinL L)) = L := by
  have h1 := (raw_same (joinL L) (join_ok L h)).1
  have h2 := toks_join L h
  have h3 : foldL (joinL L) = joinL L := by unfold foldL; rw [h1, h2]
  exact ⟨h3, by rw [h3, h2]⟩
theorem foldV_join (L : List (List UInt8)) (h : ∀ t ∈ L, okT t) (hl : (joinL L).length ≤ 64) : foldV (joinL L) = true := by
  unfold foldV
  rw [(raw_same (joinL L) (join_ok L h)).2]; simpa using hl
theorem toksA_ne (l : List UInt8) : ∀ p, ∀ t ∈ toksA p l, t ≠ [] := by
  induction l with
  | nil =>
    intro p t ht
    simp only [toksA] at ht
    split at ht
    · simp at ht
    · simp at ht; subst ht; assumption
  | cons c l ih =>
    intro p t ht
    by_cases hc : c = 32
    · subst hc
      by_cases hp : p = []
      · subst hp; rw [toksA_sp0] at ht; exact ih [] t ht
      · rw [toksA_sp _ _ hp] at ht
        rcases List.mem_cons.1 ht with rfl | ht
        · exact hp
        · exact ih [] t ht
    · rw [toksA_ch _ _ _ hc] at ht; exact ih _ t ht
theorem toks_ok (l : List UInt8) : ∀ t ∈ toks (foldL l), okT t := by
  intro t ht
  refine ⟨toksA_ne _ [] t ht, fun b hb => ?_⟩
  rcases toksA_mem _ [] t ht b hb with h | h
  · simp at h
  · exact ⟨fold_ok l b h.1, h.2⟩
end Go.Proofs.YtfgoiojmbphmnaaGreatDoor
end
section
/- Plain law: what is normalised is normal (names, codes, days). -/
set_option linter.unusedSimpArgs false
set_option linter.unusedVariables false
set_option maxRecDepth 100000
namespace Go.Proofs.YtfgoiojmbphmnaaGreatDoor
open Go.RowKit Cal
theorem letters_low (t : List UInt8) : ∀ b ∈ lettersL t, isLow b = true := fun b hb => (List.mem_filter.1 hb).2
theorem low_same {t : List UInt8} (h : ∀ b ∈ t, isLow b = true) : lettersL t = t := List.filter_eq_self.2 h
theorem low_okT {t : List UInt8} (h0 : t ≠ []) (h : ∀ b ∈ t, isLow b = true) : okT t := ⟨h0, fun b hb => ⟨by simp [okB, h b hb], by
  intro e; subst e; have := h 32 hb; rw [low_iff] at this; simp at this⟩⟩
theorem token_low {t : List UInt8} (h : tokenB t = true) : t ≠ [] ∧ ∀ b ∈ t, isLow b = true := by
  unfold tokenB at h
  cases h1 : t.isEmpty
  · simp only [h1, cond_false] at h
    cases h2 : decide (t.length ≤ 64)
    · simp [h2] at h
    · simp only [h2, cond_true, beq_iff_eq] at h
      exact ⟨by simpa using h1, fun b hb => letters_low t b (by rw [h]; exact hb)⟩
  · simp [h1] at h
theorem pair_facts {L : List P2} (h : pairsB L = true) (j : Nat) (hj : j < L.length) : tokenB (L.getD j default).1 = true ∧ tokenB (L.getD j default).2 = true ∧ findI L (L.getD j default).2 < 0 := by
  have := pairs_at h j hj
  unfold pairAtB at this
  simp only [Bool.and_eq_true, decide_eq_true_iff] at this
  exact ⟨this.1.1.1, this.1.1.2, this.2⟩
theorem canon_neg {L : List P2} {s : List UInt8} (h : findI L s < 0) : canonL L s = s := by
  rcases canon_find L s with ⟨_, h2⟩ | ⟨k, _, h1, _⟩
  · exact h2
  · omega
/-- by rules, a token becomes itself, or one that is no token of the rules -/
theorem canon_cases {L : List P2} (h : pairsB L = true) (s : List UInt8) : (canonL L s = s) ∨ (∃ k, k < L.length ∧ canonL L s = (L.getD k default).2 ∧ tokenB (canonL L s) = true ∧ canonL L (canonL L s) = canonL L s) := by
  rcases canon_find L s with ⟨_, h2⟩ | ⟨k, hk, h1, h3⟩
  · exact .inl h2
  · right
    obtain ⟨_, g2, g3⟩ := pair_facts h k hk
    rw [h3] at g2 g3
    exact ⟨k, hk, h3.symm, g2, canon_neg g3⟩
theorem normTok_same {r : RulesL} (hc : checkR r = 0) {x t : List UInt8} (ht : t ∈ normTok r x) : okT t ∧ normTok r t = [t] := by
  obtain ⟨_, _, h2, _, h4⟩ := check_zero hc
  unfold normTok at ht
  by_cases hd : ((lettersL x).isEmpty || hasB r.titles (lettersL x)) = true
  · rw [if_pos hd] at ht; simp at ht
  · rw [if_neg hd] at ht
    simp at ht
    simp only [Bool.or_eq_true, not_or, Bool.not_eq_true] at hd
    obtain ⟨hd1, hd2⟩ := hd
    have key : ∀ y : List UInt8, y ≠ [] → (∀ b ∈ y, isLow b = true) → hasB r.titles y = false → canonL r.nicks y = y → okT y ∧ normTok r y = [y] := by
      intro y h0 h1 h3 h5
      refine ⟨low_okT h0 h1, ?_⟩
      unfold normTok
      rw [low_same h1, h3, h5, if_neg (by simpa using h0)]
    rcases canon_cases h2 (lettersL x) with hs | ⟨k, hk, e1, e2, e3⟩
    · rw [hs] at ht
      subst ht
      exact key _ (by simpa using hd1) (letters_low x) hd2 hs
    · rw [← ht] at e1 e2 e3
      obtain ⟨g1, g2⟩ := token_low e2
      refine key t g1 g2 ?_ e3
      rw [e1]
      have := List.any_eq_false.1 h4 (r.nicks.getD k default) (by rw [List.getD, List.getElem?_eq_getElem hk]; exact List.getElem_mem hk)
      simpa using this
theorem nameToks_same {r : RulesL} (hc : checkR r = 0) (T : List (List UInt8)) : (∀ t ∈ nameToks r T, okT t) ∧ nameToks r (nameToks r T) = nameToks r T := by
  have h : ∀ t ∈ nameToks r T, okT t ∧ normTok r t = [t] := by
    intro t ht
    obtain ⟨x, _, hx⟩ := List.mem_flatMap.1 ht
    exact normTok_same hc hx
  refine ⟨fun t ht => (h t ht).1, ?_⟩
  have : ∀ L : List (List UInt8), (∀ t ∈ L, normTok r t = [t]) → nameToks r L = L := by
    intro L
    induction L with
    | nil => intro _; rfl
    | cons t L ih =>
      intro hL
      have := ih fun x hx => hL x (List.mem_cons_of_mem _ hx)
      unfold nameToks at this ⊢
      rw [List.flatMap_cons, this, hL t List.mem_cons_self]; rfl
  exact this _ fun t ht => (h t ht).2
theorem nameN_same {r : RulesL} {l v : List UInt8} (h : nameN r l = (v, 0)) : nameN r v = (v, 0) := by
  unfold nameN at h
  by_cases hc : checkR r = 0
  · rw [if_pos hc] at h
    by_cases hv : foldV l = true
    · rw [if_pos hv] at h
      obtain ⟨h1, h2⟩ := nameToks_same hc (toks (foldL l))
      generalize nameToks r (toks (foldL l)) = N at h h1 h2
      by_cases hb : 6 < N.length ∨ 64 < (joinL N).length
      · rw [if_pos hb] at h; simp at h
      · rw [if_neg hb] at h
        obtain rfl : joinL N = v := congrArg Prod.fst h
        obtain ⟨f1, f2⟩ := fold_same N h1
        unfold nameN
        rw [if_pos hc, if_pos (foldV_join N h1 (by omega)), f2, h2, if_neg hb]
    · rw [if_neg hv] at h; simp at h
  · rw [if_neg hc] at h
    exact absurd (congrArg Prod.snd h) hc
theorem codeN_same {l v : List UInt8} (h : codeN l = (v, 0)) : codeN v = (v, 0) := by
  unfold codeN at h
  by_cases hv : foldV l = true
  · rw [if_pos hv] at h
    have hok := toks_ok l
    generalize toks (foldL l) = T at h hok
    by_cases hb : 12 < T.flatten.length
    · rw [if_pos hb] at h; simp at h
    · rw [if_neg hb] at h
      obtain rfl : T.flatten = v := congrArg Prod.fst h
      have hbytes : ∀ b ∈ T.flatten, okB b = true ∧ b ≠ 32 := by
        intro b hb'
        obtain ⟨t, ht, hbt⟩ := List.mem_flatten.1 hb'
        exact (hok t ht).2 b hbt
      by_cases h0 : T.flatten = []
      · rw [h0]; rfl
      · have hL : ∀ t ∈ [T.flatten], okT t := by
          intro t ht; simp at ht; subst ht; exact ⟨h0, hbytes⟩
        obtain ⟨f1, f2⟩ := fold_same [T.flatten] hL
        have f3 := foldV_join [T.flatten] hL (by simp [joinL]; simp at hb; omega)
        rw [show joinL [T.flatten] = T.flatten from rfl] at f1 f2 f3
        unfold codeN
        rw [if_pos f3, f2]
        simp only [List.flatten_cons, List.flatten_nil, List.append_nil]
        rw [if_neg hb]
  · rw [if_neg hv] at h; simp at h
end Go.Proofs.YtfgoiojmbphmnaaGreatDoor
end
section
/- Plain law: what is normalised is normal (addresses, days, any field). -/
set_option linter.unusedSimpArgs false
set_option linter.unusedVariables false
set_option maxRecDepth 100000
namespace Go.Proofs.YtfgoiojmbphmnaaGreatDoor
open Go.RowKit Cal
theorem dropWhile_fix (l : List UInt8) : (l.dropWhile (· == 48)).dropWhile (· == 48) = l.dropWhile (· == 48) := by
  induction l with
  | nil => rfl
  | cons c l ih =>
    by_cases hc : (c == 48) = true
    · rw [List.dropWhile_cons, if_pos hc, ih]
    · rw [List.dropWhile_cons, if_neg hc, List.dropWhile_cons, if_neg hc]
theorem short_num (x : List UInt8) : numB (shortL x) = true := by
  unfold shortL
  split
  · assumption
  · rfl
theorem short_same (x : List UInt8) : shortL (shortL x) = shortL x := by
  have hd := dropWhile_fix x
  generalize hr : x.dropWhile (· == 48) = r at hd
  have e : shortL x = if numB r = true then r else 48 :: r := by unfold shortL; rw [hr]
  by_cases hn : numB r = true
  · rw [e, if_pos hn]; unfold shortL; rw [hd, if_pos hn]
  · rw [e, if_neg hn]; unfold shortL
    rw [show (48 :: r).dropWhile (· == 48) = r.dropWhile (· == 48) from rfl, hd, if_neg hn]
theorem dropWhile_mem (l : List UInt8) : ∀ b ∈ l.dropWhile (· == 48), b ∈ l := by
  induction l with
  | nil => intro b hb; simp at hb
  | cons c l ih =>
    intro b hb
    by_cases hc : (c == 48) = true
    · rw [List.dropWhile_cons, if_pos hc] at hb; exact List.mem_cons_of_mem _ (ih b hb)
    · rw [List.dropWhile_cons, if_neg hc] at hb; exact hb
theorem short_ok {x : List UInt8} (h : okT x) : okT (shortL x) := by
  have h1 : ∀ b ∈ x.dropWhile (· == 48), okB b = true ∧ b ≠ 32 := fun b hb => h.2 b (dropWhile_mem x b hb)
  unfold shortL
  split
  · rename_i hn
    refine ⟨fun e => ?_, h1⟩
    rw [e] at hn; cases hn
  · refine ⟨by simp, fun b hb => ?_⟩
    rcases List.mem_cons.1 hb with rfl | hb
    · exact ⟨by decide, by decide⟩
    · exact h1 b hb
theorem low_not_num {t : List UInt8} (h : ∀ b ∈ t, isLow b = true) : numB t = false := by
  cases t with
  | nil => rfl
  | cons c t =>
    have := h c List.mem_cons_self
    rw [low_iff, decide_eq_true_iff] at this
    show isDgt c = false
    rw [dig_iff]; simp; omega
/-- what becomes of a token stays, and stays a number or none -/
theorem addrTok_same {r : RulesL} (h : pairsB r.streets = true) {x : List UInt8} (hx : okT x) : okT (addrTok r x) ∧ addrTok r (addrTok r x) = addrTok r x := by
  by_cases hn : numB x = true
  · have e : addrTok r x = shortL x := by unfold addrTok; rw [if_pos hn]
    rw [e]
    refine ⟨short_ok hx, ?_⟩
    unfold addrTok
    rw [if_pos (short_num x), short_same]
  · have e : addrTok r x = canonL r.streets x := by unfold addrTok; rw [if_neg hn]
    rw [e]
    rcases canon_cases h x with hs | ⟨k, hk, e1, e2, e3⟩
    · rw [hs]; exact ⟨hx, by rw [e, hs]⟩
    · obtain ⟨g1, g2⟩ := token_low e2
      refine ⟨low_okT g1 g2, ?_⟩
      unfold addrTok
      rw [low_not_num g2, e3]; simp
theorem order2_same (T : List (List UInt8)) : order2 (order2 T) = order2 T := by
  have hn : ∀ L : List (List UInt8), L.filter (fun _ => false) = [] := fun L => by induction L with
    | nil => rfl
    | cons x L ih => rw [List.filter_cons]; simp
  unfold order2
  simp [List.filter_append, List.filter_filter, hn]
theorem order2_length (T : List (List UInt8)) : (order2 T).length = T.length := by
  induction T with
  | nil => rfl
  | cons t T ih =>
    unfold order2 at ih ⊢
    cases h : numB t <;> simp [List.filter_cons, h] at ih ⊢ <;> omega
theorem map_same {f : List UInt8 → List UInt8} : ∀ (T : List (List UInt8)), (∀ t ∈ T, f t = t) → T.map f = T := by
  intro T
  induction T with
  | nil => intro _; rfl
  | cons t T ih => intro h; rw [List.map_cons, h t List.mem_cons_self, ih fun x hx => h x (List.mem_cons_of_mem _ hx)]
theorem addrN_same {r : RulesL} {l v : List UInt8} (h : addrN r l = (v, 0)) : addrN r v = (v, 0) := by
  unfold addrN at h
  by_cases hc : checkR r = 0
  · rw [if_pos hc] at h
    obtain ⟨_, _, _, h3, _⟩ := check_zero hc
    by_cases hv : foldV l = true
    · rw [if_pos hv] at h
      have hok := toks_ok l
      generalize toks (foldL l) = T at h hok
      have hM : ∀ t ∈ order2 (T.map (addrTok r)), okT t ∧ addrTok r t = t := by
        intro t ht
        obtain ⟨x, hx, rfl⟩ := List.mem_map.1 (order2_mem ht)
        exact addrTok_same h3 (hok x hx)
      have hlen : (order2 (T.map (addrTok r))).length = T.length := by rw [order2_length, List.length_map]
      by_cases hb : 6 < T.length ∨ 64 < (joinL (order2 (T.map (addrTok r)))).length
      · rw [if_pos hb] at h; simp at h
      · rw [if_neg hb] at h
        have hs := order2_same (T.map (addrTok r))
        generalize order2 (T.map (addrTok r)) = M at h hM hlen hb hs
        obtain rfl : joinL M = v := congrArg Prod.fst h
        have h1 : ∀ t ∈ M, okT t := fun t ht => (hM t ht).1
        obtain ⟨f1, f2⟩ := fold_same M h1
        unfold addrN
        rw [if_pos hc, if_pos (foldV_join M h1 (by omega)), f2, map_same M fun t ht => (hM t ht).2, hs, if_neg (by rw [hlen]; exact hb)]
    · rw [if_neg hv] at h; simp at h
  · rw [if_neg hc] at h
    exact absurd (congrArg Prod.snd h) hc
theorem numI_dg (n : Int) (k : Nat) (h0 : 0 ≤ n) (h : n < 10 ^ k) : numI (dg n k) = n := by
  rw [numI_dig _ (dg_dig k n h0), dg_val k n h0 h]
theorem day_read {a b c : Int} (h : vldB a b c = true) : readB (digits8 a b c) = true := by
  obtain ⟨b1, b2, b3, b4, b5, b6⟩ := vld_bd h
  have e1 : (digits8 a b c).take 4 = dg a 4 := by
    unfold digits8; rw [List.append_assoc, List.take_append_of_le_length (by rw [dg_len]; omega), List.take_of_length_le (by rw [dg_len]; omega)]
  have e2 : ((digits8 a b c).drop 4).take 2 = dg b 2 := by
    unfold digits8; rw [List.append_assoc, List.drop_append_of_le_length (by rw [dg_len]; omega), List.drop_eq_nil_of_le (by rw [dg_len]; omega), List.nil_append, List.take_append_of_le_length (by rw [dg_len]; omega), List.take_of_length_le (by rw [dg_len]; omega)]
  have e3 : ((digits8 a b c).drop 6).take 2 = dg c 2 := by
    unfold digits8; rw [List.drop_append_of_le_length (by simp [dg_len]), List.drop_eq_nil_of_le (by simp [dg_len]), List.nil_append, List.take_of_length_le (by rw [dg_len]; omega)]
  unfold readB
  rw [digits8_len, e1, e2, e3, numI_dg a 4 (by omega) (by omega), numI_dg b 2 (by omega) (by omega), numI_dg c 2 (by omega) (by omega), h]
  rfl
theorem dayN_read {l v : List UInt8} (h : dayN l = (v, 0)) : readB v = true := by
  rcases parse_is ⟨l.toArray⟩ with ⟨a, b, c, hv, _, hd⟩ | ⟨_, hd⟩
  · rw [show (⟨l.toArray⟩ : ByteArray).data.toList = l by simp, h] at hd
    obtain rfl : v = digits8 a b c := congrArg Prod.fst hd
    exact day_read hv
  · rw [show (⟨l.toArray⟩ : ByteArray).data.toList = l by simp, h] at hd
    simp at hd
theorem own_of {p : List UInt8 × Int} {v : List UInt8} (h : p = (v, 0)) : isOwn p v = true := by subst h; simp [isOwn]
/-- what is normalised is normal; and what is no date stays as it is -/
theorem value_normal {s : SchemaL} {f : Int} {l v : List UInt8} (h : valueN s f l = (v, 0)) : normalB s f v = true ∧ normalB s f [] = true ∧ ((findN s f).1 = 2 ∨ valueN s f v = (v, 0)) := by
  unfold valueN at h
  by_cases he : (findN s f).2 = 0
  · have hk := findN_kind he
    have e2 : normalB s f [] = true := by unfold normalB; rw [if_pos he, if_pos rfl]
    by_cases hv0 : v = []
    · subst hv0
      exact ⟨e2, e2, .inr (by unfold valueN; rw [if_pos he, if_pos rfl])⟩
    · rw [if_pos he] at h
      by_cases hl : l = []
      · rw [if_pos hl] at h
        exact absurd (congrArg Prod.fst h).symm hv0
      · rw [if_neg hl] at h
        have e1 : normalB s f v = ownK (findN s f).1 s.rules v := by unfold normalB; rw [if_pos he, if_neg hv0]
        have e3 : valueN s f v = normK (findN s f).1 s.rules v := by unfold valueN; rw [if_pos he, if_neg hv0]
        rw [e1, e3]
        rcases hk with hk | hk | hk | hk
        · rw [hk] at h ⊢
          have := nameN_same (r := s.rules) h
          exact ⟨own_of this, e2, .inr this⟩
        · rw [hk] at h ⊢
          exact ⟨dayN_read (show dayN l = (v, 0) from h), e2, .inl rfl⟩
        · rw [hk] at h ⊢
          have := codeN_same (show codeN l = (v, 0) from h)
          exact ⟨own_of this, e2, .inr this⟩
        · rw [hk] at h ⊢
          have := addrN_same (r := s.rules) h
          exact ⟨own_of this, e2, .inr this⟩
  · rw [if_neg he] at h
    exact absurd (congrArg Prod.snd h) he
end Go.Proofs.YtfgoiojmbphmnaaGreatDoor
end
section
/- Plain law: how long a normal form is; an error leaves nothing. -/
set_option linter.unusedSimpArgs false
set_option linter.unusedVariables false
set_option maxRecDepth 100000
namespace Go.Proofs.YtfgoiojmbphmnaaGreatDoor
open Go.RowKit Cal
/-- what a normal form may be, with its error -/
def FormOk (p : List UInt8 × Int) : Prop := p.1.length ≤ 64 ∧ (p.2 ≠ 0 → p.1 = [])
theorem FormOk.err (e : Int) : FormOk ([], e) := ⟨by simp, fun _ => rfl⟩
theorem nameN_form (r : RulesL) (l : List UInt8) : FormOk (nameN r l) := by
  unfold nameN
  repeat' split
  all_goals first | exact FormOk.err _ | skip
  all_goals exact ⟨by dsimp only; omega, fun h => absurd rfl h⟩
theorem addrN_form (r : RulesL) (l : List UInt8) : FormOk (addrN r l) := by
  unfold addrN
  repeat' split
  all_goals first | exact FormOk.err _ | skip
  all_goals exact ⟨by dsimp only; omega, fun h => absurd rfl h⟩
theorem codeN_form (l : List UInt8) : FormOk (codeN l) := by
  unfold codeN
  repeat' split
  all_goals first | exact FormOk.err _ | skip
  all_goals exact ⟨by dsimp only; omega, fun h => absurd rfl h⟩
theorem dayF_form (y m d : List UInt8) : FormOk (dayF y m d) := by
  unfold dayF
  cases vldB (numI y) (numI m) (numI d)
  · exact FormOk.err _
  · exact ⟨by show (digits8 _ _ _).length ≤ 64; rw [digits8_len]; omega, fun h => absurd rfl h⟩
theorem dayN_form (l : List UInt8) : FormOk (dayN l) := by
  unfold dayN
  repeat' split
  all_goals first | exact FormOk.err _ | exact dayF_form _ _ _
theorem valueN_form (s : SchemaL) (f : Int) (l : List UInt8) : FormOk (valueN s f l) := by
  unfold valueN normK
  repeat' split
  all_goals first | exact FormOk.err _ | exact nameN_form _ _ | exact dayN_form _ | exact codeN_form _ | exact addrN_form _ _
theorem findN_in {s : SchemaL} {f : Nat} (h : checkS s = 0) (hf : f < s.fields.length) : findN s f = ((s.fields.getD f default).2, 0) := by
  unfold findN
  rw [if_pos h, if_pos (by omega), Int.toNat_natCast]
end Go.Proofs.YtfgoiojmbphmnaaGreatDoor
end
