/- admission.Check: the first error of exposures. -/
import Derived.Test.YtohglcbakepejaaAdmA
set_option linter.unusedSimpArgs false
set_option linter.unusedVariables false
namespace Go.Proofs.Ytohglcbakepejaa
open Go.RowKit
def exFlat (l : List Ex) : List Value := l.flatMap Ex.cells
theorem exFlat_len (l : List Ex) : (exFlat l).length = l.length * 5 := by
  induction l with
  | nil => rfl
  | cons x l ih => simp only [exFlat, List.flatMap_cons, List.length_append] at *; rw [ih]; simp [Ex.cells]; omega
theorem exFlat_get (l : List Ex) : ∀ k, (h : k < l.length) → ((exFlat l).drop (k * 5)).take 5 = (l[k]).cells := by
  induction l with
  | nil => intro k h; simp at h
  | cons x l ih =>
    intro k h
    have e : exFlat (x :: l) = x.cells ++ exFlat l := rfl
    have hx : x.cells.length = 5 := rfl
    cases k with
    | zero => rw [e]; simp [Ex.cells]
    | succ k =>
      rw [e, show (k + 1) * 5 = 5 + k * 5 by omega, ← List.drop_drop, List.drop_append_of_le_length (by rw [hx]; omega)]
      have : x.cells.drop 5 = [] := rfl
      rw [this, List.nil_append]
      exact ih k (by simpa using h)
/-- v is a slice of exposures that reads as l -/
def ExRow (w : World) (S : Nat → Prop) (v : Value) (l : List Ex) : Prop := Row w S 5 v l.length (exFlat l)
theorem ExRow.get {w : World} {S : Nat → Prop} {a : Option Addr} {n cap : Nat} {l : List Ex} (h : ExRow w S (.slice a n cap) l) (k : Nat) (hk : k < l.length) :
    ∃ b off, a = some ⟨b, off, none⟩ ∧ b < w.heap.size ∧ w.cell? ⟨b, off + k * 5, none⟩ = some (.int .i64 (l[k]).f) ∧ w.cell? ⟨b, off + k * 5 + 1, none⟩ = some (.int .i64 (l[k]).u) ∧ w.cell? ⟨b, off + k * 5 + 2, none⟩ = some (.int .i64 (l[k]).h) ∧ w.cell? ⟨b, off + k * 5 + 3, none⟩ = some (.int .i64 (l[k]).c) ∧ w.cell? ⟨b, off + k * 5 + 4, none⟩ = some (.int .i64 (l[k]).i) := by
  obtain ⟨a', cap', h1, h2, h3⟩ := h
  cases h1
  exact Row.five (cap := cap) ⟨a, cap, rfl, h2, h3⟩ k hk _ _ _ _ _ (exFlat_get l k hk)
theorem ExRow.len {w : World} {S : Nat → Prop} {a : Option Addr} {n cap : Nat} {l : List Ex} (h : ExRow w S (.slice a n cap) l) : n = l.length := by
  obtain ⟨a', cap', h1, h2, h3⟩ := h
  cases h1; rfl
theorem ok_le4 (k : Int) (x : Ex) : x.ok k ↔ (x.f = k ∧ le4 64 64 512 1000 x.u x.h x.c x.i = true ∧ le4 x.u x.h x.c x.i 0 0 0 0 = true) := by
  unfold Ex.ok Ex.inB le4; simp; omega
set_option maxHeartbeats 4000000 in
theorem checkE_any (a : Option Addr) (n cap : Nat) (l : List Ex) (w : World) (hl : ExRow w (All w) (.slice a n cap) l) (hn : n ≤ 1000000) :
    Calls Try.prog 15 #[.slice a n cap] w fun e w' => e = .returned (.int .i64 (chkE l)) ∧ Below w.heap.size w w' := by
  have e := hl.len
  subst e
  by_cases h1 : 1 ≤ l.length ∧ l.length ≤ 5
  · obtain ⟨h1, h5⟩ := h1
    have HL := Lib.hid hl; clear hl
    have g1 : ((l.length : Int) < 1) = False := by simp; omega
    have g2 : (5 < (l.length : Int)) = False := by simp; omega
    go_enter Try.func15, Try.ntmps15
    go_wp2_with fail
    clear g1 g2
    go_loopw [16] (fun i wr => ∃ k : Nat, k ≤ l.length ∧ i = .int .i64 k ∧ Hid (∀ j, (h : j < l.length) → j < k → (l[j]).ok (j : Int)) ∧ Below w.heap.size w wr) (fun i _ => l.length - (intOf i).toNat)
    case atStart => exact ⟨0, by omega, rfl, fun j _ h => by omega, Below.refl _ _⟩
    case round =>
      obtain ⟨k, hk, rfl, HO, hb⟩ := hrel
      by_cases hlt : k < l.length
      · obtain ⟨b, off, rfl, hbw, c0, c1, c2, c3, c4⟩ := HL.out.get k hlt
        have d0 := (hb.cell (p := ⟨b, off + k * 5, none⟩) hbw).trans c0
        have d1 := (hb.cell (p := ⟨b, off + k * 5 + 1, none⟩) hbw).trans c1
        have d2 := (hb.cell (p := ⟨b, off + k * 5 + 2, none⟩) hbw).trans c2
        have d3 := (hb.cell (p := ⟨b, off + k * 5 + 3, none⟩) hbw).trans c3
        have d4 := (hb.cell (p := ⟨b, off + k * 5 + 4, none⟩) hbw).trans c4
        clear c0 c1 c2 c3 c4
        have HB := Lib.hid hb; clear hb
        generalize hx : l[k] = x at *
        have HX := Lib.hid hx; clear hx
        go_wp2_with fail
        refine (numbers_any x _).mono ?_; rintro e w1 ⟨rfl, hb1⟩
        have X1 := Lib.hid (blk_below (b := wr.heap.size) hb1 (by simp) (blk_new rfl)); have zX := lt_of_blk X1.out
        have HB1 := Lib.hid ((HB.out.alloc HB.out.size _).trans (hb1.mono (by have := HB.out.size; simp; omega)))
        clear hb1 HB d0 d1 d2 d3 d4
        go_wp2_with fail
        refine wp_world (fun wV hV => ?_)
        have f0 : wV.cell? ⟨wr.heap.size, 0, none⟩ = some (.int .i64 x.f) := (cell_of_row _ _ _ _ _ _ (show wV.heap[wr.heap.size]? = some (.cells #[.int .i64 x.f, .int .i64 x.u, .int .i64 x.h, .int .i64 x.c, .int .i64 x.i] 35 (0, 0)) by rw [hV]; exact blk_old X1.out)).trans rfl
        have NV := Lib.hid (show wV.heap[w1.heap.size]? = some (.cells #[.int .i64 x.u, .int .i64 x.h, .int .i64 x.c, .int .i64 x.i] 43 (0, 0)) by rw [hV]; exact blk_new rfl)
        have n0 : wV.cell? ⟨w1.heap.size, 0, none⟩ = some (.int .i64 x.u) := (cell_of_row _ _ _ _ _ _ NV.out).trans rfl
        have n1 : wV.cell? ⟨w1.heap.size, 1, none⟩ = some (.int .i64 x.h) := (cell_of_row _ _ _ _ _ _ NV.out).trans rfl
        have n2 : wV.cell? ⟨w1.heap.size, 2, none⟩ = some (.int .i64 x.c) := (cell_of_row _ _ _ _ _ _ NV.out).trans rfl
        have n3 : wV.cell? ⟨w1.heap.size, 3, none⟩ = some (.int .i64 x.i) := (cell_of_row _ _ _ _ _ _ NV.out).trans rfl
        have HV := Lib.hid (show Below w.heap.size w wV by rw [hV]; exact HB1.out.alloc HB1.out.size _)
        have zV : w1.heap.size < wV.heap.size := lt_of_blk NV.out
        have zW : wr.heap.size < wV.heap.size := by omega
        clear hV HB1 X1 NV
        have K1 := fun w => Lib.hid (within4_any 64 64 512 1000 x.u x.h x.c x.i w)
        have K2 := fun w => Lib.hid (within4_any x.u x.h x.c x.i 0 0 0 0 w)
        have hok := ok_le4 (k : Int) x
        have bad : ¬ x.ok (k : Int) → chkE l = 2 := by
          intro hbad
          rw [chkE, if_pos ⟨h1, h5⟩, if_neg]
          rw [okAll_iff]
          intro h
          have := h k hlt
          rw [HX.out, Nat.zero_add] at this
          exact hbad this
        by_cases q0 : x.f = (k : Int)
        · have t1 : (x.f == (k : Int)) = true := by simpa using q0
          have t2 : (x.f != (k : Int)) = false := by simpa using q0
          cases q1 : le4 64 64 512 1000 x.u x.h x.c x.i
          · have HC := Lib.hid (bad (by rw [hok]; simp [q1]))
            simp only [q1] at K1
            clear bad hok q0 q1
            refine wp_region_noPanic ?_
            refine wp_region_held_drew (S := (fun w' => w'.cell? ⟨wr.heap.size, 0, none⟩ = some (.int .i64 x.f) ∧ w'.cell? ⟨w1.heap.size, 0, none⟩ = some (.int .i64 x.u) ∧ w'.cell? ⟨w1.heap.size, 1, none⟩ = some (.int .i64 x.h) ∧ w'.cell? ⟨w1.heap.size, 2, none⟩ = some (.int .i64 x.c) ∧ w'.cell? ⟨w1.heap.size, 3, none⟩ = some (.int .i64 x.i))) (by kernel_rfl) (⟨f0, n0, n1, n2, n3⟩) (fun hHeld => ?_)
            refine wpAnyH_take (i := 0) (v := ?_) rfl (by kernel_rfl) (by kernel_rfl) (by kernel_rfl) (fun _ _ _ h => h) (Or.inl ⟨by rfl, ?_⟩) (by assumption) ?_
            rotate_left 1
            · (intro wS hSw; (try dsimp only at hSw); go_simp; try with_reducible rfl)
            try simp only [List.getElem_toArray, List.getElem_cons_zero, List.getElem_cons_succ, Act.put, List.setIfInBounds_toArray, List.set_cons_zero, List.set_cons_succ]
            refine wpAnyH_take (i := 1) (v := ?_) rfl (by kernel_rfl) (by kernel_rfl) (by kernel_rfl) (fun _ _ _ h => h) (Or.inl ⟨by rfl, ?_⟩) (by assumption) ?_
            rotate_left 1
            · (intro wS hSw; (try dsimp only at hSw); go_simp; try with_reducible rfl)
            try simp only [List.getElem_toArray, List.getElem_cons_zero, List.getElem_cons_succ, Act.put, List.setIfInBounds_toArray, List.set_cons_zero, List.set_cons_succ]
            refine wpAnyH_take (i := 2) (v := ?_) rfl (by kernel_rfl) (by kernel_rfl) (by kernel_rfl) (fun _ _ _ h => h) (Or.inl ⟨by rfl, ?_⟩) (by assumption) ?_
            rotate_left 1
            · (intro wS hSw; (try dsimp only at hSw); go_simp; try with_reducible rfl)
            try simp only [List.getElem_toArray, List.getElem_cons_zero, List.getElem_cons_succ, Act.put, List.setIfInBounds_toArray, List.set_cons_zero, List.set_cons_succ]
            refine wpAnyH_take (i := 3) (v := ?_) rfl (by kernel_rfl) (by kernel_rfl) (by kernel_rfl) (fun _ _ _ h => h) (Or.inl ⟨by rfl, ?_⟩) (by assumption) ?_
            rotate_left 1
            · (intro wS hSw; (try dsimp only at hSw); go_simp; try with_reducible rfl)
            try simp only [List.getElem_toArray, List.getElem_cons_zero, List.getElem_cons_succ, Act.put, List.setIfInBounds_toArray, List.set_cons_zero, List.set_cons_succ]
            refine wpAnyH_take (i := 4) (v := ?_) rfl (by kernel_rfl) (by kernel_rfl) (by kernel_rfl) (fun _ _ _ h => h) (Or.inl ⟨by rfl, ?_⟩) (by assumption) ?_
            rotate_left 1
            · (intro wS hSw; (try dsimp only at hSw); go_simp; try with_reducible rfl)
            try simp only [List.getElem_toArray, List.getElem_cons_zero, List.getElem_cons_succ, Act.put, List.setIfInBounds_toArray, List.set_cons_zero, List.set_cons_succ]
            refine wpAnyH_take (i := 6) (v := ?_) rfl (by kernel_rfl) (by kernel_rfl) (by kernel_rfl) (fun _ _ _ h => h) (Or.inl ⟨by rfl, ?_⟩) (by assumption) ?_
            rotate_left 1
            · (intro wS hSw; (try dsimp only at hSw); go_simp; try with_reducible rfl)
            try simp only [List.getElem_toArray, List.getElem_cons_zero, List.getElem_cons_succ, Act.put, List.setIfInBounds_toArray, List.set_cons_zero, List.set_cons_succ]
            refine wpAnyH_ready (rs := [5]) (by kernel_rfl) (by simp) ?_
            refine AllReadyH.cons rfl (fun K hK => ?_) AllReadyH.nil
            go_simp
            refine (most_any _).mono ?_; rintro e w2 ⟨rfl, hb2⟩; have f0a := (hb2.cell (p := ⟨wr.heap.size, 0, none⟩) zW).trans f0; have n0a := (hb2.cell (p := ⟨w1.heap.size, 0, none⟩) zV).trans n0; have n1a := (hb2.cell (p := ⟨w1.heap.size, 1, none⟩) zV).trans n1; have n2a := (hb2.cell (p := ⟨w1.heap.size, 2, none⟩) zV).trans n2; have n3a := (hb2.cell (p := ⟨w1.heap.size, 3, none⟩) zV).trans n3; have H2 := Lib.hid (HV.out.drew.trans (hb2.mono HV.out.size)); have zV2 : w1.heap.size < w2.heap.size := Nat.lt_of_lt_of_le zV hb2.size; have zW2 : wr.heap.size < w2.heap.size := Nat.lt_of_lt_of_le zW hb2.size
            refine hK.out _ _ (⟨f0a, n0a, n1a, n2a, n3a⟩) (fun hHeld => ?_)
            clear hK K
            try simp only [List.getElem_toArray, List.getElem_cons_zero, List.getElem_cons_succ, Act.put, List.setIfInBounds_toArray, List.set_cons_zero, List.set_cons_succ]
            refine wpAnyH_ready (rs := [7]) (by kernel_rfl) (by simp) ?_
            refine AllReadyH.cons rfl (fun K hK => ?_) AllReadyH.nil
            go_simp
            refine (K1 _).out.mono ?_; rintro e w3 ⟨rfl, hb3⟩; have f0b := (hb3.cell (p := ⟨wr.heap.size, 0, none⟩) zW2).trans f0a; have n0b := (hb3.cell (p := ⟨w1.heap.size, 0, none⟩) zV2).trans n0a; have n1b := (hb3.cell (p := ⟨w1.heap.size, 1, none⟩) zV2).trans n1a; have n2b := (hb3.cell (p := ⟨w1.heap.size, 2, none⟩) zV2).trans n2a; have n3b := (hb3.cell (p := ⟨w1.heap.size, 3, none⟩) zV2).trans n3a; have H3 := Lib.hid (H2.out.trans (hb3.mono H2.out.size)); have zV3 : w1.heap.size < w3.heap.size := Nat.lt_of_lt_of_le zV2 hb3.size; have zW3 : wr.heap.size < w3.heap.size := Nat.lt_of_lt_of_le zW2 hb3.size
            refine hK.out _ _ (⟨f0b, n0b, n1b, n2b, n3b⟩) (fun hHeld => ?_)
            clear hK K
            try simp only [List.getElem_toArray, List.getElem_cons_zero, List.getElem_cons_succ, Act.put, List.setIfInBounds_toArray, List.set_cons_zero, List.set_cons_succ]
            refine wpAnyH_take (i := 8) (v := ?_) rfl (by kernel_rfl) (by kernel_rfl) (by kernel_rfl) (fun _ _ _ h => h) (Or.inl ⟨by rfl, ?_⟩) (by assumption) ?_
            rotate_left 1
            · (intro wS hSw; (try dsimp only at hSw); go_simp; try with_reducible rfl)
            try simp only [List.getElem_toArray, List.getElem_cons_zero, List.getElem_cons_succ, Act.put, List.setIfInBounds_toArray, List.set_cons_zero, List.set_cons_succ]
            refine wpAnyH_take (i := 9) (v := ?_) rfl (by kernel_rfl) (by kernel_rfl) (by kernel_rfl) (fun _ _ _ h => h) (Or.inl ⟨by rfl, ?_⟩) (by assumption) ?_
            rotate_left 1
            · (intro wS hSw; (try dsimp only at hSw); go_simp; try with_reducible rfl)
            try simp only [List.getElem_toArray, List.getElem_cons_zero, List.getElem_cons_succ, Act.put, List.setIfInBounds_toArray, List.set_cons_zero, List.set_cons_succ]
            refine wpAnyH_take (i := 10) (v := ?_) rfl (by kernel_rfl) (by kernel_rfl) (by kernel_rfl) (fun _ _ _ h => h) (Or.inl ⟨by rfl, ?_⟩) (by assumption) ?_
            rotate_left 1
            · (intro wS hSw; (try dsimp only at hSw); go_simp; try with_reducible rfl)
            try simp only [List.getElem_toArray, List.getElem_cons_zero, List.getElem_cons_succ, Act.put, List.setIfInBounds_toArray, List.set_cons_zero, List.set_cons_succ]
            refine wpAnyH_take (i := 11) (v := undef) rfl (by kernel_rfl) (by kernel_rfl) (by kernel_rfl) (fun _ _ _ h => h) (Or.inr ⟨by rfl, rfl⟩) (by assumption) ?_
            try simp only [List.getElem_toArray, List.getElem_cons_zero, List.getElem_cons_succ, Act.put, List.setIfInBounds_toArray, List.set_cons_zero, List.set_cons_succ]
            refine wpAnyH_take (i := 12) (v := undef) rfl (by kernel_rfl) (by kernel_rfl) (by kernel_rfl) (fun _ _ _ h => h) (Or.inr ⟨by rfl, rfl⟩) (by assumption) ?_
            try simp only [List.getElem_toArray, List.getElem_cons_zero, List.getElem_cons_succ, Act.put, List.setIfInBounds_toArray, List.set_cons_zero, List.set_cons_succ]
            refine wpAnyH_take (i := 13) (v := undef) rfl (by kernel_rfl) (by kernel_rfl) (by kernel_rfl) (fun _ _ _ h => h) (Or.inr ⟨by rfl, rfl⟩) (by assumption) ?_
            try simp only [List.getElem_toArray, List.getElem_cons_zero, List.getElem_cons_succ, Act.put, List.setIfInBounds_toArray, List.set_cons_zero, List.set_cons_succ]
            refine wpAnyH_take (i := 14) (v := undef) rfl (by kernel_rfl) (by kernel_rfl) (by kernel_rfl) (fun _ _ _ h => h) (Or.inr ⟨by rfl, rfl⟩) (by assumption) ?_
            try simp only [List.getElem_toArray, List.getElem_cons_zero, List.getElem_cons_succ, Act.put, List.setIfInBounds_toArray, List.set_cons_zero, List.set_cons_succ]
            refine wpAnyH_take (i := 15) (v := ?_) rfl (by kernel_rfl) (by kernel_rfl) (by kernel_rfl) (fun _ _ _ h => h) (Or.inl ⟨by rfl, ?_⟩) (by assumption) ?_
            rotate_left 1
            · (intro wS hSw; (try dsimp only at hSw); go_simp; try with_reducible rfl)
            try simp only [List.getElem_toArray, List.getElem_cons_zero, List.getElem_cons_succ, Act.put, List.setIfInBounds_toArray, List.set_cons_zero, List.set_cons_succ]
            refine wpAnyH_done (by kernel_rfl) ?_ _
            refine NoPanic.normal ?_
            go_wp2_with fail
            go_ret
            exact ⟨by rw [HC.out]; rfl, H3.out⟩
          · cases q2 : le4 x.u x.h x.c x.i 0 0 0 0
            all_goals
              have HC := Lib.hid (show (le4 x.u x.h x.c x.i 0 0 0 0 = true → x.ok (k : Int)) ∧ (le4 x.u x.h x.c x.i 0 0 0 0 = false → chkE l = 2) from ⟨fun h => hok.2 ⟨q0, q1, h⟩, fun h => bad (by rw [hok]; simp [h])⟩)
              simp only [q2, true_implies, false_implies, reduceCtorEq] at HC
              simp only [q1] at K1
              simp only [q2] at K2
              clear bad hok q0 q1 q2
              refine wp_region_noPanic ?_
              refine wp_region_held_drew (S := (fun w' => w'.cell? ⟨wr.heap.size, 0, none⟩ = some (.int .i64 x.f) ∧ w'.cell? ⟨w1.heap.size, 0, none⟩ = some (.int .i64 x.u) ∧ w'.cell? ⟨w1.heap.size, 1, none⟩ = some (.int .i64 x.h) ∧ w'.cell? ⟨w1.heap.size, 2, none⟩ = some (.int .i64 x.c) ∧ w'.cell? ⟨w1.heap.size, 3, none⟩ = some (.int .i64 x.i))) (by kernel_rfl) (⟨f0, n0, n1, n2, n3⟩) (fun hHeld => ?_)
              refine wpAnyH_take (i := 0) (v := ?_) rfl (by kernel_rfl) (by kernel_rfl) (by kernel_rfl) (fun _ _ _ h => h) (Or.inl ⟨by rfl, ?_⟩) (by assumption) ?_
              rotate_left 1
              · (intro wS hSw; (try dsimp only at hSw); go_simp; try with_reducible rfl)
              try simp only [List.getElem_toArray, List.getElem_cons_zero, List.getElem_cons_succ, Act.put, List.setIfInBounds_toArray, List.set_cons_zero, List.set_cons_succ]
              refine wpAnyH_take (i := 1) (v := ?_) rfl (by kernel_rfl) (by kernel_rfl) (by kernel_rfl) (fun _ _ _ h => h) (Or.inl ⟨by rfl, ?_⟩) (by assumption) ?_
              rotate_left 1
              · (intro wS hSw; (try dsimp only at hSw); go_simp; try with_reducible rfl)
              try simp only [List.getElem_toArray, List.getElem_cons_zero, List.getElem_cons_succ, Act.put, List.setIfInBounds_toArray, List.set_cons_zero, List.set_cons_succ]
              refine wpAnyH_take (i := 2) (v := ?_) rfl (by kernel_rfl) (by kernel_rfl) (by kernel_rfl) (fun _ _ _ h => h) (Or.inl ⟨by rfl, ?_⟩) (by assumption) ?_
              rotate_left 1
              · (intro wS hSw; (try dsimp only at hSw); go_simp; try with_reducible rfl)
              try simp only [List.getElem_toArray, List.getElem_cons_zero, List.getElem_cons_succ, Act.put, List.setIfInBounds_toArray, List.set_cons_zero, List.set_cons_succ]
              refine wpAnyH_take (i := 3) (v := ?_) rfl (by kernel_rfl) (by kernel_rfl) (by kernel_rfl) (fun _ _ _ h => h) (Or.inl ⟨by rfl, ?_⟩) (by assumption) ?_
              rotate_left 1
              · (intro wS hSw; (try dsimp only at hSw); go_simp; try with_reducible rfl)
              try simp only [List.getElem_toArray, List.getElem_cons_zero, List.getElem_cons_succ, Act.put, List.setIfInBounds_toArray, List.set_cons_zero, List.set_cons_succ]
              refine wpAnyH_take (i := 4) (v := ?_) rfl (by kernel_rfl) (by kernel_rfl) (by kernel_rfl) (fun _ _ _ h => h) (Or.inl ⟨by rfl, ?_⟩) (by assumption) ?_
              rotate_left 1
              · (intro wS hSw; (try dsimp only at hSw); go_simp; try with_reducible rfl)
              try simp only [List.getElem_toArray, List.getElem_cons_zero, List.getElem_cons_succ, Act.put, List.setIfInBounds_toArray, List.set_cons_zero, List.set_cons_succ]
              refine wpAnyH_take (i := 6) (v := ?_) rfl (by kernel_rfl) (by kernel_rfl) (by kernel_rfl) (fun _ _ _ h => h) (Or.inl ⟨by rfl, ?_⟩) (by assumption) ?_
              rotate_left 1
              · (intro wS hSw; (try dsimp only at hSw); go_simp; try with_reducible rfl)
              try simp only [List.getElem_toArray, List.getElem_cons_zero, List.getElem_cons_succ, Act.put, List.setIfInBounds_toArray, List.set_cons_zero, List.set_cons_succ]
              refine wpAnyH_ready (rs := [5]) (by kernel_rfl) (by simp) ?_
              refine AllReadyH.cons rfl (fun K hK => ?_) AllReadyH.nil
              go_simp
              refine (most_any _).mono ?_; rintro e w2 ⟨rfl, hb2⟩; have f0a := (hb2.cell (p := ⟨wr.heap.size, 0, none⟩) zW).trans f0; have n0a := (hb2.cell (p := ⟨w1.heap.size, 0, none⟩) zV).trans n0; have n1a := (hb2.cell (p := ⟨w1.heap.size, 1, none⟩) zV).trans n1; have n2a := (hb2.cell (p := ⟨w1.heap.size, 2, none⟩) zV).trans n2; have n3a := (hb2.cell (p := ⟨w1.heap.size, 3, none⟩) zV).trans n3; have H2 := Lib.hid (HV.out.drew.trans (hb2.mono HV.out.size)); have zV2 : w1.heap.size < w2.heap.size := Nat.lt_of_lt_of_le zV hb2.size; have zW2 : wr.heap.size < w2.heap.size := Nat.lt_of_lt_of_le zW hb2.size
              refine hK.out _ _ (⟨f0a, n0a, n1a, n2a, n3a⟩) (fun hHeld => ?_)
              clear hK K
              try simp only [List.getElem_toArray, List.getElem_cons_zero, List.getElem_cons_succ, Act.put, List.setIfInBounds_toArray, List.set_cons_zero, List.set_cons_succ]
              refine wpAnyH_ready (rs := [7]) (by kernel_rfl) (by simp) ?_
              refine AllReadyH.cons rfl (fun K hK => ?_) AllReadyH.nil
              go_simp
              refine (K1 _).out.mono ?_; rintro e w3 ⟨rfl, hb3⟩; have f0b := (hb3.cell (p := ⟨wr.heap.size, 0, none⟩) zW2).trans f0a; have n0b := (hb3.cell (p := ⟨w1.heap.size, 0, none⟩) zV2).trans n0a; have n1b := (hb3.cell (p := ⟨w1.heap.size, 1, none⟩) zV2).trans n1a; have n2b := (hb3.cell (p := ⟨w1.heap.size, 2, none⟩) zV2).trans n2a; have n3b := (hb3.cell (p := ⟨w1.heap.size, 3, none⟩) zV2).trans n3a; have H3 := Lib.hid (H2.out.trans (hb3.mono H2.out.size)); have zV3 : w1.heap.size < w3.heap.size := Nat.lt_of_lt_of_le zV2 hb3.size; have zW3 : wr.heap.size < w3.heap.size := Nat.lt_of_lt_of_le zW2 hb3.size
              refine hK.out _ _ (⟨f0b, n0b, n1b, n2b, n3b⟩) (fun hHeld => ?_)
              clear hK K
              try simp only [List.getElem_toArray, List.getElem_cons_zero, List.getElem_cons_succ, Act.put, List.setIfInBounds_toArray, List.set_cons_zero, List.set_cons_succ]
              refine wpAnyH_take (i := 8) (v := ?_) rfl (by kernel_rfl) (by kernel_rfl) (by kernel_rfl) (fun _ _ _ h => h) (Or.inl ⟨by rfl, ?_⟩) (by assumption) ?_
              rotate_left 1
              · (intro wS hSw; (try dsimp only at hSw); go_simp; try with_reducible rfl)
              try simp only [List.getElem_toArray, List.getElem_cons_zero, List.getElem_cons_succ, Act.put, List.setIfInBounds_toArray, List.set_cons_zero, List.set_cons_succ]
              refine wpAnyH_take (i := 9) (v := ?_) rfl (by kernel_rfl) (by kernel_rfl) (by kernel_rfl) (fun _ _ _ h => h) (Or.inl ⟨by rfl, ?_⟩) (by assumption) ?_
              rotate_left 1
              · (intro wS hSw; (try dsimp only at hSw); go_simp; try with_reducible rfl)
              try simp only [List.getElem_toArray, List.getElem_cons_zero, List.getElem_cons_succ, Act.put, List.setIfInBounds_toArray, List.set_cons_zero, List.set_cons_succ]
              refine wpAnyH_take (i := 10) (v := ?_) rfl (by kernel_rfl) (by kernel_rfl) (by kernel_rfl) (fun _ _ _ h => h) (Or.inl ⟨by rfl, ?_⟩) (by assumption) ?_
              rotate_left 1
              · (intro wS hSw; (try dsimp only at hSw); go_simp; try with_reducible rfl)
              try simp only [List.getElem_toArray, List.getElem_cons_zero, List.getElem_cons_succ, Act.put, List.setIfInBounds_toArray, List.set_cons_zero, List.set_cons_succ]
              refine wpAnyH_take (i := 11) (v := ?_) rfl (by kernel_rfl) (by kernel_rfl) (by kernel_rfl) (fun _ _ _ h => h) (Or.inl ⟨by rfl, ?_⟩) (by assumption) ?_
              rotate_left 1
              · (intro wS hSw; (try dsimp only at hSw); go_simp; try with_reducible rfl)
              try simp only [List.getElem_toArray, List.getElem_cons_zero, List.getElem_cons_succ, Act.put, List.setIfInBounds_toArray, List.set_cons_zero, List.set_cons_succ]
              refine wpAnyH_take (i := 12) (v := ?_) rfl (by kernel_rfl) (by kernel_rfl) (by kernel_rfl) (fun _ _ _ h => h) (Or.inl ⟨by rfl, ?_⟩) (by assumption) ?_
              rotate_left 1
              · (intro wS hSw; (try dsimp only at hSw); go_simp; try with_reducible rfl)
              try simp only [List.getElem_toArray, List.getElem_cons_zero, List.getElem_cons_succ, Act.put, List.setIfInBounds_toArray, List.set_cons_zero, List.set_cons_succ]
              refine wpAnyH_ready (rs := [13]) (by kernel_rfl) (by simp) ?_
              refine AllReadyH.cons rfl (fun K hK => ?_) AllReadyH.nil
              go_simp
              refine (K2 _).out.mono ?_; rintro e w4 ⟨rfl, hb4⟩; have f0c := (hb4.cell (p := ⟨wr.heap.size, 0, none⟩) zW3).trans f0b; have n0c := (hb4.cell (p := ⟨w1.heap.size, 0, none⟩) zV3).trans n0b; have n1c := (hb4.cell (p := ⟨w1.heap.size, 1, none⟩) zV3).trans n1b; have n2c := (hb4.cell (p := ⟨w1.heap.size, 2, none⟩) zV3).trans n2b; have n3c := (hb4.cell (p := ⟨w1.heap.size, 3, none⟩) zV3).trans n3b; have H4 := Lib.hid (H3.out.trans (hb4.mono H3.out.size))
              refine hK.out _ _ (⟨f0c, n0c, n1c, n2c, n3c⟩) (fun hHeld => ?_)
              clear hK K
              try simp only [List.getElem_toArray, List.getElem_cons_zero, List.getElem_cons_succ, Act.put, List.setIfInBounds_toArray, List.set_cons_zero, List.set_cons_succ]
              refine wpAnyH_take (i := 14) (v := ?_) rfl (by kernel_rfl) (by kernel_rfl) (by kernel_rfl) (fun _ _ _ h => h) (Or.inl ⟨by rfl, ?_⟩) (by assumption) ?_
              rotate_left 1
              · (intro wS hSw; (try dsimp only at hSw); go_simp; try with_reducible rfl)
              try simp only [List.getElem_toArray, List.getElem_cons_zero, List.getElem_cons_succ, Act.put, List.setIfInBounds_toArray, List.set_cons_zero, List.set_cons_succ]
              refine wpAnyH_take (i := 15) (v := ?_) rfl (by kernel_rfl) (by kernel_rfl) (by kernel_rfl) (fun _ _ _ h => h) (Or.inl ⟨by rfl, ?_⟩) (by assumption) ?_
              rotate_left 1
              · (intro wS hSw; (try dsimp only at hSw); go_simp; try with_reducible rfl)
              try simp only [List.getElem_toArray, List.getElem_cons_zero, List.getElem_cons_succ, Act.put, List.setIfInBounds_toArray, List.set_cons_zero, List.set_cons_succ]
              refine wpAnyH_done (by kernel_rfl) ?_ _
              refine NoPanic.normal ?_
              go_wp2_with fail
            · go_ret
              exact ⟨by rw [HC.out.2]; rfl, H4.out⟩
            · go_roundw
              case rel => exact ⟨k + 1, by omega, by go_num, fun j hj hj' => by
                rcases Nat.lt_or_ge j k with hjk | hjk
                · exact HO.out j hj hjk
                · obtain rfl : j = k := by omega
                  rw [HX.out]; exact HC.out.1, H4.out⟩
              case measure => simp [intOf]; omega
        · have t1 : (x.f == (k : Int)) = false := by simpa using q0
          have t2 : (x.f != (k : Int)) = true := by simpa using q0
          have HC := Lib.hid (bad (by rw [hok]; simp [q0]))
          clear bad hok q0 K1 K2
          refine wp_region_noPanic ?_
          refine wp_region_held_drew (S := (fun w' => w'.cell? ⟨wr.heap.size, 0, none⟩ = some (.int .i64 x.f) ∧ w'.cell? ⟨w1.heap.size, 0, none⟩ = some (.int .i64 x.u) ∧ w'.cell? ⟨w1.heap.size, 1, none⟩ = some (.int .i64 x.h) ∧ w'.cell? ⟨w1.heap.size, 2, none⟩ = some (.int .i64 x.c) ∧ w'.cell? ⟨w1.heap.size, 3, none⟩ = some (.int .i64 x.i))) (by kernel_rfl) (⟨f0, n0, n1, n2, n3⟩) (fun hHeld => ?_)
          refine wpAnyH_take (i := 0) (v := ?_) rfl (by kernel_rfl) (by kernel_rfl) (by kernel_rfl) (fun _ _ _ h => h) (Or.inl ⟨by rfl, ?_⟩) (by assumption) ?_
          rotate_left 1
          · (intro wS hSw; (try dsimp only at hSw); go_simp; try with_reducible rfl)
          try simp only [List.getElem_toArray, List.getElem_cons_zero, List.getElem_cons_succ, Act.put, List.setIfInBounds_toArray, List.set_cons_zero, List.set_cons_succ]
          refine wpAnyH_take (i := 1) (v := ?_) rfl (by kernel_rfl) (by kernel_rfl) (by kernel_rfl) (fun _ _ _ h => h) (Or.inl ⟨by rfl, ?_⟩) (by assumption) ?_
          rotate_left 1
          · (intro wS hSw; (try dsimp only at hSw); go_simp; try with_reducible rfl)
          try simp only [List.getElem_toArray, List.getElem_cons_zero, List.getElem_cons_succ, Act.put, List.setIfInBounds_toArray, List.set_cons_zero, List.set_cons_succ]
          refine wpAnyH_take (i := 2) (v := ?_) rfl (by kernel_rfl) (by kernel_rfl) (by kernel_rfl) (fun _ _ _ h => h) (Or.inl ⟨by rfl, ?_⟩) (by assumption) ?_
          rotate_left 1
          · (intro wS hSw; (try dsimp only at hSw); go_simp; try with_reducible rfl)
          try simp only [List.getElem_toArray, List.getElem_cons_zero, List.getElem_cons_succ, Act.put, List.setIfInBounds_toArray, List.set_cons_zero, List.set_cons_succ]
          refine wpAnyH_take (i := 3) (v := ?_) rfl (by kernel_rfl) (by kernel_rfl) (by kernel_rfl) (fun _ _ _ h => h) (Or.inl ⟨by rfl, ?_⟩) (by assumption) ?_
          rotate_left 1
          · (intro wS hSw; (try dsimp only at hSw); go_simp; try with_reducible rfl)
          try simp only [List.getElem_toArray, List.getElem_cons_zero, List.getElem_cons_succ, Act.put, List.setIfInBounds_toArray, List.set_cons_zero, List.set_cons_succ]
          refine wpAnyH_take (i := 4) (v := ?_) rfl (by kernel_rfl) (by kernel_rfl) (by kernel_rfl) (fun _ _ _ h => h) (Or.inl ⟨by rfl, ?_⟩) (by assumption) ?_
          rotate_left 1
          · (intro wS hSw; (try dsimp only at hSw); go_simp; try with_reducible rfl)
          try simp only [List.getElem_toArray, List.getElem_cons_zero, List.getElem_cons_succ, Act.put, List.setIfInBounds_toArray, List.set_cons_zero, List.set_cons_succ]
          refine wpAnyH_take (i := 5) (v := undef) rfl (by kernel_rfl) (by kernel_rfl) (by kernel_rfl) (fun _ _ _ h => h) (Or.inr ⟨by rfl, rfl⟩) (by assumption) ?_
          try simp only [List.getElem_toArray, List.getElem_cons_zero, List.getElem_cons_succ, Act.put, List.setIfInBounds_toArray, List.set_cons_zero, List.set_cons_succ]
          refine wpAnyH_take (i := 6) (v := undef) rfl (by kernel_rfl) (by kernel_rfl) (by kernel_rfl) (fun _ _ _ h => h) (Or.inr ⟨by rfl, rfl⟩) (by assumption) ?_
          try simp only [List.getElem_toArray, List.getElem_cons_zero, List.getElem_cons_succ, Act.put, List.setIfInBounds_toArray, List.set_cons_zero, List.set_cons_succ]
          refine wpAnyH_take (i := 7) (v := undef) rfl (by kernel_rfl) (by kernel_rfl) (by kernel_rfl) (fun _ _ _ h => h) (Or.inr ⟨by rfl, rfl⟩) (by assumption) ?_
          try simp only [List.getElem_toArray, List.getElem_cons_zero, List.getElem_cons_succ, Act.put, List.setIfInBounds_toArray, List.set_cons_zero, List.set_cons_succ]
          refine wpAnyH_take (i := 8) (v := undef) rfl (by kernel_rfl) (by kernel_rfl) (by kernel_rfl) (fun _ _ _ h => h) (Or.inr ⟨by rfl, rfl⟩) (by assumption) ?_
          try simp only [List.getElem_toArray, List.getElem_cons_zero, List.getElem_cons_succ, Act.put, List.setIfInBounds_toArray, List.set_cons_zero, List.set_cons_succ]
          refine wpAnyH_take (i := 9) (v := ?_) rfl (by kernel_rfl) (by kernel_rfl) (by kernel_rfl) (fun _ _ _ h => h) (Or.inl ⟨by rfl, ?_⟩) (by assumption) ?_
          rotate_left 1
          · (intro wS hSw; (try dsimp only at hSw); go_simp; try with_reducible rfl)
          try simp only [List.getElem_toArray, List.getElem_cons_zero, List.getElem_cons_succ, Act.put, List.setIfInBounds_toArray, List.set_cons_zero, List.set_cons_succ]
          refine wpAnyH_take (i := 10) (v := ?_) rfl (by kernel_rfl) (by kernel_rfl) (by kernel_rfl) (fun _ _ _ h => h) (Or.inl ⟨by rfl, ?_⟩) (by assumption) ?_
          rotate_left 1
          · (intro wS hSw; (try dsimp only at hSw); go_simp; try with_reducible rfl)
          try simp only [List.getElem_toArray, List.getElem_cons_zero, List.getElem_cons_succ, Act.put, List.setIfInBounds_toArray, List.set_cons_zero, List.set_cons_succ]
          refine wpAnyH_take (i := 11) (v := undef) rfl (by kernel_rfl) (by kernel_rfl) (by kernel_rfl) (fun _ _ _ h => h) (Or.inr ⟨by rfl, rfl⟩) (by assumption) ?_
          try simp only [List.getElem_toArray, List.getElem_cons_zero, List.getElem_cons_succ, Act.put, List.setIfInBounds_toArray, List.set_cons_zero, List.set_cons_succ]
          refine wpAnyH_take (i := 12) (v := undef) rfl (by kernel_rfl) (by kernel_rfl) (by kernel_rfl) (fun _ _ _ h => h) (Or.inr ⟨by rfl, rfl⟩) (by assumption) ?_
          try simp only [List.getElem_toArray, List.getElem_cons_zero, List.getElem_cons_succ, Act.put, List.setIfInBounds_toArray, List.set_cons_zero, List.set_cons_succ]
          refine wpAnyH_take (i := 13) (v := undef) rfl (by kernel_rfl) (by kernel_rfl) (by kernel_rfl) (fun _ _ _ h => h) (Or.inr ⟨by rfl, rfl⟩) (by assumption) ?_
          try simp only [List.getElem_toArray, List.getElem_cons_zero, List.getElem_cons_succ, Act.put, List.setIfInBounds_toArray, List.set_cons_zero, List.set_cons_succ]
          refine wpAnyH_take (i := 14) (v := undef) rfl (by kernel_rfl) (by kernel_rfl) (by kernel_rfl) (fun _ _ _ h => h) (Or.inr ⟨by rfl, rfl⟩) (by assumption) ?_
          try simp only [List.getElem_toArray, List.getElem_cons_zero, List.getElem_cons_succ, Act.put, List.setIfInBounds_toArray, List.set_cons_zero, List.set_cons_succ]
          refine wpAnyH_take (i := 15) (v := ?_) rfl (by kernel_rfl) (by kernel_rfl) (by kernel_rfl) (fun _ _ _ h => h) (Or.inl ⟨by rfl, ?_⟩) (by assumption) ?_
          rotate_left 1
          · (intro wS hSw; (try dsimp only at hSw); go_simp; try with_reducible rfl)
          try simp only [List.getElem_toArray, List.getElem_cons_zero, List.getElem_cons_succ, Act.put, List.setIfInBounds_toArray, List.set_cons_zero, List.set_cons_succ]
          refine wpAnyH_done (by kernel_rfl) ?_ _
          refine NoPanic.normal ?_
          go_wp2_with fail
          go_ret
          exact ⟨by rw [HC.out]; rfl, HV.out.drew⟩
      · go_wp2
        go_ret
        have hall : okAll 0 l := by
          rw [okAll_iff]
          intro j hj
          rw [Nat.zero_add]
          exact HO.out j hj (by omega)
        exact ⟨by rw [chkE, if_pos ⟨h1, h5⟩, if_pos hall]; rfl, hb⟩
  · have hc : chkE l = 8 := by rw [chkE, if_neg h1]
    rw [hc]
    clear hl hc
    by_cases h0 : l.length < 1
    · have g1 : (l.length : Int) < 1 := by omega
      go_enter Try.func15, Try.ntmps15
      go_wp2
      go_ret
      exact ⟨rfl, Below.refl _ _⟩
    · have g1 : decide ((l.length : Int) < 1) = false := by simp; omega
      have g2 : (5 : Int) < (l.length : Int) := by omega
      go_enter Try.func15, Try.ntmps15
      go_wp2
      go_ret
      exact ⟨rfl, Below.refl _ _⟩
end Go.Proofs.Ytohglcbakepejaa
