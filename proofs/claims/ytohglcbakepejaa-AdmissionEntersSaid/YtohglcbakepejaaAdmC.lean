/- admission: check, Admit, Within. -/
import Derived.Test.YtohglcbakepejaaAdmB
set_option linter.unusedSimpArgs false
set_option linter.unusedVariables false
namespace Go.Proofs.Ytohglcbakepejaa
open Go.RowKit
theorem ExRow.below {w w' : World} {v : Value} {l : List Ex} (h : ExRow w (All w) v l) (hb : Below w.heap.size w w') : ExRow w' (All w') v l := Row.below h hb
theorem ExRow.val {w : World} {S : Nat → Prop} {v : Value} {l : List Ex} (h : ExRow w S v l) : ∃ a cap, v = .slice a l.length cap := Row.slice h
set_option maxHeartbeats 1000000 in
theorem check2_any (u v : Value) (a b : List Ex) (w : World) (ha : ExRow w (All w) u a) (hb : ExRow w (All w) v b) (na : a.length ≤ 1000000) (nb : b.length ≤ 1000000) :
    Calls Try.prog 18 #[u, v] w fun e w' => e = .returned (.int .i64 (check2 a b)) ∧ Below w.heap.size w w' := by
  obtain ⟨ua, uc, rfl⟩ := ha.val
  obtain ⟨va, vc, rfl⟩ := hb.val
  have K1 := fun w h => Lib.hid (checkE_any ua _ uc a w h na)
  have K2 := fun w h => Lib.hid (checkE_any va _ vc b w h nb)
  have HA := Lib.hid ha; clear ha
  have HB2 := Lib.hid hb; clear hb
  have HB := Lib.hid (Below.refl w.heap.size w)
  by_cases h1 : chkE a = 0
  · by_cases h2 : chkE b = 0
    · have hc : check2 a b = if a.length ≠ b.length then 8 else 0 := by simp [check2, h1, h2]
      simp only [h1] at K1
      simp only [h2] at K2
      rw [hc]; clear h1 h2 hc
      by_cases h3 : a.length = b.length
      · rw [if_neg (by simpa using h3)]
        have h3' : ((a.length : Int) == (b.length : Int)) = true := by simp [h3]
        have h3'' : ((a.length : Int) != (b.length : Int)) = false := by simp [h3]
        clear h3
        go_enter Try.func18, Try.ntmps18
        go_wp2_with fail
        refine ((K1 _ HA.out).out).mono ?_; rintro e w1 ⟨rfl, hb⟩
        have hx := Lib.hid (by first | exact HB.out.trans (hb.mono HB.out.size) | exact (HB.out.alloc HB.out.size _).trans (hb.mono (by have := HB.out.size; first | omega | (simp; done) | (simp; omega))) | exact ((HB.out.alloc HB.out.size _).alloc (by have := HB.out.size; first | omega | (simp; done) | (simp; omega)) _).trans (hb.mono (by have := HB.out.size; first | omega | (simp; done) | (simp; omega))) : Below w.heap.size w w1); clear HB hb; have HB := hx; clear hx
        go_wp2_with fail
        refine ((K2 _ (HB2.out.below HB.out)).out).mono ?_; rintro e w2 ⟨rfl, hb⟩
        have hx := Lib.hid (by first | exact HB.out.trans (hb.mono HB.out.size) | exact (HB.out.alloc HB.out.size _).trans (hb.mono (by have := HB.out.size; first | omega | (simp; done) | (simp; omega))) | exact ((HB.out.alloc HB.out.size _).alloc (by have := HB.out.size; first | omega | (simp; done) | (simp; omega)) _).trans (hb.mono (by have := HB.out.size; first | omega | (simp; done) | (simp; omega))) : Below w.heap.size w w2); clear HB hb; have HB := hx; clear hx
        go_wp2_with fail
        go_ret
        exact ⟨rfl, HB.out⟩
      · rw [if_pos (by simpa using h3)]
        have h3' : ((a.length : Int) == (b.length : Int)) = false := by simp; omega
        have h3'' : ((a.length : Int) != (b.length : Int)) = true := by simp; omega
        clear h3
        go_enter Try.func18, Try.ntmps18
        go_wp2_with fail
        refine ((K1 _ HA.out).out).mono ?_; rintro e w1 ⟨rfl, hb⟩
        have hx := Lib.hid (by first | exact HB.out.trans (hb.mono HB.out.size) | exact (HB.out.alloc HB.out.size _).trans (hb.mono (by have := HB.out.size; first | omega | (simp; done) | (simp; omega))) | exact ((HB.out.alloc HB.out.size _).alloc (by have := HB.out.size; first | omega | (simp; done) | (simp; omega)) _).trans (hb.mono (by have := HB.out.size; first | omega | (simp; done) | (simp; omega))) : Below w.heap.size w w1); clear HB hb; have HB := hx; clear hx
        go_wp2_with fail
        refine ((K2 _ (HB2.out.below HB.out)).out).mono ?_; rintro e w2 ⟨rfl, hb⟩
        have hx := Lib.hid (by first | exact HB.out.trans (hb.mono HB.out.size) | exact (HB.out.alloc HB.out.size _).trans (hb.mono (by have := HB.out.size; first | omega | (simp; done) | (simp; omega))) | exact ((HB.out.alloc HB.out.size _).alloc (by have := HB.out.size; first | omega | (simp; done) | (simp; omega)) _).trans (hb.mono (by have := HB.out.size; first | omega | (simp; done) | (simp; omega))) : Below w.heap.size w w2); clear HB hb; have HB := hx; clear hx
        go_wp2_with fail
        go_ret
        exact ⟨rfl, HB.out⟩
    · have hc : check2 a b = chkE b := by simp [check2, h1, h2]
      simp only [h1] at K1
      rw [hc]; clear hc h1
      generalize chkE b = c at *
      have h2' : ((c : Int) == 0) = false := by simpa using h2
      have h2'' : ((c : Int) != 0) = true := by simpa using h2
      clear h2
      go_enter Try.func18, Try.ntmps18
      go_wp2_with fail
      refine ((K1 _ HA.out).out).mono ?_; rintro e w1 ⟨rfl, hb⟩
      have hx := Lib.hid (by first | exact HB.out.trans (hb.mono HB.out.size) | exact (HB.out.alloc HB.out.size _).trans (hb.mono (by have := HB.out.size; first | omega | (simp; done) | (simp; omega))) | exact ((HB.out.alloc HB.out.size _).alloc (by have := HB.out.size; first | omega | (simp; done) | (simp; omega)) _).trans (hb.mono (by have := HB.out.size; first | omega | (simp; done) | (simp; omega))) : Below w.heap.size w w1); clear HB hb; have HB := hx; clear hx
      go_wp2_with fail
      refine ((K2 _ (HB2.out.below HB.out)).out).mono ?_; rintro e w2 ⟨rfl, hb⟩
      have hx := Lib.hid (by first | exact HB.out.trans (hb.mono HB.out.size) | exact (HB.out.alloc HB.out.size _).trans (hb.mono (by have := HB.out.size; first | omega | (simp; done) | (simp; omega))) | exact ((HB.out.alloc HB.out.size _).alloc (by have := HB.out.size; first | omega | (simp; done) | (simp; omega)) _).trans (hb.mono (by have := HB.out.size; first | omega | (simp; done) | (simp; omega))) : Below w.heap.size w w2); clear HB hb; have HB := hx; clear hx
      go_wp2_with fail
      go_ret
      exact ⟨rfl, HB.out⟩
  · have hc : check2 a b = chkE a := by simp [check2, h1]
    rw [hc]; clear hc
    generalize chkE a = c at *
    have h2' : ((c : Int) == 0) = false := by simpa using h1
    have h2'' : ((c : Int) != 0) = true := by simpa using h1
    clear h1
    go_enter Try.func18, Try.ntmps18
    go_wp2_with fail
    refine ((K1 _ HA.out).out).mono ?_; rintro e w1 ⟨rfl, hb⟩
    have hx := Lib.hid (by first | exact HB.out.trans (hb.mono HB.out.size) | exact (HB.out.alloc HB.out.size _).trans (hb.mono (by have := HB.out.size; first | omega | (simp; done) | (simp; omega))) | exact ((HB.out.alloc HB.out.size _).alloc (by have := HB.out.size; first | omega | (simp; done) | (simp; omega)) _).trans (hb.mono (by have := HB.out.size; first | omega | (simp; done) | (simp; omega))) : Below w.heap.size w w1); clear HB hb; have HB := hx; clear hx
    go_wp2_with fail
    go_ret
    exact ⟨rfl, HB.out⟩
theorem check2_len {a b : List Ex} (h : check2 a b = 0) : a.length = b.length ∧ a.length ≤ 5 ∧ 1 ≤ a.length := by
  unfold check2 chkE at h
  repeat' split at h
  all_goals first | omega | (simp_all; done) | (simp_all; omega)
theorem le_le4 (x y : Ex) : le4 y.u y.h y.c y.i x.u x.h x.c x.i = decide (x.le y) := by unfold le4 Ex.le; rfl
set_option maxHeartbeats 1500000 in
theorem admit_any (u v : Value) (b l : List Ex) (w : World) (hu : ExRow w (All w) u b) (hl : ExRow w (All w) v l) (nb : b.length ≤ 1000000) (nl : l.length ≤ 1000000) :
    Calls Try.prog 14 #[u, v] w fun e w' => e = .returned (.int .i64 (admitE b l)) ∧ Below w.heap.size w w' := by
  have KC := fun w h1 h2 => Lib.hid (check2_any u v b l w h1 h2 nb nl)
  obtain ⟨ua, uc, rfl⟩ := hu.val
  obtain ⟨va, vc, rfl⟩ := hl.val
  have HU := Lib.hid hu; clear hu
  have HL := Lib.hid hl; clear hl
  have HB := Lib.hid (Below.refl w.heap.size w)
  by_cases hc : check2 b l = 0
  · obtain ⟨e1, e2, e3⟩ := check2_len hc
    have e1a : b.length ≤ l.length := by omega
    have e1b : l.length ≤ b.length := by omega
    clear e1
    have ha : admitE b l = if leAll l b then 0 else 11 := by simp [admitE, hc]
    simp only [hc] at KC
    have HA := Lib.hid ha; clear ha hc
    go_enter Try.func14, Try.ntmps14
    go_wp2_with fail
    refine ((KC _ HU.out HL.out).out).mono ?_; rintro e w0 ⟨rfl, hb⟩
    have hx := Lib.hid (by first | exact HB.out.trans (hb.mono HB.out.size) | exact (HB.out.alloc HB.out.size _).trans (hb.mono (by have := HB.out.size; first | omega | (simp; done) | (simp; omega))) | exact ((HB.out.alloc HB.out.size _).alloc (by have := HB.out.size; first | omega | (simp; done) | (simp; omega)) _).trans (hb.mono (by have := HB.out.size; first | omega | (simp; done) | (simp; omega))) : Below w.heap.size w w0); clear HB hb; have HB := hx; clear hx
    go_wp2_with fail
    go_loopw [16] (fun i wr => ∃ k : Nat, k ≤ l.length ∧ i = .int .i64 k ∧ Hid (∀ j, (h : j < l.length) → (h' : j < b.length) → j < k → (l[j]).le b[j]) ∧ Below w.heap.size w wr) (fun i _ => l.length - (intOf i).toNat)
    case atStart => exact ⟨0, by omega, rfl, fun j _ _ h => by omega, HB.out⟩
    case round =>
      obtain ⟨k, hk, rfl, HO, hb⟩ := hrel
      clear HB
      by_cases hlt : k < l.length
      · have hltb : k < b.length := by omega
        have hcap : (k : Int) < (b.length : Int) := by omega
        obtain ⟨bl, ol, rfl, hbw, c0, c1, c2, c3, c4⟩ := HL.out.get k hlt
        obtain ⟨bb, ob, rfl, hbb, e0, e1, e2, e3, e4⟩ := HU.out.get k hltb
        generalize hx : l[k] = x at *
        generalize hy : b[k] = y at *
        have d0 := (hb.cell (p := ⟨bl, ol + k * 5, none⟩) hbw).trans c0
        have g0 := (hb.cell (p := ⟨bb, ob + k * 5, none⟩) hbb).trans e0
        have d1 := (hb.cell (p := ⟨bl, ol + k * 5 + 1, none⟩) hbw).trans c1
        have g1 := (hb.cell (p := ⟨bb, ob + k * 5 + 1, none⟩) hbb).trans e1
        have d2 := (hb.cell (p := ⟨bl, ol + k * 5 + 2, none⟩) hbw).trans c2
        have g2 := (hb.cell (p := ⟨bb, ob + k * 5 + 2, none⟩) hbb).trans e2
        have d3 := (hb.cell (p := ⟨bl, ol + k * 5 + 3, none⟩) hbw).trans c3
        have g3 := (hb.cell (p := ⟨bb, ob + k * 5 + 3, none⟩) hbb).trans e3
        have d4 := (hb.cell (p := ⟨bl, ol + k * 5 + 4, none⟩) hbw).trans c4
        have g4 := (hb.cell (p := ⟨bb, ob + k * 5 + 4, none⟩) hbb).trans e4
        clear c0 c1 c2 c3 c4 e0 e1 e2 e3 e4
        have HX := Lib.hid hx; have HY := Lib.hid hy; clear hx hy
        have hz := hb.size
        have HB := Lib.hid hb; clear hb
        have hbr : bb < wr.heap.size := Nat.lt_of_lt_of_le hbb hz
        go_wp2_with fail
        refine wp_world (fun wV hV => ?_)
        have HV := Lib.hid (show Below w.heap.size w wV by rw [hV]; exact HB.out.alloc HB.out.size _)
        have XV := Lib.hid (show wV.heap[wr.heap.size]? = some (.cells #[.int .i64 x.f, .int .i64 x.u, .int .i64 x.h, .int .i64 x.c, .int .i64 x.i] 35 (0, 0)) by rw [hV]; exact blk_new rfl)
        have hbV : Below wr.heap.size wr wV := by rw [hV]; exact (Below.refl _ _).alloc (Nat.le_refl _) _
        have b0 := (hbV.cell (p := ⟨bb, ob + k * 5, none⟩) hbr).trans g0
        have b1 := (hbV.cell (p := ⟨bb, ob + k * 5 + 1, none⟩) hbr).trans g1
        have b2 := (hbV.cell (p := ⟨bb, ob + k * 5 + 2, none⟩) hbr).trans g2
        have b3 := (hbV.cell (p := ⟨bb, ob + k * 5 + 3, none⟩) hbr).trans g3
        have b4 := (hbV.cell (p := ⟨bb, ob + k * 5 + 4, none⟩) hbr).trans g4
        have x0 : wV.cell? ⟨wr.heap.size, 0, none⟩ = some (.int .i64 x.f) := (cell_of_row _ _ _ _ _ _ XV.out).trans rfl
        have x1 : wV.cell? ⟨wr.heap.size, 1, none⟩ = some (.int .i64 x.u) := (cell_of_row _ _ _ _ _ _ XV.out).trans rfl
        have x2 : wV.cell? ⟨wr.heap.size, 2, none⟩ = some (.int .i64 x.h) := (cell_of_row _ _ _ _ _ _ XV.out).trans rfl
        have x3 : wV.cell? ⟨wr.heap.size, 3, none⟩ = some (.int .i64 x.c) := (cell_of_row _ _ _ _ _ _ XV.out).trans rfl
        have x4 : wV.cell? ⟨wr.heap.size, 4, none⟩ = some (.int .i64 x.i) := (cell_of_row _ _ _ _ _ _ XV.out).trans rfl
        have zx : wr.heap.size < wV.heap.size := lt_of_blk XV.out
        have zb : bb < wV.heap.size := by omega
        clear hV hbV XV d0 d1 d2 d3 d4 g0 g1 g2 g3 g4 HB
        have KW := fun w => Lib.hid (within4_any y.u y.h y.c y.i x.u x.h x.c x.i w)
        cases hle : le4 y.u y.h y.c y.i x.u x.h x.c x.i
        all_goals
          simp only [hle] at KW
          have HLE := Lib.hid hle; clear hle
          refine wp_region_noPanic ?_
          refine wp_region_held_drew (S := (fun w' => w'.cell? ⟨bb, ob + k * 5, none⟩ = some (.int .i64 y.f) ∧ w'.cell? ⟨bb, ob + k * 5 + 1, none⟩ = some (.int .i64 y.u) ∧ w'.cell? ⟨bb, ob + k * 5 + 2, none⟩ = some (.int .i64 y.h) ∧ w'.cell? ⟨bb, ob + k * 5 + 3, none⟩ = some (.int .i64 y.c) ∧ w'.cell? ⟨bb, ob + k * 5 + 4, none⟩ = some (.int .i64 y.i) ∧ w'.cell? ⟨wr.heap.size, 0, none⟩ = some (.int .i64 x.f) ∧ w'.cell? ⟨wr.heap.size, 1, none⟩ = some (.int .i64 x.u) ∧ w'.cell? ⟨wr.heap.size, 2, none⟩ = some (.int .i64 x.h) ∧ w'.cell? ⟨wr.heap.size, 3, none⟩ = some (.int .i64 x.c) ∧ w'.cell? ⟨wr.heap.size, 4, none⟩ = some (.int .i64 x.i))) (by kernel_rfl) (⟨b0, b1, b2, b3, b4, x0, x1, x2, x3, x4⟩) (fun hHeld => ?_)
          refine wpAnyH_take (i := 0) (v := ?_) rfl (by kernel_rfl) (by kernel_rfl) (by kernel_rfl) (fun _ _ _ h => h) (Or.inl ⟨by rfl, ?_⟩) (by assumption) ?_
          rotate_left 1
          · (intro wS hSw; (try dsimp only at hSw); go_simp; try with_reducible rfl)
          try simp only [List.getElem_toArray, List.getElem_cons_zero, List.getElem_cons_succ, Act.put, List.setIfInBounds_toArray, List.set_cons_zero, List.set_cons_succ]
          refine wpAnyH_take (i := 1) (v := ?_) rfl (by kernel_rfl) (by kernel_rfl) (by kernel_rfl) (fun _ _ _ h => h) (Or.inl ⟨by rfl, ?_⟩) (by assumption) ?_
          rotate_left 1
          · (intro wS hSw; (try dsimp only at hSw); go_simp; try with_reducible rfl)
          try simp only [List.getElem_toArray, List.getElem_cons_zero, List.getElem_cons_succ, Act.put, List.setIfInBounds_toArray, List.set_cons_zero, List.set_cons_succ]
          refine wpAnyH_take (i := 2) (v := ?_) rfl (by kernel_rfl) (by kernel_rfl) (by kernel_rfl) (fun _ _ _ h => h) (Or.inl ⟨by rfl, ?_⟩) (by assumption) ?_
          rotate_left 1
          · (intro wS hSw; (try dsimp only at hSw); go_simp; try with_reducible rfl)
          try simp only [List.getElem_toArray, List.getElem_cons_zero, List.getElem_cons_succ, Act.put, List.setIfInBounds_toArray, List.set_cons_zero, List.set_cons_succ]
          refine wpAnyH_take (i := 3) (v := ?_) rfl (by kernel_rfl) (by kernel_rfl) (by kernel_rfl) (fun _ _ _ h => h) (Or.inl ⟨by rfl, ?_⟩) (by assumption) ?_
          rotate_left 1
          · (intro wS hSw; (try dsimp only at hSw); go_simp; try with_reducible rfl)
          try simp only [List.getElem_toArray, List.getElem_cons_zero, List.getElem_cons_succ, Act.put, List.setIfInBounds_toArray, List.set_cons_zero, List.set_cons_succ]
          refine wpAnyH_take (i := 5) (v := ?_) rfl (by kernel_rfl) (by kernel_rfl) (by kernel_rfl) (fun _ _ _ h => h) (Or.inl ⟨by rfl, ?_⟩) (by assumption) ?_
          rotate_left 1
          · (intro wS hSw; (try dsimp only at hSw); go_simp; try with_reducible rfl)
          try simp only [List.getElem_toArray, List.getElem_cons_zero, List.getElem_cons_succ, Act.put, List.setIfInBounds_toArray, List.set_cons_zero, List.set_cons_succ]
          refine wpAnyH_ready (rs := [4]) (by kernel_rfl) (by simp) ?_
          refine AllReadyH.cons rfl (fun K hK => ?_) AllReadyH.nil
          go_simp
          refine (numbers_any y _).mono ?_; rintro e w1 ⟨rfl, hw1⟩; have b0a := (hw1.cell (p := ⟨bb, ob + k * 5, none⟩) zb).trans b0; have b1a := (hw1.cell (p := ⟨bb, ob + k * 5 + 1, none⟩) zb).trans b1; have b2a := (hw1.cell (p := ⟨bb, ob + k * 5 + 2, none⟩) zb).trans b2; have b3a := (hw1.cell (p := ⟨bb, ob + k * 5 + 3, none⟩) zb).trans b3; have b4a := (hw1.cell (p := ⟨bb, ob + k * 5 + 4, none⟩) zb).trans b4; have x0a := (hw1.cell (p := ⟨wr.heap.size, 0, none⟩) zx).trans x0; have x1a := (hw1.cell (p := ⟨wr.heap.size, 1, none⟩) zx).trans x1; have x2a := (hw1.cell (p := ⟨wr.heap.size, 2, none⟩) zx).trans x2; have x3a := (hw1.cell (p := ⟨wr.heap.size, 3, none⟩) zx).trans x3; have x4a := (hw1.cell (p := ⟨wr.heap.size, 4, none⟩) zx).trans x4; have Hw1 := Lib.hid (HV.out.drew.trans (hw1.mono (by have := HV.out.drew.size; simpa using this))); have zb1 := Nat.lt_of_lt_of_le zb hw1.size; have zx1 := Nat.lt_of_lt_of_le zx hw1.size; clear hw1
          refine hK.out _ _ (⟨b0a, b1a, b2a, b3a, b4a, x0a, x1a, x2a, x3a, x4a⟩) (fun hHeld => ?_)
          clear hK K
          try simp only [List.getElem_toArray, List.getElem_cons_zero, List.getElem_cons_succ, Act.put, List.setIfInBounds_toArray, List.set_cons_zero, List.set_cons_succ]
          refine wpAnyH_ready (rs := [6]) (by kernel_rfl) (by simp) ?_
          refine AllReadyH.cons rfl (fun K hK => ?_) AllReadyH.nil
          go_simp
          refine (numbers_any x _).mono ?_; rintro e w2 ⟨rfl, hw2⟩; have b0b := (hw2.cell (p := ⟨bb, ob + k * 5, none⟩) zb1).trans b0a; have b1b := (hw2.cell (p := ⟨bb, ob + k * 5 + 1, none⟩) zb1).trans b1a; have b2b := (hw2.cell (p := ⟨bb, ob + k * 5 + 2, none⟩) zb1).trans b2a; have b3b := (hw2.cell (p := ⟨bb, ob + k * 5 + 3, none⟩) zb1).trans b3a; have b4b := (hw2.cell (p := ⟨bb, ob + k * 5 + 4, none⟩) zb1).trans b4a; have x0b := (hw2.cell (p := ⟨wr.heap.size, 0, none⟩) zx1).trans x0a; have x1b := (hw2.cell (p := ⟨wr.heap.size, 1, none⟩) zx1).trans x1a; have x2b := (hw2.cell (p := ⟨wr.heap.size, 2, none⟩) zx1).trans x2a; have x3b := (hw2.cell (p := ⟨wr.heap.size, 3, none⟩) zx1).trans x3a; have x4b := (hw2.cell (p := ⟨wr.heap.size, 4, none⟩) zx1).trans x4a; have Hw2 := Lib.hid (Hw1.out.trans (hw2.mono (by have := Hw1.out.size; simpa using this))); have zb2 := Nat.lt_of_lt_of_le zb1 hw2.size; have zx2 := Nat.lt_of_lt_of_le zx1 hw2.size; clear hw2
          refine hK.out _ _ (⟨b0b, b1b, b2b, b3b, b4b, x0b, x1b, x2b, x3b, x4b⟩) (fun hHeld => ?_)
          clear hK K
          try simp only [List.getElem_toArray, List.getElem_cons_zero, List.getElem_cons_succ, Act.put, List.setIfInBounds_toArray, List.set_cons_zero, List.set_cons_succ]
          refine wpAnyH_ready (rs := [7]) (by kernel_rfl) (by simp) ?_
          refine AllReadyH.cons rfl (fun K hK => ?_) AllReadyH.nil
          go_simp
          refine ((KW _).out).mono ?_; rintro e w3 ⟨rfl, hw3⟩; have b0c := (hw3.cell (p := ⟨bb, ob + k * 5, none⟩) zb2).trans b0b; have b1c := (hw3.cell (p := ⟨bb, ob + k * 5 + 1, none⟩) zb2).trans b1b; have b2c := (hw3.cell (p := ⟨bb, ob + k * 5 + 2, none⟩) zb2).trans b2b; have b3c := (hw3.cell (p := ⟨bb, ob + k * 5 + 3, none⟩) zb2).trans b3b; have b4c := (hw3.cell (p := ⟨bb, ob + k * 5 + 4, none⟩) zb2).trans b4b; have x0c := (hw3.cell (p := ⟨wr.heap.size, 0, none⟩) zx2).trans x0b; have x1c := (hw3.cell (p := ⟨wr.heap.size, 1, none⟩) zx2).trans x1b; have x2c := (hw3.cell (p := ⟨wr.heap.size, 2, none⟩) zx2).trans x2b; have x3c := (hw3.cell (p := ⟨wr.heap.size, 3, none⟩) zx2).trans x3b; have x4c := (hw3.cell (p := ⟨wr.heap.size, 4, none⟩) zx2).trans x4b; have Hw3 := Lib.hid (Hw2.out.trans (hw3.mono (by have := Hw2.out.size; simpa using this))); have zb3 := Nat.lt_of_lt_of_le zb2 hw3.size; have zx3 := Nat.lt_of_lt_of_le zx2 hw3.size; clear hw3
          refine hK.out _ _ (⟨b0c, b1c, b2c, b3c, b4c, x0c, x1c, x2c, x3c, x4c⟩) (fun hHeld => ?_)
          clear hK K
          try simp only [List.getElem_toArray, List.getElem_cons_zero, List.getElem_cons_succ, Act.put, List.setIfInBounds_toArray, List.set_cons_zero, List.set_cons_succ]
          refine wpAnyH_take (i := 8) (v := ?_) rfl (by kernel_rfl) (by kernel_rfl) (by kernel_rfl) (fun _ _ _ h => h) (Or.inl ⟨by rfl, ?_⟩) (by assumption) ?_
          rotate_left 1
          · (intro wS hSw; (try dsimp only at hSw); go_simp; try with_reducible rfl)
          try simp only [List.getElem_toArray, List.getElem_cons_zero, List.getElem_cons_succ, Act.put, List.setIfInBounds_toArray, List.set_cons_zero, List.set_cons_succ]
          refine wpAnyH_done (by kernel_rfl) ?_ _
          refine NoPanic.normal ?_
          go_wp2_with fail
        · go_ret
          have hn : ¬ leAll l b := by
            rw [leAll_iff]
            intro h
            have h2 := h k hlt hltb
            rw [HX.out, HY.out] at h2
            have h3 := HLE.out
            rw [le_le4] at h3
            simp [h2] at h3
          exact ⟨by rw [HA.out, if_neg hn]; rfl, Hw3.out⟩
        · go_roundw
          case rel => exact ⟨k + 1, by omega, by go_num, fun j hj hj' hjk => by
            rcases Nat.lt_or_ge j k with h | h
            · exact HO.out j hj hj' h
            · obtain rfl : j = k := by omega
              rw [HX.out, HY.out]
              have h3 := HLE.out
              rw [le_le4] at h3
              simpa using h3, Hw3.out⟩
          case measure => simp [intOf]; omega
      · go_wp2
        go_ret
        have hall : leAll l b := by
          rw [leAll_iff]
          intro j hj hj'
          exact HO.out j hj hj' (by omega)
        exact ⟨by rw [HA.out, if_pos hall]; rfl, hb⟩
  · have ha : admitE b l = check2 b l := by simp [admitE, hc]
    rw [ha]; clear ha
    generalize check2 b l = c at *
    have h2' : ((c : Int) == 0) = false := by simpa using hc
    have h2'' : ((c : Int) != 0) = true := by simpa using hc
    clear hc
    go_enter Try.func14, Try.ntmps14
    go_wp2_with fail
    refine ((KC _ HU.out HL.out).out).mono ?_; rintro e w1 ⟨rfl, hb⟩
    have hx := Lib.hid (by first | exact HB.out.trans (hb.mono HB.out.size) | exact (HB.out.alloc HB.out.size _).trans (hb.mono (by have := HB.out.size; first | omega | (simp; done) | (simp; omega))) | exact ((HB.out.alloc HB.out.size _).alloc (by have := HB.out.size; first | omega | (simp; done) | (simp; omega)) _).trans (hb.mono (by have := HB.out.size; first | omega | (simp; done) | (simp; omega))) : Below w.heap.size w w1); clear HB hb; have HB := hx; clear hx
    go_wp2_with fail
    go_ret
    exact ⟨rfl, HB.out⟩
theorem within_any (u v : Value) (b l : List Ex) (w : World) (hu : ExRow w (All w) u b) (hl : ExRow w (All w) v l) (nb : b.length ≤ 1000000) (nl : l.length ≤ 1000000) :
    Calls Try.prog 11 #[u, v] w fun e w' => e = .returned (.bool (decide (admitE b l = 0))) ∧ Below w.heap.size w w' := by
  have K := fun w h1 h2 => Lib.hid (admit_any u v b l w h1 h2 nb nl)
  have HB := Lib.hid (Below.refl w.heap.size w)
  have HU := Lib.hid hu; clear hu
  have HL := Lib.hid hl; clear hl
  generalize admitE b l = c at *
  go_enter Try.func11, Try.ntmps11
  go_wp2_with fail
  refine ((K _ HU.out HL.out).out).mono ?_; rintro e w1 ⟨rfl, hb⟩
  have hx := Lib.hid (by first | exact HB.out.trans (hb.mono HB.out.size) | exact (HB.out.alloc HB.out.size _).trans (hb.mono (by have := HB.out.size; first | omega | (simp; done) | (simp; omega))) | exact ((HB.out.alloc HB.out.size _).alloc (by have := HB.out.size; first | omega | (simp; done) | (simp; omega)) _).trans (hb.mono (by have := HB.out.size; first | omega | (simp; done) | (simp; omega))) : Below w.heap.size w w1); clear HB hb; have HB := hx; clear hx
  go_wp2_with fail
  go_ret
  exact ⟨ret_bool (by rw [Bool.eq_iff_iff]; simp), HB.out⟩
end Go.Proofs.Ytohglcbakepejaa
