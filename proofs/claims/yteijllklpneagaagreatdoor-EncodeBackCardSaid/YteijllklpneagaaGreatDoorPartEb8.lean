/- Parts of one proof: EncJ, BackLaw, Handed, HexNum, VarsGive. -/
import Derived.Test.YteijllklpneagaaGreatDoorPartEb7
import Derived.Handed
import Derived.HandedShaped
import Derived.WalkArith
import Derived.MakeChecks
import Derived.LaidLaws
section
/- encode, the program's: Parse of any text. -/
set_option linter.unusedSimpArgs false
set_option linter.unusedVariables false
set_option maxRecDepth 100000
namespace Go.Proofs.YteijllklpneagaaGreatDoor
open Go.RowKit Cal
attribute [local go_sem] toList_mk mk_size str_append
def noEnc : EncL := ⟨0, 0, []⟩
theorem splC_mem (c : UInt8) : ∀ (l p : List UInt8) (t : List UInt8), t ∈ splC c p l → t.length ≤ p.length + l.length
  | [], p, t, h => by simp [splC] at h; subst h; simp
  | x :: r, p, t, h => by
    rw [splC] at h
    split at h
    · rcases List.mem_cons.1 h with rfl | h1
      · simp
      · have := splC_mem c r [] t h1; simp at this; simp; omega
    · have := splC_mem c r (p ++ [x]) t h; simp at this; simp; omega
theorem splC_few (c : UInt8) : ∀ (l p : List UInt8), (splC c p l).length ≤ l.length + 1
  | [], p => by simp [splC]
  | x :: r, p => by
    rw [splC]
    split
    · have := splC_few c r []; simp; omega
    · have := splC_few c r (p ++ [x]); simp; omega
def EncParsed (t : List UInt8) (w : World) (e : Ending) (w' : World) : Prop :=
  ∃ v, e = .returned (.tuple #[v, .int .i64 (errO (parseE t))]) ∧ EncVal w' (fun b => w.heap.size ≤ b) v ((parseE t).getD noEnc) ∧ Below w.heap.size w w'
theorem EncVal.none (w : World) (S : Nat → Prop) : EncVal w S (.agg #[.int .i64 0, .int .i64 0, .slice none 0 0]) noEnc := ⟨_, rfl, BitsVec.nil _ _⟩
/-- the words behind the first two -/
theorem RowB.from2 {w : World} {A : Nat} {L : List (List UInt8)} (h : RowB w A L) (h2 : 2 < L.length) (c : Nat) (hc : L.length - 2 ≤ c) : Vec w Any1 1 encS (.slice (some ⟨A, 2, none⟩) (L.length - 2) c) (L.drop 2) := by
  refine ⟨_, c, by rw [List.length_drop], by rw [List.length_drop]; exact hc, fun h0 => ⟨A, 2, rfl, trivial, lt_of_blk h, fun j x hj i u hu => ?_⟩⟩
  have hi : i = 0 ∧ u = strV x := by
    cases i with
    | zero => exact ⟨rfl, by simpa [encS] using hu.symm⟩
    | succ i => simp [encS] at hu
  obtain ⟨rfl, rfl⟩ := hi
  rw [List.getElem?_drop] at hj
  have hlt : 2 + j < L.length := (List.getElem?_eq_some_iff.1 hj).1
  have := RowB.cell h (2 + j) hlt
  rw [show L.getD (2 + j) [] = x by simp [List.getD, hj]] at this
  rw [Nat.mul_one, Nat.add_zero]; exact this
set_option maxHeartbeats 8000000 in
theorem eparse_any (t : List UInt8) (w : World) (hvr : VarsAt w) (ht : t.length ≤ 100000) : Calls Tryz.prog 19 #[strV t] w (EncParsed t w) := by
  have hsz := fun x hx => splC_mem 32 t [] x hx
  have hfw := splC_few 32 t []
  obtain ⟨R, hR⟩ : ∃ R, parseE t = R := ⟨_, rfl⟩
  obtain ⟨L, hL⟩ : ∃ L, splC 32 [] t = L := ⟨_, rfl⟩
  unfold EncParsed
  rw [hR]
  unfold parseE at hR
  rw [hL] at hR hsz hfw
  have HVr := Lib.hid hvr; have HL := Lib.hid hL; have HSz := Lib.hid hsz; have HR := Lib.hid hR
  clear hvr hL hsz hR
  go_enter Tryz.func19, Tryz.ntmps19
  go_wp2_with fail
  refine wp_calls_world (fun W hW => ?_)
  have hb0 : Below w.heap.size w W := by rw [hW]; exact (Below.refl w.heap.size w).alloc (Nat.le_refl _) _
  have hz0 : W.heap[w.heap.size]? = some (.cells #[.int .i64 0, .int .i64 0, .slice none 0 0] 37 (0, 0)) := by rw [hW]; exact blk_new rfl
  clear hW
  refine (split_any 32 t W (HVr.out.old hb0).m (by omega)).mono ?_
  rw [HL.out]
  rintro e w1 ⟨rfl, hrow, hb⟩
  have hz1 := blk_below hb (lt_of_blk hz0) hz0
  have HB1 := Lib.hid (hb0.trans (hb.mono hb0.size)); have HZ1 := Lib.hid hz1; have HRow := Lib.hid hrow
  have zW := hb0.size; have zh := lt_of_blk hz0
  clear hb hb0 hz0 hz1 hrow
  by_cases h2 : L.length < 2
  · have d2 : decide ((L.length : Int) < 2) = true := by simp; omega
    have hRn := HR.out
    rw [if_pos h2] at hRn
    subst hRn
    obtain ⟨z0, z1, z2⟩ := cells3 HZ1.out
    have f0 := frozen_of_row _ _ 0 _ _ HZ1.out; have f1 := frozen_of_row _ _ 1 _ _ HZ1.out; have f2 := frozen_of_row _ _ 2 _ _ HZ1.out
    have lz := lt_of_blk HZ1.out
    clear h2
    go_wp2_with fail
    refine bodyPost_row2 rfl rfl (blk_set (i := 2) (v := .slice none 0 0) (blk_set (i := 1) (v := .int .i64 0) (blk_set (i := 0) (v := .int .i64 0) HZ1.out))) Tryz.underlying37 rfl (by kernel_rfl)
      ⟨_, rfl, EncVal.none _ _, ((HB1.out.setCell (p := ⟨w.heap.size, 0, none⟩) (Nat.le_refl _) _).setCell (p := ⟨w.heap.size, 1, none⟩) (Nat.le_refl _) _).setCell (p := ⟨w.heap.size, 2, none⟩) (Nat.le_refl _) _⟩
  · have d2 : decide ((L.length : Int) < 2) = false := by simp; omega
    have hRn := HR.out
    rw [if_neg h2] at hRn
    have HR2 := Lib.hid hRn
    have c0 := RowB.cell HRow.out 0 (by omega)
    have c1 := RowB.cell HRow.out 1 (by omega)
    obtain ⟨x, hx⟩ : ∃ x, L.getD 0 [] = x := ⟨_, rfl⟩
    obtain ⟨y, hy⟩ : ∃ y, L.getD 1 [] = y := ⟨_, rfl⟩
    have hxl : x.length ≤ 1000000000 := by have := HSz.out (L.getD 0 []) (by rw [getD_at _ _ (show 0 < L.length by omega)]; exact List.getElem_mem _); rw [hx] at this; simp at this; omega
    have hyl : y.length ≤ 1000000000 := by have := HSz.out (L.getD 1 []) (by rw [getD_at _ _ (show 1 < L.length by omega)]; exact List.getElem_mem _); rw [hy] at this; simp at this; omega
    rw [hx, hy] at HR2
    rw [hx] at c0; rw [hy] at c1
    have i0 : (0 : Int) < (L.length : Int) := by omega
    have i1 : (1 : Int) < (L.length : Int) := by omega
    have i2 : (2 : Int) ≤ (L.length : Int) := by omega
    have hv1 := HVr.out.old HB1.out
    have lrow := lt_of_blk HRow.out
    clear hRn hx hy HR
    go_wp2_with fail
    refine (atoi_any x hxl _ hv1).mono ?_
    rintro e w2 ⟨⟨e2, rfl⟩, hb2⟩
    have c1' := (hb2.cell (p := ⟨W.heap.size, 1, none⟩) lrow).trans c1
    have hz2 := blk_below hb2 (lt_of_blk HZ1.out) HZ1.out
    have HRow2 := Lib.hid (show RowB w2 W.heap.size L from blk_below hb2 lrow HRow.out)
    have HB2 := Lib.hid (HB1.out.trans (hb2.mono HB1.out.size)); have HZ2 := Lib.hid hz2
    have hv2 := HVr.out.old HB2.out
    have lrow2 := lt_of_blk HRow2.out
    clear hb2 hz2 hv1 c0 c1 HZ1 HRow
    go_wp2_with fail
    refine (atoi_any y hyl _ hv2).mono ?_
    rintro e w3 ⟨⟨e3, rfl⟩, hb3⟩
    have hz3 := blk_below hb3 (lt_of_blk HZ2.out) HZ2.out
    have HRow3 := Lib.hid (show RowB w3 W.heap.size L from blk_below hb3 lrow2 HRow2.out)
    have HB3 := Lib.hid (HB2.out.trans (hb3.mono HB2.out.size)); have HZ3 := Lib.hid hz3
    clear hb3 hz3 hv2 c1' HZ2 HRow2
    have hv3 := HVr.out.old HB3.out
    have HV3 := Lib.hid hv3
    have hdl : ∀ u ∈ L.drop 2, u.length ≤ 1000000000 := fun u hu => by have := HSz.out u (List.mem_of_mem_drop hu); simp at this; omega
    have hdn : (L.drop 2).length ≤ 1000000 := by rw [List.length_drop]; omega
    obtain ⟨P, hP⟩ : ∃ P, readAll (L.drop 2) = P := ⟨_, rfl⟩
    have hR2 := HR2.out
    rw [hP] at hR2
    have hPin := fun fs h => (readAll_in (L.drop 2) fs (hP.trans h))
    have hPl : (P.getD []).length ≤ 1000000 ∧ ∀ b ∈ P.getD [], HexIn b := by
      cases hPP : P with
      | none => exact ⟨by decide, fun b hb => by cases hb⟩
      | some fs =>
        obtain ⟨h1, h2⟩ := hPin fs hPP
        exact ⟨by show fs.length ≤ _; rw [h1]; exact hdn, h2⟩
    obtain ⟨M, hM⟩ : ∃ M, P.getD [] = M := ⟨_, rfl⟩
    rw [hM] at hPl
    have hfin : (errO P = 14 ∧ R = none) ∨ (errO P = 0 ∧ R = parsedE t ⟨atoiV x, atoiV y, M⟩) := by
      cases hPP : P with
      | none => rw [hPP] at hR2; exact .inl ⟨rfl, hR2.symm⟩
      | some fs => rw [hPP] at hR2 hM; obtain rfl : fs = M := hM; exact .inr ⟨rfl, hR2.symm⟩
    have HFin := Lib.hid hfin; have HPl := Lib.hid hPl; have HM := Lib.hid hM; have HPP := Lib.hid hP
    have heach := fun v h => eeach_any Any1 v (L.drop 2) w3 h hdl hdn
    unfold EachEPost at heach
    rw [hP, hM] at heach
    have HE := Lib.hid heach
    clear hv3 hR2 HR2 hPin hPl hM hfin hP heach hdl hdn
    have hcase : L.length = 2 ∨ 2 < L.length := by omega
    obtain ⟨Z, hZ⟩ : ∃ Z : EncL, (⟨atoiV x, atoiV y, M⟩ : EncL) = Z := ⟨_, rfl⟩
    rcases hcase with hl2 | hl2
    · have hvec : Vec w3 Any1 1 encS (.slice (some ⟨W.heap.size, 0, none⟩) 0 0) (L.drop 2) := by
        rw [List.drop_eq_nil_of_le (by omega)]
        exact ⟨_, 0, rfl, by simp, by simp⟩
      have HVec := Lib.hid hvec
      clear hvec
      go_wp2_with fail
      refine (HE.out _ HVec.out).mono ?_
      rintro e w4 ⟨_, rfl, hbv, hb⟩
      obtain ⟨av, cv, rfl⟩ := hbv.slice
      have hz4 := blk_below hb (lt_of_blk HZ3.out) HZ3.out
      have HB4 := Lib.hid (HB3.out.trans (hb.mono HB3.out.size)); have HZ4 := Lib.hid hz4
      have HBV := Lib.hid (hbv.move (w' := w4) (T := fun b => w.heap.size < b) (Nat.le_refl _) fun b _ hs => ⟨rfl, by have hs' : w3.heap.size ≤ b := hs; have h1 := HB3.out.size; have h2 := lt_of_blk HZ3.out; show w.heap.size < b; omega⟩)
      have HV4 := Lib.hid (HV3.out.old hb)
      clear hb hbv hz4 hl2 HVec HRow3
      go_wp2_with fail
      refine wp_calls_world (fun W5 hW5 => ?_)
      have hb5 : Below w4.heap.size w4 W5 := by rw [hW5]; exact (Below.refl w4.heap.size w4).alloc (Nat.le_refl _) _
      have hx5 : W5.heap[w4.heap.size]? = some (.cells #[.int .i64 (atoiV x), .int .i64 (atoiV y), .slice av M.length cv] 37 (0, 0)) := by rw [hW5]; exact blk_new rfl
      clear hW5
      have hln := eline_any Any1 (.agg #[.int .i64 (atoiV x), .int .i64 (atoiV y), .slice av M.length cv]) Z W5 (by rw [← hZ]; exact ⟨_, rfl, (HBV.out.below hb5).move (T := Any1) (Nat.le_refl _) fun b hb _ => ⟨rfl, trivial⟩⟩) (HV4.out.old hb5) (by rw [← hZ]; exact HPl.out.2) (by rw [← hZ]; exact HPl.out.1)
      refine hln.mono ?_
      rintro e w6 ⟨rfl, hb⟩
      have hx6 := blk_below hb (lt_of_blk hx5) hx5
      have hz6 := blk_below hb (lt_of_blk (blk_below hb5 (lt_of_blk HZ4.out) HZ4.out)) (blk_below hb5 (lt_of_blk HZ4.out) HZ4.out)
      have HB6 := Lib.hid ((HB4.out.trans (hb5.mono HB4.out.size)).trans (hb.mono (Nat.le_trans HB4.out.size hb5.size)))
      have HBV6 := Lib.hid ((HBV.out.below hb5).below hb)
      have HX6 := Lib.hid hx6; have HZ6 := Lib.hid hz6; have HZZ := Lib.hid hZ
      obtain ⟨x0, x1, x2⟩ := cells3 hx6
      obtain ⟨z0, z1, z2⟩ := cells3 hz6
      have f0 := frozen_of_row _ _ 0 _ _ hz6; have f1 := frozen_of_row _ _ 1 _ _ hz6; have f2 := frozen_of_row _ _ 2 _ _ hz6
      have lz := lt_of_blk hz6; have lx := lt_of_blk hx6
      have hbad : ∀ ER, ER = (14 : Int) → R = none → (fun e w' => ∃ v, e = Ending.returned (.tuple #[v, .int .i64 (errO R)]) ∧ EncVal w' (fun b => w.heap.size ≤ b) v (R.getD noEnc) ∧ Below w.heap.size w w') (.returned (.tuple #[.agg #[.int .i64 0, .int .i64 0, .slice none 0 0], .int .i64 ER])) (((w6.setCell ⟨w.heap.size, 0, none⟩ (.int .i64 0)).setCell ⟨w.heap.size, 1, none⟩ (.int .i64 0)).setCell ⟨w.heap.size, 2, none⟩ (.slice none 0 0)) := fun ER h h' => by
        subst h h'
        exact ⟨_, rfl, EncVal.none _ _, ((HB6.out.setCell (p := ⟨w.heap.size, 0, none⟩) (Nat.le_refl _) _).setCell (p := ⟨w.heap.size, 1, none⟩) (Nat.le_refl _) _).setCell (p := ⟨w.heap.size, 2, none⟩) (Nat.le_refl _) _⟩
      have HBad := Lib.hid hbad
      clear hb hb5 hx5 hx6 hz6 hln hbad HBV hZ
      rcases HFin.out with ⟨h14, hRn⟩ | ⟨h00, hRn⟩
      · rw [h14]
        have d14 : ((14 : Int) != 0) = true := rfl
        have HRn := Lib.hid hRn
        clear h14 hRn HFin HE
        go_wp2_with fail
        exact bodyPost_row2 rfl rfl (blk_set (i := 2) (v := .slice none 0 0) (blk_set (i := 1) (v := .int .i64 0) (blk_set (i := 0) (v := .int .i64 0) HZ6.out))) Tryz.underlying37 rfl (by kernel_rfl) (HBad.out _ rfl HRn.out)
      · rw [h00]
        rw [HZZ.out] at hRn
        have d00 : ((0 : Int) != 0) = false := rfl
        unfold lineV lineErr
        unfold parsedE at hRn
        cases hev : evalidB Z
        · rw [if_neg (by rw [hev]; simp)] at hRn
          have HRn := Lib.hid hRn
          have d7 : ((7 : Int) != 0) = true := rfl
          have hif1 : (if (false = true) then lineE Z else []) = ([] : List UInt8) := rfl
          have hif2 : (if (false = true) then (0 : Int) else 7) = 7 := rfl
          rw [hif1, hif2]
          clear h00 hRn HFin HE hev hif1 hif2
          go_wp2_with fail
          exact bodyPost_row2 rfl rfl (blk_set (i := 2) (v := .slice none 0 0) (blk_set (i := 1) (v := .int .i64 0) (blk_set (i := 0) (v := .int .i64 0) HZ6.out))) Tryz.underlying37 rfl (by kernel_rfl) (HBad.out _ rfl HRn.out)
        · have hif1 : (if (true = true) then lineE Z else []) = lineE Z := rfl
          have hif2 : (if (true = true) then (0 : Int) else 7) = 0 := rfl
          rw [hif1, hif2]
          obtain ⟨lz_, hlz⟩ : ∃ l, lineE Z = l := ⟨_, rfl⟩
          rw [hlz] at hRn ⊢
          by_cases hlt : lz_ = t
          · have dl : (lz_ == t) = true := by simpa using hlt
            rw [if_pos ⟨hev, hlt⟩] at hRn
            have HRn := Lib.hid hRn
            subst hlt
            clear h00 hRn HFin HE hev hif1 hif2 hlz
            go_wp2_with fail
            refine bodyPost_row2 rfl rfl (blk_set (i := 2) (v := .slice av M.length cv) (blk_set (i := 1) (v := .int .i64 (atoiV y)) (blk_set (i := 0) (v := .int .i64 (atoiV x)) HZ6.out))) Tryz.underlying37 rfl (by kernel_rfl) ?_
            rw [HRn.out, ← HZZ.out]
            refine ⟨_, rfl, ⟨_, rfl, ?_⟩, ((HB6.out.setCell (p := ⟨w.heap.size, 0, none⟩) (Nat.le_refl _) _).setCell (p := ⟨w.heap.size, 1, none⟩) (Nat.le_refl _) _).setCell (p := ⟨w.heap.size, 2, none⟩) (Nat.le_refl _) _⟩
            refine HBV6.out.move (by simp [World.setCell]) fun b hb hs => ?_
            have hs' : w.heap.size < b := hs
            exact ⟨((heap_setCell_other _ _ _ _ (by show b ≠ w.heap.size; omega)).trans (heap_setCell_other _ _ _ _ (by show b ≠ w.heap.size; omega))).trans (heap_setCell_other _ _ _ _ (by show b ≠ w.heap.size; omega)), by show w.heap.size ≤ b; omega⟩
          · have dl : (lz_ == t) = false := by simpa using hlt
            rw [if_neg (fun h => hlt h.2)] at hRn
            have HRn := Lib.hid hRn
            clear h00 hRn HFin HE hev hif1 hif2 hlz hlt
            go_wp2_with fail
            exact bodyPost_row2 rfl rfl (blk_set (i := 2) (v := .slice none 0 0) (blk_set (i := 1) (v := .int .i64 0) (blk_set (i := 0) (v := .int .i64 0) HZ6.out))) Tryz.underlying37 rfl (by kernel_rfl) (HBad.out _ rfl HRn.out)
    · have hvec : Vec w3 Any1 1 encS (.slice (some ⟨W.heap.size, 2, none⟩) (L.length - 2) (L.length - 2)) (L.drop 2) := HRow3.out.from2 hl2 _ (Nat.le_refl _)
      have HVec := Lib.hid hvec
      clear hvec
      go_wp2_with fail
      refine (HE.out _ HVec.out).mono ?_
      rintro e w4 ⟨_, rfl, hbv, hb⟩
      obtain ⟨av, cv, rfl⟩ := hbv.slice
      have hz4 := blk_below hb (lt_of_blk HZ3.out) HZ3.out
      have HB4 := Lib.hid (HB3.out.trans (hb.mono HB3.out.size)); have HZ4 := Lib.hid hz4
      have HBV := Lib.hid (hbv.move (w' := w4) (T := fun b => w.heap.size < b) (Nat.le_refl _) fun b _ hs => ⟨rfl, by have hs' : w3.heap.size ≤ b := hs; have h1 := HB3.out.size; have h2 := lt_of_blk HZ3.out; show w.heap.size < b; omega⟩)
      have HV4 := Lib.hid (HV3.out.old hb)
      clear hb hbv hz4 hl2 HVec HRow3
      go_wp2_with fail
      refine wp_calls_world (fun W5 hW5 => ?_)
      have hb5 : Below w4.heap.size w4 W5 := by rw [hW5]; exact (Below.refl w4.heap.size w4).alloc (Nat.le_refl _) _
      have hx5 : W5.heap[w4.heap.size]? = some (.cells #[.int .i64 (atoiV x), .int .i64 (atoiV y), .slice av M.length cv] 37 (0, 0)) := by rw [hW5]; exact blk_new rfl
      clear hW5
      have hln := eline_any Any1 (.agg #[.int .i64 (atoiV x), .int .i64 (atoiV y), .slice av M.length cv]) Z W5 (by rw [← hZ]; exact ⟨_, rfl, (HBV.out.below hb5).move (T := Any1) (Nat.le_refl _) fun b hb _ => ⟨rfl, trivial⟩⟩) (HV4.out.old hb5) (by rw [← hZ]; exact HPl.out.2) (by rw [← hZ]; exact HPl.out.1)
      refine hln.mono ?_
      rintro e w6 ⟨rfl, hb⟩
      have hx6 := blk_below hb (lt_of_blk hx5) hx5
      have hz6 := blk_below hb (lt_of_blk (blk_below hb5 (lt_of_blk HZ4.out) HZ4.out)) (blk_below hb5 (lt_of_blk HZ4.out) HZ4.out)
      have HB6 := Lib.hid ((HB4.out.trans (hb5.mono HB4.out.size)).trans (hb.mono (Nat.le_trans HB4.out.size hb5.size)))
      have HBV6 := Lib.hid ((HBV.out.below hb5).below hb)
      have HX6 := Lib.hid hx6; have HZ6 := Lib.hid hz6; have HZZ := Lib.hid hZ
      obtain ⟨x0, x1, x2⟩ := cells3 hx6
      obtain ⟨z0, z1, z2⟩ := cells3 hz6
      have f0 := frozen_of_row _ _ 0 _ _ hz6; have f1 := frozen_of_row _ _ 1 _ _ hz6; have f2 := frozen_of_row _ _ 2 _ _ hz6
      have lz := lt_of_blk hz6; have lx := lt_of_blk hx6
      have hbad : ∀ ER, ER = (14 : Int) → R = none → (fun e w' => ∃ v, e = Ending.returned (.tuple #[v, .int .i64 (errO R)]) ∧ EncVal w' (fun b => w.heap.size ≤ b) v (R.getD noEnc) ∧ Below w.heap.size w w') (.returned (.tuple #[.agg #[.int .i64 0, .int .i64 0, .slice none 0 0], .int .i64 ER])) (((w6.setCell ⟨w.heap.size, 0, none⟩ (.int .i64 0)).setCell ⟨w.heap.size, 1, none⟩ (.int .i64 0)).setCell ⟨w.heap.size, 2, none⟩ (.slice none 0 0)) := fun ER h h' => by
        subst h h'
        exact ⟨_, rfl, EncVal.none _ _, ((HB6.out.setCell (p := ⟨w.heap.size, 0, none⟩) (Nat.le_refl _) _).setCell (p := ⟨w.heap.size, 1, none⟩) (Nat.le_refl _) _).setCell (p := ⟨w.heap.size, 2, none⟩) (Nat.le_refl _) _⟩
      have HBad := Lib.hid hbad
      clear hb hb5 hx5 hx6 hz6 hln hbad HBV hZ
      rcases HFin.out with ⟨h14, hRn⟩ | ⟨h00, hRn⟩
      · rw [h14]
        have d14 : ((14 : Int) != 0) = true := rfl
        have HRn := Lib.hid hRn
        clear h14 hRn HFin HE
        go_wp2_with fail
        exact bodyPost_row2 rfl rfl (blk_set (i := 2) (v := .slice none 0 0) (blk_set (i := 1) (v := .int .i64 0) (blk_set (i := 0) (v := .int .i64 0) HZ6.out))) Tryz.underlying37 rfl (by kernel_rfl) (HBad.out _ rfl HRn.out)
      · rw [h00]
        rw [HZZ.out] at hRn
        have d00 : ((0 : Int) != 0) = false := rfl
        unfold lineV lineErr
        unfold parsedE at hRn
        cases hev : evalidB Z
        · rw [if_neg (by rw [hev]; simp)] at hRn
          have HRn := Lib.hid hRn
          have d7 : ((7 : Int) != 0) = true := rfl
          have hif1 : (if (false = true) then lineE Z else []) = ([] : List UInt8) := rfl
          have hif2 : (if (false = true) then (0 : Int) else 7) = 7 := rfl
          rw [hif1, hif2]
          clear h00 hRn HFin HE hev hif1 hif2
          go_wp2_with fail
          exact bodyPost_row2 rfl rfl (blk_set (i := 2) (v := .slice none 0 0) (blk_set (i := 1) (v := .int .i64 0) (blk_set (i := 0) (v := .int .i64 0) HZ6.out))) Tryz.underlying37 rfl (by kernel_rfl) (HBad.out _ rfl HRn.out)
        · have hif1 : (if (true = true) then lineE Z else []) = lineE Z := rfl
          have hif2 : (if (true = true) then (0 : Int) else 7) = 0 := rfl
          rw [hif1, hif2]
          obtain ⟨lz_, hlz⟩ : ∃ l, lineE Z = l := ⟨_, rfl⟩
          rw [hlz] at hRn ⊢
          by_cases hlt : lz_ = t
          · have dl : (lz_ == t) = true := by simpa using hlt
            rw [if_pos ⟨hev, hlt⟩] at hRn
            have HRn := Lib.hid hRn
            subst hlt
            clear h00 hRn HFin HE hev hif1 hif2 hlz
            go_wp2_with fail
            refine bodyPost_row2 rfl rfl (blk_set (i := 2) (v := .slice av M.length cv) (blk_set (i := 1) (v := .int .i64 (atoiV y)) (blk_set (i := 0) (v := .int .i64 (atoiV x)) HZ6.out))) Tryz.underlying37 rfl (by kernel_rfl) ?_
            rw [HRn.out, ← HZZ.out]
            refine ⟨_, rfl, ⟨_, rfl, ?_⟩, ((HB6.out.setCell (p := ⟨w.heap.size, 0, none⟩) (Nat.le_refl _) _).setCell (p := ⟨w.heap.size, 1, none⟩) (Nat.le_refl _) _).setCell (p := ⟨w.heap.size, 2, none⟩) (Nat.le_refl _) _⟩
            refine HBV6.out.move (by simp [World.setCell]) fun b hb hs => ?_
            have hs' : w.heap.size < b := hs
            exact ⟨((heap_setCell_other _ _ _ _ (by show b ≠ w.heap.size; omega)).trans (heap_setCell_other _ _ _ _ (by show b ≠ w.heap.size; omega))).trans (heap_setCell_other _ _ _ _ (by show b ≠ w.heap.size; omega)), by show w.heap.size ≤ b; omega⟩
          · have dl : (lz_ == t) = false := by simpa using hlt
            rw [if_neg (fun h => hlt h.2)] at hRn
            have HRn := Lib.hid hRn
            clear h00 hRn HFin HE hev hif1 hif2 hlz hlt
            go_wp2_with fail
            exact bodyPost_row2 rfl rfl (blk_set (i := 2) (v := .slice none 0 0) (blk_set (i := 1) (v := .int .i64 0) (blk_set (i := 0) (v := .int .i64 0) HZ6.out))) Tryz.underlying37 rfl (by kernel_rfl) (HBad.out _ rfl HRn.out)
end Go.Proofs.YteijllklpneagaaGreatDoor
end
section
/- Plain: what is encoded is valid, and its arrays are such as can be read again. -/
set_option linter.unusedSimpArgs false
set_option linter.unusedVariables false
namespace Go.Proofs.YteijllklpneagaaGreatDoor
def WsOk (ws : List Int) : Prop := ∀ x ∈ ws, 0 ≤ x ∧ x < 18446744073709551616
theorem orBit_ok {ws : List Int} (h : WsOk ws) (i : Int) : WsOk (orBit ws i) := by
  intro x hx
  unfold orBit at hx
  rcases List.mem_or_eq_of_mem_set hx with h1 | h1
  · exact h x h1
  · rw [h1]; exact bits_range _ _ _
theorem orBits_ok (l : List Int) : ∀ ws : List Int, WsOk ws → WsOk (l.foldl orBit ws) := by
  induction l with
  | nil => intro ws h; exact h
  | cons x l ih => intro ws h; rw [List.foldl_cons]; exact ih _ (orBit_ok h x)
theorem orGrams_ok (p : ParL) (k : Int × Int) (G : List (List UInt8)) : ∀ ws : List Int, WsOk ws → WsOk (G.foldl (orGram p k) ws) := by
  induction G with
  | nil => intro ws h; exact h
  | cons x l ih => intro ws h; rw [List.foldl_cons]; exact ih _ (orBits_ok _ _ h)
theorem zeroW_ok (n : Int) : WsOk (zeroW n) := by
  intro x hx
  unfold zeroW at hx
  rw [List.eq_of_mem_replicate hx]; decide
theorem fieldN_in {s : SchemaL} {p : ParL} {k : Int × Int} {A : List (List UInt8)} {i : Nat} (hp : ParOk p) (hn : normalB s i (A.getD i []) = true) (hf : (findN s i).2 = 0) : BitsIn (fieldN s p k A i) := by
  unfold fieldN
  split
  · exact .inl rfl
  · refine .inr ?_
    have h80 := (grams_fit hn hf).2.1
    unfold bloomN
    rw [if_pos hp.bloom, if_pos h80]
    refine ⟨?_, orGrams_ok p _ _ _ (zeroW_ok _)⟩
    unfold validB
    dsimp only
    rw [hp.right, Bool.true_and, beq_iff_eq, orGrams_len]
    unfold zeroW
    rw [List.length_replicate]
    have := hp.len1
    omega
theorem fieldsN_in {s : SchemaL} {P : List ParL} {k : Int × Int} {r : RecL} (h : RecIn s P r) : ∀ b ∈ fieldsN s P k r.vals P.length, BitsIn b := by
  intro b hb
  unfold fieldsN at hb
  obtain ⟨i, hi, rfl⟩ := List.mem_map.1 hb
  rw [List.mem_range] at hi
  obtain ⟨h0, _, hl, hno⟩ := checkN_ok h.rec_
  have hil : i < r.vals.length := by rw [hl, ← h.len]; exact hi
  have hn := normA_get s r.vals 0 hno i hil
  rw [Nat.zero_add] at hn
  exact fieldN_in (h.pars.1 i hi) hn (by rw [findN_in h0 (by rw [← h.len]; exact hi)])
theorem bitsIn_bad {b : BitsL} (h : BitsIn b) : badB b = false := by
  rcases h with rfl | ⟨h1, _⟩
  · decide
  · unfold badB; rw [h1]; simp
theorem bitsIn_hex {b : BitsL} (h : BitsIn b) : HexIn b := by
  rcases h with rfl | ⟨h1, h2⟩
  · exact ⟨⟨by decide, by decide⟩, fun h => by rw [noBits_bad] at h; cases h⟩
  · exact ⟨valid_in h1, fun _ => h2⟩
theorem enc_valid {s : SchemaL} {P : List ParL} {k : Int × Int} {r : RecL} (h : RecIn s P r) (h1 : 1 ≤ P.length) (h5 : P.length ≤ 5) : evalidB (encN s P k r) = true := by
  obtain ⟨_, hnum, _, _⟩ := checkN_ok h.rec_
  unfold numberedB at hnum
  simp only [Bool.and_eq_true, decide_eq_true_eq] at hnum
  have hl : (fieldsN s P k r.vals P.length).length = P.length := fieldsN_len _ _ _ _ _
  have hb : (fieldsN s P k r.vals P.length).any badB = false := by
    rw [List.any_eq_false]
    intro b hb
    rw [bitsIn_bad (fieldsN_in h b hb)]; simp
  unfold evalidB encN
  dsimp only
  rw [hb, hl]
  simp
  omega
end Go.Proofs.YteijllklpneagaaGreatDoor
end
section
/- The wrap of a row with listed variables, the world's shape handed on to the contract. -/
namespace Go.Proofs.YteijllklpneagaaGreatDoor
open Go
theorem handed_shaped {H : Type} {enc : TypeId × Value → H} {a : Assume} {C : Checked} {os : Os} {f : FuncId} {fn : Func} {s : ChangeSpec} {conds : List PathCond} {apart fresh handsOn again : Bool} {X : World → Array Value → Prop}
    (hX : ∀ (w w' : World) (args : Array Value), w.heap = w'.heap → X w args → X w' args)
    (own : ownKnob C.prog.godebug = none) (started : os.Started) (noInit : C.prog.inits.idxOf? f = none) (hfn : C.prog.funcs[f]? = some fn)
    (witness : ∃ (w : World) (tape : Tape) (i : Input), w.os = os ∧ (w.forCall tape i).Shaped C.prog ∧ i.vars = [] ∧ Input.okWide C.prog (w.forCall tape i) .any w.heap.size f i ∧
      ((s.pre enc C.prog fn conds apart (w.forCall tape i).memory i.args ∧ X (w.forCall tape i).memory i.args) ∧ sizedMet enc C.prog fn (OpenSpec.ofChange s) apart (w.forCall tape i).memory i.args) ∧ a.holds C.prog (lone (Frame.enter C.prog f i.args .normal) [] (w.forCall tape i)))
    (contract : ∀ (W : World) (base : Nat) (args : Array Value) (ds gs : List (DataW H)) (before : List MemPlace),
      (∀ (j : Nat) t v, fn.params[j]? = some t → args[j]? = some v → Value.okWide C.prog W .any base t v) →
      DataW.Whole enc C.prog fn.params.toList s.vars apart W args.toList ds gs before →
      X W args → W.ShapedOpen C.prog →
      Calls C.prog f args W fun e W' => ∃ v, e = .returned v ∧ s.post enc C.prog fn apart fresh handsOn again W args v W') :
    ReturnsInHanded a C os f .any (fun w args => (s.pre enc C.prog fn conds apart w args ∧ X w args) ∧ sizedMet enc C.prog fn (OpenSpec.ofChange s) apart w args) (s.post enc C.prog fn apart fresh handsOn again) := by
  refine returnsInHanded_of_calls own started noInit witness ?_
  intro w tape i _ hsh _ hok hpre hholds
  obtain ⟨_, _, _, fn', hfn', _, _, _, _, hval⟩ := hok
  obtain rfl : fn' = fn := Option.some.inj (hfn'.symm.trans hfn)
  obtain ⟨⟨⟨ds, gs, before, hw, hc⟩, hx⟩, hz⟩ := hpre
  refine (contract (w.forCall tape i) w.heap.size i.args ds gs before hval (DataW.Whole.of_heap (w' := w.forCall tape i) (by rfl) hw) (hX _ _ _ (by rfl) hx) hsh).mono fun e W' ⟨v, he, hp⟩ => ?_
  subst he
  exact ChangeSpec.post_blind hp
end Go.Proofs.YteijllklpneagaaGreatDoor
end
section
/- strconv.FormatUint to the base 16. -/
set_option linter.unusedSimpArgs false
set_option linter.unusedVariables false
set_option maxRecDepth 100000
namespace Go.Proofs.YteijllklpneagaaGreatDoor
open Go.RowKit
attribute [local go_sem] toList_mk mk_size
/-- the library's variable math/bits.deBruijn64tab, as far as it is read -/
def DbAt (w : World) : Prop := w.cell? ⟨7, 15, none⟩ = some (.int .u8 4)
theorem DbAt.old {w w' : World} (h : DbAt w) (hb : Below w.heap.size w w') : DbAt w' :=
  (hb.cell (p := ⟨7, 15, none⟩) (World.block_lt_of_cell? _ ⟨_, 15, none⟩ h)).trans h
theorem hexN_front (m : Nat) : ∀ x, hexN (m + 1) x = digH (x / 16 ^ m % 16) :: hexN m x := by
  induction m with
  | zero => intro x; simp [hexN]
  | succ m ih =>
    intro x
    rw [hexN, ih (x / 16), Nat.div_div_eq_div_mul, ← Nat.pow_succ']
    rw [hexN]; rfl
/-- the last m cells hold the last m digits -/
def DigAt (w : World) (B : Nat) (x m : Nat) : Prop := ∃ cs : Array Value, w.heap[B]? = some (.cells cs 252 (0, 0)) ∧ cs.size = 65 ∧ ∀ i, i < m → cs[65 - m + i]? = ((hexN m x)[i]?).map byteV
theorem DigAt.set {w : World} {B x m : Nat} (h : DigAt w B x m) (hm : m < 65) {d : Nat} (hd : x / 16 ^ m % 16 = d) : DigAt (w.setCell ⟨B, 64 - m, none⟩ (byteV (digH d))) B x (m + 1) := by
  obtain ⟨cs, h1, h2, h3⟩ := h
  refine ⟨_, blk_set h1, by simp [h2], fun i hi => ?_⟩
  rw [hexN_front, hd, Array.getElem?_setIfInBounds]
  cases i with
  | zero =>
    rw [if_pos (by omega), if_pos (by omega)]; rfl
  | succ i =>
    rw [if_neg (by omega), List.getElem?_cons_succ, ← h3 i (by omega)]
    congr 1; omega
end Go.Proofs.YteijllklpneagaaGreatDoor
end
section
/- What the listed variables of the library hold, out of a row's condition and the world's shape. -/
set_option linter.unusedSimpArgs false
set_option linter.unusedVariables false
set_option maxRecDepth 100000
namespace Go.Proofs.YteijllklpneagaaGreatDoor
open Go Go.RowKit
theorem laid_at {P : Program} {w : World} : ∀ {l : List (String × DataW Unit)} {ps : List MemPlace}, DataW.LaidVars P w l ps → ∀ (i : Nat) (n : String) (d : DataW Unit), l[i]? = some (n, d) → ∃ g t cs fuel p, P.globalNamed n = some g ∧ (P.globals[g]?).map (·.type) = some t ∧ w.var? P n = some cs ∧ DataW.trod (fun _ => ()) P w 0 (fun _ => true) false fuel t cs.toList = some (d, p)
  | [], ps, h, i, n, d, hi => by simp at hi
  | (m, e) :: r, ps, h, 0, n, d, hi => by
    obtain ⟨g, t, cs, fuel, p, q, h1, h2, h3, h4, _, _⟩ := h
    simp at hi
    obtain ⟨rfl, rfl⟩ := hi
    exact ⟨g, t, cs, fuel, p, h1, h2, h3, h4⟩
  | (m, e) :: r, ps, h, i + 1, n, d, hi => by
    obtain ⟨g, t, cs, fuel, p, q, _, _, _, _, h5, _⟩ := h
    exact laid_at h5 i n d (by simpa using hi)
theorem tab_give {P : Program} {w : World} {l : List (String × DataW Unit)} {ps : List MemPlace} (h : DataW.LaidVars P w l ps) {i : Nat} {name : String} {k : IntKind} {zs : List Int} (hi : l[i]? = some (name, Lib.tabData k zs)) {g : Nat} {t e : TypeId} {n : Nat}
    (hg : P.globalNamed name = some g) (hty : (P.globals[g]?).map (·.type) = some t) (ht : P.underlying t = some (.array n e)) (he : P.underlying e = some (.int k)) (hce : P.cellsOf e = 1) (hct : P.cellsOf t = n) : Lib.TabIs P w name k zs := by
  obtain ⟨g', t', cs, fuel, p, hg', ht', hvar, hd⟩ := laid_at h i _ _ hi
  obtain rfl := Option.some.inj (hg.symm.trans hg')
  obtain rfl := Option.some.inj (hty.symm.trans ht')
  unfold Lib.TabIs
  rw [hvar, ← Lib.cells_of_tab ht he hce hct hd]
theorem iface_give {P : Program} {w : World} {l : List (String × DataW Unit)} {ps : List MemPlace} (h : DataW.LaidVars P w l ps) {i : Nat} {name nm : String} {d : DataW Unit} (hi : l[i]? = some (name, .iface nm d)) {g : Nat} {t : TypeId} {ms : Array (String × TypeId)}
    (hg : P.globalNamed name = some g) (hty : (P.globals[g]?).map (·.type) = some t) (ht : P.underlying t = some (.interface ms)) : IfaceAt w g := by
  obtain ⟨g', t', cs, fuel, p, hg', ht', hvar, hd⟩ := laid_at h i _ _ hi
  obtain rfl := Option.some.inj (hg.symm.trans hg')
  obtain rfl := Option.some.inj (hty.symm.trans ht')
  obtain ⟨_, u, v, hcs, _, _⟩ := iface_of_trod ht hd
  have := World.var?_cell hg hvar 0
  refine ⟨.iface u v, ?_, .inr ⟨u, v, rfl⟩⟩
  rw [this, ← Array.getElem?_toList, hcs]; rfl
theorem vars_give {l : List (String × DataW Unit)} {W : World} (hsh : W.ShapedOpen Tryz.prog) (hl : laidMetH Tryz.prog l W) (hp : (l.all fun x => x.2.handleName?.isNone) = true) (i : Nat) (hi : l[i]? = some ("internal/strconv.uint64pow10", Lib.tabData .u64 Lib.pow10Tab))
    (j : Nat) {n1 : String} {d1 : DataW Unit} (hj : l[j]? = some ("strconv.ErrSyntax", .iface n1 d1)) (k : Nat) {n2 : String} {d2 : DataW Unit} (hk : l[k]? = some ("strconv.ErrRange", .iface n2 d2)) : VarsAt W := by
  rw [MakeChecks.laidMetH_plain _ _ _ hp] at hl
  obtain ⟨ps, h, _, _⟩ := hl
  refine ⟨tab_give h hi (g := 3) (by kernel_rfl) (by kernel_rfl) Tryz.underlying251 (by kernel_rfl) (by kernel_rfl) (by kernel_rfl), ?_, ?_, Tryz.laysM145.s1_3 W hsh⟩
  · exact iface_give h hj (by kernel_rfl) (by kernel_rfl) Tryz.underlying101
  · exact iface_give h hk (by kernel_rfl) (by kernel_rfl) Tryz.underlying101
end Go.Proofs.YteijllklpneagaaGreatDoor
end
