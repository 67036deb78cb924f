/- Parts of one proof: RefNameC, RefNameD, RefSchA, RefAddrA, RefAddrB, RefAddrC, RefDateA, RefDateB, RefSchB, RefSchC, MakeZZ, DeckRec, MakeB, Drawn. -/
import Derived.Test.YtaoebplnbcimlaaGreatDoorPartBe5
import Derived.Deep.RegionWith
set_option linter.unusedSimpArgs false
set_option linter.unusedVariables false
namespace Go.Proofs.YtaoebplnbcimlaaGreatDoor
section
set_option maxRecDepth 100000
open Go.RowKit
attribute [local go_sem] toList_mk mk_size bytes_append
theorem titles_is {L : List (List UInt8)} (h : ∀ j, j < L.length → tokenB (L.getD j []) = true) : titlesB L = ascL L := by
  unfold titlesB ascL
  refine Bool.eq_iff_iff.2 ⟨fun g => ?_, fun g => ?_⟩
  · refine List.all_eq_true.2 fun j hj => ?_
    have := List.all_eq_true.1 g j hj
    unfold titleAt at this
    rw [Bool.and_eq_true] at this
    exact this.2
  · refine List.all_eq_true.2 fun j hj => ?_
    have := List.all_eq_true.1 g j hj
    unfold titleAt
    rw [h j (List.mem_range.1 hj)]
    exact this
theorem titles_no {L : List (List UInt8)} {j : Nat} (h : j < L.length) (ht : tokenB (L.getD j []) = false) : titlesB L = false := by
  unfold titlesB
  exact all_false h (by unfold titleAt; rw [ht]; rfl)
set_option maxHeartbeats 8000000 in
theorem rncheck_any (S : Nat → Prop) (vt vn vs : Value) (r : RulesL) (w : World) (h : RulesAt w S vt vn vs r) :
    Calls Tryz.prog 109 #[.agg #[vt, vn, vs]] w fun e w' => e = .returned (.int .i64 (checkR r)) ∧ Below w.heap.size w w' := by
  obtain ⟨lt, ln, ls⟩ := r
  obtain ⟨h1, h2, h3⟩ := h
  dsimp only at h1 h2 h3
  obtain ⟨at1, ct, rfl⟩ := h1.slice
  obtain ⟨an, cn, rfl⟩ := h2.slice
  obtain ⟨as', cs, rfl⟩ := h3.slice
  have H1 := Lib.hid h1.any; have H2 := Lib.hid h2.any; have H3 := Lib.hid h3.any
  clear h1 h2 h3
  have hfin : ∀ n : Int, checkR ⟨lt, ln, ls⟩ = n → Ending.returned (.int .i64 n) = .returned (.int .i64 (checkR ⟨lt, ln, ls⟩)) := fun n h => by rw [h]
  have HF := Lib.hid hfin; clear hfin
  by_cases g1 : 32 < lt.length
  · have e1 : decide ((32 : Int) < lt.length) = true := by simp; omega
    go_enter Tryz.func109, Tryz.ntmps109
    go_wp2_with fail
    go_ret
    exact ⟨HF.out 1 (by unfold checkR; rw [if_pos (.inl g1)]), (Below.refl _ _).alloc (Nat.le_refl _) _⟩
  · have e1 : decide ((32 : Int) < lt.length) = false := by simp; omega
    by_cases g2 : 32 < ln.length
    · have e2 : decide ((32 : Int) < ln.length) = true := by simp; omega
      go_enter Tryz.func109, Tryz.ntmps109
      go_wp2_with fail
      go_ret
      exact ⟨HF.out 1 (by unfold checkR; rw [if_pos (.inr (.inl g2))]), (Below.refl _ _).alloc (Nat.le_refl _) _⟩
    · have e2 : decide ((32 : Int) < ln.length) = false := by simp; omega
      by_cases g3 : 32 < ls.length
      · have e3 : decide ((32 : Int) < ls.length) = true := by simp; omega
        go_enter Tryz.func109, Tryz.ntmps109
        go_wp2_with fail
        go_ret
        exact ⟨HF.out 1 (by unfold checkR; rw [if_pos (.inr (.inr g3))]), (Below.refl _ _).alloc (Nat.le_refl _) _⟩
      · have e3 : decide ((32 : Int) < ls.length) = false := by simp; omega
        have hle : ¬ (32 < lt.length ∨ 32 < ln.length ∨ 32 < ls.length) := by omega
        have HLe := Lib.hid hle; clear hle
        go_enter Tryz.func109, Tryz.ntmps109
        go_wp2_with fail
        clear e1 e2 e3
        refine wp_world (fun W hW => ?_)
        have HX := Lib.hid (show W.heap[w.heap.size]? = some (.cells #[.slice at1 lt.length ct, .slice an ln.length cn, .slice as' ls.length cs] 41 (0, 0)) from by rw [hW]; exact blk_new rfl)
        have HB := Lib.hid (show Below w.heap.size w W from by rw [hW]; exact (Below.refl _ _).alloc (Nat.le_refl _) _)
        have zW : w.heap.size < W.heap.size := lt_of_blk HX.out
        clear hW
        obtain ⟨p0, p1, p2⟩ := cells3 HX.out
        go_loop [3] (fun i => ∃ k : Nat, k ≤ lt.length ∧ i = .int .i64 k ∧ Hid (∀ j, j < k → tokenB (lt.getD j []) = true)) (fun i => lt.length - (intOf i).toNat)
        case atStart => exact ⟨0, by omega, rfl, Lib.hid fun j hj => by omega⟩
        case round =>
          obtain ⟨k, hk, rfl, HA⟩ := hrel
          by_cases hlt : k < lt.length
          · have hq : decide ((k : Int) < lt.length) = true := by simp; omega
            obtain ⟨b, off, rfl, _, hb, hc⟩ := vec_cell1 (H1.out.below HB.out) (by omega)
            have c1 := hc k hlt
            obtain ⟨x, hx⟩ : ∃ x, lt.getD k [] = x := ⟨_, rfl⟩
            rw [hx] at c1
            have HXx := Lib.hid hx
            clear hc hx
            go_wp2_with fail
            refine (rtoken_any x _).mono ?_
            cases ht : tokenB x
            · rintro e w' ⟨rfl, rfl⟩
              have HT := Lib.hid ht; clear ht
              go_wp2_with fail
              go_ret
              exact ⟨HF.out 5 (by unfold checkR; rw [if_neg HLe.out, titles_no (j := k) hlt (by rw [HXx.out]; exact HT.out)]; simp), HB.out⟩
            · rintro e w' ⟨rfl, rfl⟩
              have HT := Lib.hid ht; clear ht
              go_wp2_with fail
              go_round
              case rel => exact ⟨k + 1, by omega, by go_num, Lib.hid fun j hj => by
                by_cases e : j = k
                · subst e; rw [HXx.out]; exact HT.out
                · exact HA.out j (by omega)⟩
              case measure => simp [intOf]; omega
          · have hq : decide ((k : Int) < lt.length) = false := by simp; omega
            have hti := Lib.hid (titles_is (L := lt) (fun j hj => HA.out j (by omega)))
            go_wp2_with fail
            refine (rasc_any Any1 _ lt _ (H1.out.below HB.out) (by omega)).mono ?_
            rw [← hti.out]
            rintro e w1 ⟨rfl, hb1⟩
            have HX1 := Lib.hid (blk_below hb1 zW HX.out)
            have HB1 := Lib.hid (HB.out.trans (hb1.mono HB.out.size))
            clear hb1 p0 p1 p2
            obtain ⟨p0, p1, p2⟩ := cells3 HX1.out
            have z1 : w.heap.size < w1.heap.size := lt_of_blk HX1.out
            cases ht : titlesB lt
            · have HT := Lib.hid ht; clear ht
              go_wp2_with fail
              go_ret
              exact ⟨HF.out 5 (by unfold checkR; rw [if_neg HLe.out, HT.out]; simp), HB1.out⟩
            · have HT := Lib.hid ht; clear ht
              go_wp2_with fail
              refine (rpairs_any Any1 _ ln _ (H2.out.below HB1.out) (by omega)).mono ?_
              rintro e w2 ⟨rfl, hb2⟩
              have HX2 := Lib.hid (blk_below hb2 z1 HX1.out)
              have HB2 := Lib.hid (HB1.out.trans (hb2.mono HB1.out.size))
              clear hb2 p0 p1 p2
              obtain ⟨p0, p1, p2⟩ := cells3 HX2.out
              have z2 : w.heap.size < w2.heap.size := lt_of_blk HX2.out
              cases hp : pairsB ln
              · have HP := Lib.hid hp; clear hp
                go_wp2_with fail
                go_ret
                exact ⟨HF.out 5 (by unfold checkR; rw [if_neg HLe.out, HT.out, HP.out]; simp), HB2.out⟩
              · have HP := Lib.hid hp; clear hp
                go_wp2_with fail
                refine (rpairs_any Any1 _ ls _ (H3.out.below HB2.out) (by omega)).mono ?_
                rintro e w3 ⟨rfl, hb3⟩
                have HX3 := Lib.hid (blk_below hb3 z2 HX2.out)
                have HB3 := Lib.hid (HB2.out.trans (hb3.mono HB2.out.size))
                clear hb3 p0 p1 p2
                cases hs : pairsB ls
                · have HS := Lib.hid hs; clear hs
                  go_wp2_with fail
                  go_ret
                  exact ⟨HF.out 5 (by unfold checkR; rw [if_neg HLe.out, HT.out, HP.out, HS.out]; simp), HB3.out⟩
                · have HS := Lib.hid hs; clear hs
                  have hck : checkR ⟨lt, ln, ls⟩ = if (ln.any fun x => hasB lt x.2) = true then 5 else 0 := by
                    unfold checkR
                    rw [if_neg HLe.out, HT.out, HP.out, HS.out]; simp
                  have HCk := Lib.hid hck; clear hck
                  go_wp2_with fail
                  go_loopw [4] (fun i wr => ∃ k : Nat, k ≤ ln.length ∧ i = .int .i64 k ∧ Below w3.heap.size w3 wr ∧ Hid (∀ j, j < k → hasB lt (ln.getD j default).2 = false)) (fun i _ => ln.length - (intOf i).toNat)
                  case atStart => exact ⟨0, by omega, rfl, Below.refl _ _, Lib.hid fun j hj => by omega⟩
                  case round =>
                    obtain ⟨k, hk2, rfl, hbw, HH⟩ := hrel
                    have HW := Lib.hid (HB3.out.trans (hbw.mono HB3.out.size))
                    have HXw := Lib.hid (blk_below hbw (lt_of_blk HX3.out) HX3.out)
                    have HBw := Lib.hid hbw
                    clear hbw
                    have zw := lt_of_blk HXw.out
                    obtain ⟨p0, p1, p2⟩ := cells3 HXw.out
                    by_cases hlt2 : k < ln.length
                    · have hq2 : decide ((k : Int) < ln.length) = true := by simp; omega
                      have hi : (k : Int) < (ln.length : Int) := by omega
                      obtain ⟨b, off, rfl, _, hb, hc⟩ := vec_cell2 (H2.out.below HW.out) (by omega)
                      have c1 := hc k hlt2 1 _ rfl
                      obtain ⟨⟨y, z⟩, hy⟩ : ∃ y, ln.getD k default = y := ⟨_, rfl⟩
                      have hmem : ln.getD k default ∈ ln := by rw [List.getD, List.getElem?_eq_getElem hlt2]; exact List.getElem_mem hlt2
                      rw [hy] at c1 hmem
                      dsimp only at c1
                      have HY := Lib.hid hy; have HM := Lib.hid hmem
                      clear hc hy hmem
                      go_wp2_with fail
                      refine wp_region_noPanic ?_
                      refine wp_region_held_drew (S := (fun w' => w'.cell? ⟨w.heap.size, 0, none⟩ = some (.slice at1 lt.length ct) ∧ w'.cell? ⟨w.heap.size, 1, none⟩ = some (.slice (some ⟨b, off, none⟩) ln.length cn) ∧ w'.cell? ⟨b, off + k * 2 + 1, none⟩ = some (strV z))) (by kernel_rfl) (⟨p0, p1, c1⟩) (fun hHeld => ?_)
                      refine tH 0 (h := ?_)
                      refine tH 1 (h := ?_)
                      refine tH 2 (h := ?_)
                      refine tH 3 (h := ?_)
                      refine tH 4 (h := ?_)
                      refine tH 5 (h := ?_)
                      refine tH 6 (h := ?_)
                      refine tH 7 (h := ?_)
                      refine wpAnyH_ready (rs := [8]) (by kernel_rfl) (by simp) ?_
                      refine AllReadyH.cons rfl (fun K hK => ?_) AllReadyH.nil
                      go_simp
                      refine (rhas_any Any1 _ lt z _ ((H1.out.below HW.out).below (Below.refl _ _).drew) (by omega)).mono ?_; rintro e w' ⟨rfl, rfl⟩
                      refine hK.out _ _ (hHeld) (fun hHeld => ?_)
                      clear hK K
                      try simp only [List.getElem_toArray, List.getElem_cons_zero, List.getElem_cons_succ, Act.put, List.setIfInBounds_toArray, List.set_cons_zero, List.set_cons_succ]
                      refine wpAnyH_done (by kernel_rfl) ?_ _
                      refine NoPanic.normal ?_
                      cases hh : hasB lt z
                      · have HHz := Lib.hid hh; clear hh
                        go_wp2_with fail
                        go_roundw
                        case rel => exact ⟨k + 1, by omega, by go_num, HBw.out.drew, Lib.hid fun j hj => by
                          by_cases e : j = k
                          · subst e; rw [HY.out]; exact HHz.out
                          · exact HH.out j (by omega)⟩
                        case measure => simp [intOf]; omega
                      · have HHz := Lib.hid hh; clear hh
                        go_wp2_with fail
                        go_ret
                        exact ⟨HF.out 5 (by rw [HCk.out, if_pos (List.any_eq_true.2 ⟨_, HM.out, HHz.out⟩)]), HW.out.drew⟩
                    · have hq2 : decide ((k : Int) < ln.length) = false := by simp; omega
                      have hany : (ln.any fun x => hasB lt x.2) = false := by
                        rw [List.any_eq_false]
                        intro y hy
                        obtain ⟨j, hj, rfl⟩ := List.getElem_of_mem hy
                        have := HH.out j (by omega)
                        rw [List.getD, List.getElem?_eq_getElem hj] at this
                        simpa using this
                      have HAny := Lib.hid hany; clear hany
                      go_wp2_with fail
                      go_ret
                      exact ⟨HF.out 0 (by rw [HCk.out, HAny.out]; simp), HW.out⟩
end
section
set_option maxRecDepth 100000
open Go.RowKit
attribute [local go_sem] toList_mk mk_size
set_option maxHeartbeats 4000000 in
theorem rnorm_yes (S : Nat → Prop) (vt vn vs : Value) (r : RulesL) (s : ByteArray) (w : World) (h : RulesAt w S vt vn vs r) (hc : checkR r = 0) (hv : foldV s.data.toList = true) :
    Calls Tryz.prog 174 #[.agg #[vt, vn, vs], .string s] w fun e w' => e = .returned (pairV (nameN r s.data.toList)) ∧ Below w.heap.size w w' := by
  have hs : s.size ≤ 64 := by
    have := foldV_len hv
    have h2 : s.data.toList.length = s.size := by simp
    omega
  obtain ⟨⟨k1, k2, k3⟩, g1, g2, g3, g4⟩ := check_zero hc
  have G2 := Lib.hid g2
  have HR := Lib.hid h.any
  have HC := Lib.hid hc; have HV := Lib.hid hv
  clear h hc hv g1 g2 g3 g4
  have hfin : nameN r s.data.toList = (if 6 < (nameToks r (toks (foldL s.data.toList))).length ∨ 64 < (joinL (nameToks r (toks (foldL s.data.toList)))).length then ([], 1) else (joinL (nameToks r (toks (foldL s.data.toList))), 0)) := by
    unfold nameN; rw [if_pos HC.out, if_pos HV.out]
  have HF := Lib.hid hfin; clear hfin
  go_enter Tryz.func174, Tryz.ntmps174
  go_wp2_with fail
  refine (rncheck_any Any1 vt vn vs r _ (HR.out.below ((Below.refl _ _).alloc (Nat.le_refl _) _))).mono ?_
  rw [HC.out]
  rintro e w1 ⟨rfl, hb1⟩
  have X1 : w1.heap[w.heap.size]? = some (.cells #[vt, vn, vs] 41 (0, 0)) := blk_below hb1 (by simp) (blk_new rfl)
  have HX1 := Lib.hid X1
  have HB1 := Lib.hid (((Below.refl w.heap.size w).alloc (Nat.le_refl _) _).trans (hb1.mono (by simp)))
  clear X1 hb1
  go_wp2_with fail
  refine (rfold_yes s _ HV.out).mono ?_
  rintro e w2 ⟨rfl, hb2⟩
  have HX2 := Lib.hid (blk_below hb2 (lt_of_blk HX1.out) HX1.out)
  have HB2 := Lib.hid (HB1.out.trans (hb2.mono HB1.out.size))
  clear hb2 HX1 HB1
  go_wp2_with fail
  have hfl : (foldL s.data.toList).length ≤ 64 := by
    have := fold_len s.data.toList
    have h2 : s.data.toList.length = s.size := by simp
    omega
  obtain ⟨fl, hfl'⟩ : ∃ fl, foldL s.data.toList = fl := ⟨_, rfl⟩
  have hasc : ascii fl := hfl' ▸ fold_ascii _
  have HA := Lib.hid hasc
  rw [hfl'] at hfl HF ⊢
  clear hasc hfl'
  refine (rtokens_any ⟨fl.toArray⟩ _ (by rw [mk_size]; omega)).mono ?_
  rw [show (⟨fl.toArray⟩ : ByteArray).data.toList = fl by simp]
  rintro e w4 ⟨v4, rfl, ho⟩
  obtain ⟨aT, cT, rfl⟩ := own_slice ho.1
  have hb4 := ho.2
  have HX4 := Lib.hid (blk_below hb4 (lt_of_blk HX2.out) HX2.out)
  have HB4 := Lib.hid (HB2.out.trans (hb4.mono HB2.out.size))
  have hV := Vec.owns (S := Any1) (k := 1) (enc := encS) (fun _ => rfl) ho.1 (fun _ _ _ => trivial)
  have htl : ∀ t ∈ toks fl, t.length ≤ 64 := fun t ht => by have := toks_le fl [] t ht; simp at this; omega
  have htn : (toks fl).length ≤ 65 := by have := (toksA_len fl []).2.1; unfold toks; omega
  obtain ⟨T, hT⟩ : ∃ T, toks fl = T := ⟨_, rfl⟩
  rw [hT] at hV htl htn HF ⊢
  have HV4 := Lib.hid hV; have HTL := Lib.hid htl
  clear hb4 HX2 HB2 ho hV hT htl
  go_wp2_with fail
  go_loopw [10, 11] (fun v i wr => ∃ k : Nat, k ≤ T.length ∧ i = .int .i64 k ∧ OwnAt w4 v (nameToks r (T.take k)) wr) (fun _ i _ => T.length - (intOf i).toNat)
  case atStart => exact ⟨0, by omega, rfl, OwnAt.start w4⟩
  case round =>
    obtain ⟨k, hk, rfl, ho⟩ := hrel
    by_cases hlt : k < T.length
    · have hq : decide ((k : Int) < T.length) = true := by simp; omega
      have hi : (k : Int) < (T.length : Int) := by omega
      obtain ⟨b, off, rfl, _, hb, hcx⟩ := vec_cell1 HV4.out (by omega)
      have htk : T.take (k + 1) = T.take k ++ [T.getD k []] := by
        rw [List.take_succ_eq_append_getElem hlt, List.getD, List.getElem?_eq_getElem hlt]; rfl
      have hxl : (T.getD k []).length ≤ 64 := TL_get HTL.out k hlt
      have hcx' := hcx k hlt
      obtain ⟨x, hx⟩ : ∃ x, T.getD k [] = x := ⟨_, rfl⟩
      rw [hx] at htk hxl hcx'
      have c1 : wr.cell? ⟨b, off + k, none⟩ = some (strV x) := (ho.2.cell (p := ⟨b, off + k, none⟩) hb).trans hcx'
      have HT := Lib.hid htk; have HO := Lib.hid ho
      have hnl := nameToks_len r (T.take k)
      have hnl2 : (nameToks r (T.take k)).length < 1099511627776 := by have := List.length_take_le k T; omega
      clear hx htk hcx hcx' ho hnl
      go_wp2_with fail
      refine (rletters_any (mkS x) _ (by rw [show (mkS x).size = x.length from mk_size x]; omega)).mono ?_
      rw [show (mkS x).data.toList = x by simp [mkS]]
      rintro e w' ⟨rfl, rfl⟩
      have HO5 := HO
      have hX5 := blk_below (HO5.out.2) (lt_of_blk HX4.out) HX4.out
      clear HO
      have HNT := Lib.hid (show normTok r x = if (lettersL x).isEmpty || hasB r.titles (lettersL x) then [] else [canonL r.nicks (lettersL x)] from rfl)
      have hyl := letters_len x
      obtain ⟨y, hy⟩ : ∃ y, lettersL x = y := ⟨_, rfl⟩
      rw [hy] at HNT hyl ⊢
      clear hy
      have HX5 := Lib.hid hX5
      obtain ⟨p0, p1, p2⟩ := cells3 hX5
      clear hX5
      by_cases hye : y = []
      · have e1 : (y == []) = true := by simpa using hye
        have e2 : y.isEmpty = true := by simpa using hye
        have HN := Lib.hid (show normTok r x = [] by rw [HNT.out, e2]; rfl)
        clear hye HNT
        go_wp2_with fail
        go_roundw
        case rel => exact ⟨k + 1, by omega, by go_num, by rw [HT.out, nameToks_snoc, HN.out, List.append_nil]; exact HO5.out⟩
        case measure => simp [intOf]; omega
      · have e1 : (y == []) = false := by simpa using hye
        have e2 : y.isEmpty = false := by simpa using hye
        rw [e2, Bool.false_or] at HNT
        clear hye
        go_wp2_with fail
        refine (rdropped_any Any1 vt vn vs r.titles y _ (HR.out.1.below (HB4.out.trans (HO5.out.2.mono HB4.out.size))) (by omega)).mono ?_
        rintro e w6 ⟨rfl, hb6⟩
        have HO6 := Lib.hid (HO5.out.below hb6)
        have hX6 := blk_below hb6 (lt_of_blk HX5.out) HX5.out
        clear p0 p1 p2 HX5 hb6 HO5
        obtain ⟨p0, p1, p2⟩ := cells3 hX6
        have HX6 := Lib.hid hX6; clear hX6
        cases hd : hasB r.titles y
        · have HN := Lib.hid (show normTok r x = [canonL r.nicks y] by rw [HNT.out, hd]; rfl)
          clear hd HNT
          go_wp2_with fail
          refine (rcanonical_any Any1 vt vn vs r.nicks y _ (HR.out.2.1.below (HB4.out.trans (HO6.out.2.mono HB4.out.size))) (by omega)).mono ?_
          rintro e w7 ⟨rfl, hb7⟩
          have HO7 := Lib.hid (HO6.out.below hb7)
          clear p0 p1 p2 HX6 hb7 HO6
          obtain ⟨z, hz⟩ : ∃ z, canonL r.nicks y = z := ⟨_, rfl⟩
          rw [hz] at HN ⊢
          clear hz
          have hbz : w4.heap.size ≤ w7.heap.size := HO7.out.2.size
          go_wp2_with (at_builtin; refine wpList_append_new rfl _ _ 27 rfl w4.heap.size 9 1 16 (.string ⟨#[]⟩) Tryz.underlying27 infoS rfl (by decide) (by decide) _ _ _ rfl HO7.out.1 #[strV z] 1 rfl rfl (by simp [Value.oneCell']) hnl2 hbz ?_; intro v2 w8 ho8 hw8)
          go_roundw
          case rel => exact ⟨k + 1, by omega, by go_num, by rw [HT.out, nameToks_snoc, HN.out]; exact ⟨by rw [List.length_append, flat_snoc]; exact ho8, hw8 _ HO7.out.2⟩⟩
          case measure => simp [intOf]; omega
        · have HN := Lib.hid (show normTok r x = [] by rw [HNT.out, hd]; rfl)
          clear hd HNT
          go_wp2_with fail
          go_roundw
          case rel => exact ⟨k + 1, by omega, by go_num, by rw [HT.out, nameToks_snoc, HN.out, List.append_nil]; exact HO6.out⟩
          case measure => simp [intOf]; omega
    · have hq : decide ((k : Int) < T.length) = false := by simp; omega
      rw [List.take_of_length_le (by omega)] at ho
      have HV5 := Lib.hid (Vec.owns (S := Any1) (k := 1) (enc := encS) (fun _ => rfl) ho.1 (fun _ _ _ => trivial))
      have HW := Lib.hid (HB4.out.trans (ho.2.mono HB4.out.size))
      have hnl := nameToks_len r T
      have hjl := join_le (nameToks r T) (nameToks_le G2.out HTL.out)
      clear ho
      obtain ⟨N, hN⟩ : ∃ N, nameToks r T = N := ⟨_, rfl⟩
      rw [hN] at HV5 hnl hjl HF
      clear hN
      have hjb : (joinL N).length ≤ 1000000 := by
        have : N.length * 65 ≤ 65 * 65 := Nat.mul_le_mul_right 65 (by omega)
        omega
      clear hjl
      obtain ⟨av, cv, rfl⟩ := HV5.out.slice
      go_wp2_with fail
      refine (rjoin_any Any1 _ N _ HV5.out (by omega) (by omega)).mono ?_
      rintro e w' ⟨rfl, rfl⟩
      have HW9 := HW
      obtain ⟨J, hJ⟩ : ∃ J, joinL N = J := ⟨_, rfl⟩
      rw [hJ] at HF hjb ⊢
      clear hJ
      by_cases g1 : 6 < N.length
      · have d1 : decide ((6 : Int) < N.length) = true := by simp; omega
        rw [if_pos (.inl g1)] at HF
        go_wp2_with fail
        go_ret2
        exact ⟨by rw [HF.out]; rfl, HW9.out⟩
      · have d1 : decide ((6 : Int) < N.length) = false := by simp; omega
        by_cases g2 : 64 < J.length
        · have d2 : decide ((64 : Int) < J.length) = true := by simp; omega
          rw [if_pos (.inr g2)] at HF
          go_wp2_with fail
          go_ret2
          exact ⟨by rw [HF.out]; rfl, HW9.out⟩
        · have d2 : decide ((64 : Int) < J.length) = false := by simp; omega
          rw [if_neg (by omega)] at HF
          go_wp2_with fail
          go_ret2
          exact ⟨by rw [HF.out]; rfl, HW9.out⟩
set_option maxHeartbeats 1000000 in
theorem rnorm_no (S : Nat → Prop) (vt vn vs : Value) (r : RulesL) (s : ByteArray) (w : World) (h : RulesAt w S vt vn vs r) (hs : s.size ≤ 9223372036854775000) (hc : checkR r = 0) (hv : foldV s.data.toList = false) :
    Calls Tryz.prog 174 #[.agg #[vt, vn, vs], .string s] w fun e w' => e = .returned (pairV (nameN r s.data.toList)) ∧ Below w.heap.size w w' := by
  have HR := Lib.hid h.any
  have HC := Lib.hid hc; have HV := Lib.hid hv
  clear h hc hv
  have HF := Lib.hid (show nameN r s.data.toList = ([], 3) by unfold nameN; rw [if_pos HC.out, if_neg (by rw [HV.out]; simp)])
  go_enter Tryz.func174, Tryz.ntmps174
  go_wp2_with fail
  refine (rncheck_any Any1 vt vn vs r _ (HR.out.below ((Below.refl _ _).alloc (Nat.le_refl _) _))).mono ?_
  rw [HC.out]
  rintro e w1 ⟨rfl, hb1⟩
  have HB1 := Lib.hid (((Below.refl w.heap.size w).alloc (Nat.le_refl _) _).trans (hb1.mono (by simp)))
  clear hb1
  go_wp2_with fail
  refine (rfold_no s _ hs HV.out).mono ?_
  rintro e w2 ⟨rfl, hb2⟩
  have HB2 := Lib.hid (HB1.out.trans (hb2.mono HB1.out.size))
  clear hb2 HB1
  go_wp2_with fail
  go_ret2
  exact ⟨by rw [HF.out]; rfl, HB2.out⟩
set_option maxHeartbeats 1000000 in
theorem rnorm_bad (S : Nat → Prop) (vt vn vs : Value) (r : RulesL) (s : ByteArray) (w : World) (h : RulesAt w S vt vn vs r) (hc : checkR r ≠ 0) :
    Calls Tryz.prog 174 #[.agg #[vt, vn, vs], .string s] w fun e w' => e = .returned (pairV (nameN r s.data.toList)) ∧ Below w.heap.size w w' := by
  have HR := Lib.hid h.any
  have HF := Lib.hid (show nameN r s.data.toList = ([], checkR r) by unfold nameN; rw [if_neg hc])
  have hne : (checkR r != 0) = true := by simpa using hc
  clear h hc
  go_enter Tryz.func174, Tryz.ntmps174
  go_wp2_with fail
  refine (rncheck_any Any1 vt vn vs r _ (HR.out.below ((Below.refl _ _).alloc (Nat.le_refl _) _))).mono ?_
  obtain ⟨c, hcc⟩ : ∃ c, checkR r = c := ⟨_, rfl⟩
  rw [hcc] at hne HF ⊢
  clear hcc
  rintro e w1 ⟨rfl, hb1⟩
  have HB1 := Lib.hid (((Below.refl w.heap.size w).alloc (Nat.le_refl _) _).trans (hb1.mono (by simp)))
  clear hb1
  go_wp2_with fail
  go_ret2
  exact ⟨by rw [HF.out]; rfl, HB1.out⟩
theorem rnorm_any (S : Nat → Prop) (vt vn vs : Value) (r : RulesL) (s : ByteArray) (w : World) (h : RulesAt w S vt vn vs r) (hs : s.size ≤ 9223372036854775000) :
    Calls Tryz.prog 174 #[.agg #[vt, vn, vs], .string s] w fun e w' => e = .returned (pairV (nameN r s.data.toList)) ∧ Below w.heap.size w w' := by
  by_cases hc : checkR r = 0
  · cases hv : foldV s.data.toList with
    | true => exact rnorm_yes S vt vn vs r s w h hc hv
    | false => exact rnorm_no S vt vn vs r s w h hs hc hv
  · exact rnorm_bad S vt vn vs r s w h hc
set_option maxHeartbeats 1000000 in
theorem rnormal_any (S : Nat → Prop) (vt vn vs : Value) (r : RulesL) (s : ByteArray) (w : World) (h : RulesAt w S vt vn vs r) (hs : s.size ≤ 9223372036854775000) :
    Calls Tryz.prog 181 #[.agg #[vt, vn, vs], .string s] w fun e w' => e = .returned (.bool (isOwn (nameN r s.data.toList) s.data.toList)) ∧ Below w.heap.size w w' := by
  have HR := Lib.hid h.any; clear h
  have HS := Lib.hid (Lib.toList_data s)
  go_enter Tryz.func181, Tryz.ntmps181
  go_wp2_with fail
  refine (rnorm_any Any1 vt vn vs r s _ (HR.out.below ((Below.refl _ _).alloc (Nat.le_refl _) _)) hs).mono ?_
  obtain ⟨p, hp⟩ : ∃ p, nameN r s.data.toList = p := ⟨_, rfl⟩
  rw [hp]
  have HP := Lib.hid hp; clear hp
  obtain ⟨pl, pe⟩ := p
  unfold pairV
  rintro e w1 ⟨rfl, hb1⟩
  have HB1 := Lib.hid (((Below.refl w.heap.size w).alloc (Nat.le_refl _) _).trans (hb1.mono (by simp)))
  clear hb1
  cases he : (pe == 0)
  all_goals
    go_wp2_with fail
    go_ret
    refine ⟨ret_bool ?_, HB1.out⟩
    rw [HP.out]
    simp [isOwn, he, HS.out]
end
section
set_option maxRecDepth 100000
open Go.RowKit
attribute [local go_sem] toList_mk mk_size bytes_append
set_option maxHeartbeats 400000 in
theorem rword_any (l : List UInt8) (w : World) :
    Calls Tryz.prog 108 #[strV l] w fun e w' => e = .returned (.bool (wordB l)) ∧ w = w' := by
  unfold wordB
  by_cases h0 : l = []
  · subst h0
    go_enter Tryz.func108, Tryz.ntmps108
    go_wp2
    go_ret
    exact ⟨rfl, rfl⟩
  · have h1 : l.isEmpty = false := by simpa using h0
    have h2 : (l == []) = false := by simpa using h0
    have h2' : (l != []) = true := by simpa using h0
    rw [h1]
    by_cases h3 : l.length ≤ 12
    · have h4 : decide (l.length ≤ 12) = true := by simpa using h3
      have h5 : decide ((l.length : Int) ≤ 12) = true := by simp; omega
      rw [h4]
      clear h0 h4
      go_enter Tryz.func108, Tryz.ntmps108
      go_wp2_with fail
      refine (rletters_any ⟨l.toArray⟩ _ (by rw [mk_size]; omega)).mono ?_
      rw [show (⟨l.toArray⟩ : ByteArray).data.toList = l by simp]
      rintro e w1 ⟨rfl, rfl⟩
      go_wp2_with fail
      go_ret
      exact ⟨rfl, rfl⟩
    · have h4 : decide (l.length ≤ 12) = false := by simpa using h3
      have h5 : decide ((l.length : Int) ≤ 12) = false := by simp; omega
      rw [h4]
      clear h0 h4
      go_enter Tryz.func108, Tryz.ntmps108
      go_wp2_with fail
      go_ret
      exact ⟨rfl, rfl⟩
theorem any_take_true {F : List F2} {k j : Nat} {nm : List UInt8} (hj : j < k) (hk : k ≤ F.length) (h : ((F.getD j default).1 == nm) = true) :
    (F.take k).any (fun y => y.1 == nm) = true := by
  rw [List.any_eq_true]
  refine ⟨F.getD j default, ?_, h⟩
  have h1 : j < F.length := by omega
  rw [List.mem_take_iff_getElem]
  exact ⟨j, by omega, by simp [List.getD, List.getElem?_eq_getElem h1]⟩
theorem any_take_false {F : List F2} {k : Nat} {nm : List UInt8} (h : ∀ j, j < k → ((F.getD j default).1 == nm) = false) :
    (F.take k).any (fun y => y.1 == nm) = false := by
  rw [List.any_eq_false]
  intro x hx
  obtain ⟨j, hj, rfl⟩ := List.mem_take_iff_getElem.1 hx
  have h1 : j < F.length := by omega
  have := h j (by omega)
  simp [List.getD, List.getElem?_eq_getElem h1] at this
  simpa using this
set_option maxHeartbeats 4000000 in
theorem rscheck_any (S : Nat → Prop) (vf vt vn vs : Value) (s : SchemaL) (w : World) (h : SchemaAt w S vf vt vn vs s) :
    Calls Tryz.prog 52 #[.agg #[vf, vt, vn, vs]] w fun e w' => e = .returned (.int .i64 (checkS s)) ∧ Below w.heap.size w w' := by
  obtain ⟨F, r⟩ := s
  obtain ⟨h1, h2⟩ := h
  dsimp only at h1 h2
  obtain ⟨af, cf, rfl⟩ := h1.slice
  have H1 := Lib.hid h1.any; have H2 := Lib.hid h2.any
  clear h1 h2
  have hfin : ∀ n : Int, checkS ⟨F, r⟩ = n → Ending.returned (.int .i64 n) = .returned (.int .i64 (checkS ⟨F, r⟩)) := fun n h => by rw [h]
  have HF := Lib.hid hfin; clear hfin
  by_cases g1 : F.length < 1
  · have d1 : decide ((F.length : Int) < 1) = true := by simp; omega
    go_enter Tryz.func52, Tryz.ntmps52
    go_wp2_with fail
    go_ret
    exact ⟨HF.out 6 (by unfold checkS; rw [if_pos (.inl g1)]), (Below.refl _ _).alloc (Nat.le_refl _) _⟩
  · have d1 : decide ((F.length : Int) < 1) = false := by simp; omega
    by_cases g2 : 5 < F.length
    · have d2 : decide ((5 : Int) < F.length) = true := by simp; omega
      go_enter Tryz.func52, Tryz.ntmps52
      go_wp2_with fail
      go_ret
      exact ⟨HF.out 6 (by unfold checkS; rw [if_pos (.inr g2)]), (Below.refl _ _).alloc (Nat.le_refl _) _⟩
    · have d2 : decide ((5 : Int) < F.length) = false := by simp; omega
      have HN := Lib.hid (show ¬ (F.length < 1 ∨ 5 < F.length) by omega)
      obtain ⟨b, off, rfl, _, hb, hc⟩ := vec_cell2 H1.out (by omega)
      have HC := Lib.hid hc; clear hc
      go_enter Tryz.func52, Tryz.ntmps52
      go_wp2_with fail
      clear d1 d2
      go_loopw [3] (fun i wr => ∃ k : Nat, k ≤ F.length ∧ i = .int .i64 k ∧ wr.heap[w.heap.size]? = some (.cells #[.slice (some ⟨b, off, none⟩) F.length cf, vt, vn, vs] 43 (0, 0)) ∧ Below w.heap.size w wr ∧ ∀ j, j < k → fieldAtB F j = true) (fun i _ => F.length - (intOf i).toNat)
      case atStart => exact ⟨0, by omega, rfl, blk_new rfl, (Below.refl _ _).alloc (Nat.le_refl _) _, fun j hj => by omega⟩
      case round =>
        obtain ⟨k, hk, rfl, hX, hbw, ha⟩ := hrel
        have HA := Lib.hid ha; clear ha
        obtain ⟨p0, p1, p2, p3⟩ := cells4 hX
        have zX := lt_of_blk hX
        have HX := Lib.hid hX; clear hX
        have HW := Lib.hid hbw
        by_cases hlt : k < F.length
        · obtain ⟨wu, rfl⟩ : ∃ wu : World, wu = wr := ⟨_, rfl⟩
          have hq : decide ((k : Int) < F.length) = true := by simp; omega
          have hi : (k : Int) < (F.length : Int) := by omega
          obtain ⟨x, hx⟩ : ∃ x, F.getD k default = x := ⟨_, rfl⟩
          have hc := HC.out k hlt
          rw [hx] at hc
          have c0 : wu.cell? ⟨b, off + k * 2, none⟩ = some (strV x.1) := (hbw.cell (p := ⟨b, off + k * 2, none⟩) hb).trans (hc 0 _ rfl)
          have c1 : wu.cell? ⟨b, off + k * 2 + 1, none⟩ = some (.int .i64 x.2) := (hbw.cell (p := ⟨b, off + k * 2 + 1, none⟩) hb).trans (hc 1 _ rfl)
          have hfa : fieldAtB F k = (wordB x.1 && !((F.take k).any fun y => y.1 == x.1) && decide (1 ≤ x.2) && decide (x.2 ≤ 4)) := by simp only [fieldAtB]; rw [hx]
          have HFa := Lib.hid hfa
          obtain ⟨nm, kd⟩ := x
          dsimp only at c0 c1 HFa
          clear hx hc hbw hfa
          have hYF : ∀ x : Bool, fieldAtB F k = false → Ending.returned (.int .i64 6) = Ending.returned (.int .i64 (checkS ⟨F, r⟩)) := fun _ hf => HF.out 6 (by unfold checkS; rw [if_neg HN.out, if_neg (by rw [fieldsB, all_false hlt hf]; simp)])
          have HYF := Lib.hid (hYF true); clear hYF
          go_wp2_with fail
          refine (rword_any nm _).mono ?_
          obtain ⟨wb, hwb⟩ : ∃ wb, wordB nm = wb := ⟨_, rfl⟩
          rw [hwb] at HFa ⊢
          clear hwb
          rintro e w3 ⟨rfl, rfl⟩
          cases wb
          · have HFa := Lib.hid (show fieldAtB F k = false by rw [HFa.out]; rfl)
            go_wp2_with fail
            go_ret
            exact ⟨HYF.out HFa.out, HW.out.alloc HW.out.size _⟩
          · by_cases k1 : 1 ≤ kd
            · have k1' : decide (kd < 1) = false := by simp; omega
              by_cases k4 : kd ≤ 4
              · have k4' : decide (4 < kd) = false := by simp; omega
                have HFa := Lib.hid (show fieldAtB F k = !((F.take k).any fun y => y.1 == nm) by rw [HFa.out]; simp [k1, k4])
                go_wp2_with fail
                go_loopw [5] (fun i wr => ∃ j : Nat, j ≤ k ∧ i = .int .i64 j ∧ wr.heap[w.heap.size]? = some (.cells #[.slice (some ⟨b, off, none⟩) F.length cf, vt, vn, vs] 43 (0, 0)) ∧ wr.heap[wu.heap.size]? = some (.cells #[strV nm, .int .i64 kd] 91 (0, 0)) ∧ Below w.heap.size w wr ∧ ∀ m, m < j → ((F.getD m default).1 == nm) = false) (fun i _ => k - (intOf i).toNat)
                case atStart => exact ⟨0, by omega, rfl, blk_old HX.out, blk_new rfl, HW.out.alloc HW.out.size _, fun m hm => by omega⟩
                case round =>
                  obtain ⟨j, hj, rfl, hX, hY2, hbi, ha⟩ := hrel
                  have HAi := Lib.hid ha; clear ha
                  obtain ⟨p0, p1, p2, p3⟩ := cells4 hX
                  have q0 : wr.cell? ⟨wu.heap.size, 0, none⟩ = some (strV nm) := by rw [cell_of_row _ _ _ _ _ _ hY2]; rfl
                  have zXi := lt_of_blk hX; have zYi := lt_of_blk hY2
                  have HXi := Lib.hid hX; have HYi := Lib.hid hY2; have HWi := Lib.hid hbi
                  clear hX hY2
                  by_cases hjk : j < k
                  · have hqj : decide ((j : Int) < k) = true := by simp; omega
                    have hij : (j : Int) < (F.length : Int) := by omega
                    obtain ⟨y, hy⟩ : ∃ y, F.getD j default = y := ⟨_, rfl⟩
                    have hcj := HC.out j (by omega)
                    rw [hy] at hcj
                    have e0 : wr.cell? ⟨b, off + j * 2, none⟩ = some (strV y.1) := (hbi.cell (p := ⟨b, off + j * 2, none⟩) hb).trans (hcj 0 _ rfl)
                    have HE := Lib.hid (show ((F.getD j default).1 == nm) = (y.1 == nm) by rw [hy])
                    obtain ⟨ny, ky⟩ := y
                    dsimp only at e0 HE
                    clear hcj hy hbi
                    cases hn : ny == nm
                    · rw [hn] at HE
                      go_wp2_with fail
                      go_quiet (fail)
                      go_wp2_with fail
                      go_roundw
                      case rel => exact ⟨j + 1, by omega, by go_num, blk_below (below_drewN (Below.refl _ _) _) zXi HXi.out, blk_below (below_drewN (Below.refl _ _) _) zYi HYi.out, below_drewN HWi.out _, fun m hm => by
                        by_cases e : m = j
                        · subst e; exact HE.out
                        · exact HAi.out m (by omega)⟩
                      case measure => simp [intOf]; omega
                    · rw [hn] at HE
                      go_wp2_with fail
                      go_quiet (fail)
                      go_wp2_with fail
                      go_ret
                      exact ⟨HYF.out (by rw [HFa.out, any_take_true hjk hk HE.out]; rfl), below_drewN HWi.out _⟩
                  · have hqj : decide ((j : Int) < k) = false := by simp; omega
                    have hjk' : j = k := by omega
                    subst hjk'
                    clear hbi
                    go_wp2_with fail
                    go_roundw
                    case rel => exact ⟨j + 1, by omega, by go_num, HXi.out, HWi.out, fun m hm => by
                      by_cases e : m = j
                      · subst e; rw [HFa.out, any_take_false HAi.out]; rfl
                      · exact HA.out m (by omega)⟩
                    case measure => simp [intOf]; omega
              · have k4' : decide (4 < kd) = true := by simp; omega
                have HFa := Lib.hid (show fieldAtB F k = false by rw [HFa.out]; simp [k4])
                go_wp2_with fail
                go_ret
                exact ⟨HYF.out HFa.out, HW.out.alloc HW.out.size _⟩
            · have k1' : decide (kd < 1) = true := by simp; omega
              have HFa := Lib.hid (show fieldAtB F k = false by rw [HFa.out]; simp [k1])
              go_wp2_with fail
              go_ret
              exact ⟨HYF.out HFa.out, HW.out.alloc HW.out.size _⟩
        · have hq : decide ((k : Int) < F.length) = false := by simp; omega
          clear hbw
          go_wp2_with fail
          refine (rncheck_any Any1 vt vn vs r _ (H2.out.below HW.out)).mono ?_
          obtain ⟨c, hc⟩ : ∃ c, checkR r = c := ⟨_, rfl⟩
          rw [hc]
          have HCc := Lib.hid hc; clear hc
          rintro e w3 ⟨rfl, hb3⟩
          have HW3 := Lib.hid (HW.out.trans (hb3.mono HW.out.size))
          clear hb3
          go_wp2_with fail
          go_ret
          exact ⟨HF.out c (by unfold checkS; rw [if_neg HN.out, if_pos (by rw [fieldsB]; exact all_true fun j hj => HA.out j (by have hj' : j < F.length := hj; omega))]; exact HCc.out), HW3.out⟩
end
section
set_option maxRecDepth 100000
open Go.RowKit
attribute [local go_sem] toList_mk mk_size bytes_append
@[local go_sem] theorem get_zero4 (c : UInt8) (l : List UInt8) (h : 0 < (⟨(c :: l).toArray⟩ : ByteArray).size) : (⟨(c :: l).toArray⟩ : ByteArray)[0]'h = c := rfl
@[local go_sem] theorem get_one4 (c d : UInt8) (l : List UInt8) (h : 1 < (⟨(c :: d :: l).toArray⟩ : ByteArray).size) : (⟨(c :: d :: l).toArray⟩ : ByteArray)[1]'h = d := rfl
set_option maxHeartbeats 400000 in
theorem rnumeral_any (l : List UInt8) (w : World) :
    Calls Tryz.prog 193 #[strV l] w fun e w' => e = .returned (.bool (numB l)) ∧ w = w' := by
  cases l with
  | nil =>
    go_enter Tryz.func193, Tryz.ntmps193
    go_wp2
    go_ret
    exact ⟨rfl, rfl⟩
  | cons c l =>
    have HD := Lib.hid (dig_iff c)
    by_cases h1 : 48 ≤ (c.toNat : Int) <;> by_cases h2 : (c.toNat : Int) ≤ 57
    all_goals
      go_enter Tryz.func193, Tryz.ntmps193
      go_wp2
      go_ret
      exact ⟨ret_bool (by rw [show numB (c :: l) = isDgt c from rfl, HD.out]; simp; try omega), rfl⟩
theorem short_stop {c : UInt8} {l : List UInt8} (h : numB (c :: l) = true) (hs : c ≠ 48 ∨ numB l = false) : shortL (c :: l) = c :: l := by
  by_cases hc : c = 48
  · subst hc
    have hn : numB l = false := hs.resolve_left (fun h => h rfl)
    have hd : l.dropWhile (· == 48) = l := by
      cases l with
      | nil => rfl
      | cons d r =>
        rw [List.dropWhile_cons, if_neg]
        intro e
        have : d = 48 := by simpa using e
        subst this
        have h48 : numB (48 :: r) = true := rfl
        rw [h48] at hn; cases hn
    unfold shortL
    rw [show (48 :: l).dropWhile (· == 48) = l.dropWhile (· == 48) from rfl, hd, if_neg (by rw [hn]; simp)]
  · unfold shortL
    have hd : (c :: l).dropWhile (· == 48) = c :: l := by rw [List.dropWhile_cons, if_neg (by simpa using hc)]
    rw [hd, if_pos h]
theorem short_next {l : List UInt8} : shortL (48 :: l) = shortL l := by
  unfold shortL; rfl
set_option maxHeartbeats 1000000 in
theorem rtrimmed_any (x : List UInt8) (w : World) (hx : numB x = true) (hl : x.length ≤ 1000000) :
    Calls Tryz.prog 222 #[strV x] w fun e w' => e = .returned (strV (shortL x)) ∧ w = w' := by
  have HX := Lib.hid hx; clear hx
  go_enter Tryz.func222, Tryz.ntmps222
  go_wp2_with fail
  go_loop [0] (fun s => ∃ l : List UInt8, s = strV l ∧ l.length ≤ 1000000 ∧ Hid (numB l = true) ∧ Hid (shortL x = shortL l)) (fun s => match s with | .string b => b.size | _ => 0)
  case atStart => exact ⟨x, rfl, hl, HX, Lib.hid rfl⟩
  case round =>
    obtain ⟨l, rfl, hlen, HN, HS⟩ := hrel
    cases l with
    | nil => exact absurd HN.out (by decide)
    | cons c l =>
      cases l with
      | nil =>
        have hfin : shortL x = [c] := by rw [HS.out]; exact short_stop HN.out (.inr rfl)
        have HF := Lib.hid hfin; clear hfin
        go_wp2_with fail
        go_ret
        exact ⟨by show Ending.returned (strV [c]) = _; rw [HF.out], rfl⟩
      | cons d r =>
        have hb := c.toNat_lt
        have hb2 := d.toNat_lt
        have hl2 : 1 < (c :: d :: r).length := by simp
        by_cases hc : c = 48
        · have e1 : ((c.toNat : Int) == 48) = true := by rw [hc]; rfl
          cases hd : isDgt d
          · have hfin : shortL x = c :: d :: r := by rw [HS.out]; exact short_stop HN.out (.inr hd)
            have HF := Lib.hid hfin; clear hfin
            rw [dig_iff, decide_eq_false_iff_not] at hd
            have hcd : (48 ≤ (d.toNat : Int) ∧ 57 < (d.toNat : Int)) ∨ (d.toNat : Int) < 48 := by omega
            clear hd hc
            rcases hcd with ⟨g1, g2⟩ | g1
            all_goals
              go_wp2_with fail
              go_ret
              exact ⟨by show Ending.returned (strV (c :: d :: r)) = _; rw [HF.out], rfl⟩
          · have HN2 := Lib.hid (show numB (d :: r) = true from hd)
            have HS2 := Lib.hid (show shortL x = shortL (d :: r) by rw [HS.out, hc]; exact short_next)
            rw [dig_iff, decide_eq_true_iff] at hd
            obtain ⟨g1, g2⟩ := hd
            have hext : (⟨(c :: d :: r).toArray⟩ : ByteArray).extract 1 (r.length + 1 + 1) = ⟨(d :: r).toArray⟩ := by
              have := ext_mk (c :: d :: r) 1 (r.length + 1 + 1) (by simp)
              unfold mkS at this
              rw [this, List.take_of_length_le (by simp)]; rfl
            clear hc
            go_wp2_with fail
            go_round
            case rel => exact ⟨d :: r, rfl, by simp at hlen ⊢; omega, HN2, HS2⟩
            case measure => simp [mk_size]
        · have e1 : ((c.toNat : Int) == 48) = false := by
            simp only [beq_eq_false_iff_ne, ne_eq]; intro e; apply hc; rw [← UInt8.toNat_inj]; simp; omega
          have hfin : shortL x = c :: d :: r := by rw [HS.out]; exact short_stop HN.out (.inl hc)
          have HF := Lib.hid hfin; clear hfin hc
          go_wp2_with fail
          go_ret
          exact ⟨by show Ending.returned (strV (c :: d :: r)) = _; rw [HF.out], rfl⟩
def PartsPost (L : List (List UInt8)) (w : World) (e : Ending) (w' : World) : Prop := ∃ u v, e = .returned (.tuple #[u, v]) ∧ TwoAt w v u (L.filter numB) (L.filter fun x => !numB x) w'
set_option maxHeartbeats 2000000 in
theorem rparts_any (S : Nat → Prop) (v : Value) (L : List (List UInt8)) (w : World) (h : Vec w S 1 encS v L) (hn : L.length ≤ 1000000) :
    Calls Tryz.prog 127 #[v] w (PartsPost L w) := by
  obtain ⟨a, cap, rfl⟩ := h.slice
  have HV := Lib.hid h; clear h
  go_enter Tryz.func127, Tryz.ntmps127
  go_wp2_with fail
  go_loopw [4, 5, 6] (fun n y i wr => ∃ k : Nat, k ≤ L.length ∧ i = .int .i64 k ∧ TwoAt w y n ((L.take k).filter numB) ((L.take k).filter fun x => !numB x) wr) (fun _ _ i _ => L.length - (intOf i).toNat)
  case atStart => exact ⟨0, by omega, rfl, TwoAt.start w⟩
  case round =>
    obtain ⟨k, hk, rfl, ho⟩ := hrel
    have HO := Lib.hid ho; clear ho
    by_cases hlt : k < L.length
    · have hq : decide ((k : Int) < L.length) = true := by simp; omega
      have hi : (k : Int) < (L.length : Int) := by omega
      obtain ⟨b, off, rfl, _, hb, hcx⟩ := vec_cell1 HV.out (by omega)
      have htk := take_snocT L k hlt
      have hcx' := hcx k hlt
      obtain ⟨x, hx⟩ : ∃ x, L.getD k [] = x := ⟨_, rfl⟩
      rw [hx] at htk hcx'
      have c1 : wr.cell? ⟨b, off + k, none⟩ = some (strV x) := (HO.out.2.2.2.cell (p := ⟨b, off + k, none⟩) hb).trans hcx'
      have HT := Lib.hid htk
      have l1 : ((L.take k).filter numB).length < 1099511627776 := by have := List.length_filter_le numB (L.take k); have := List.length_take_le k L; omega
      have l2 : ((L.take k).filter fun x => !numB x).length < 1099511627776 := by have := List.length_filter_le (fun x => !numB x) (L.take k); have := List.length_take_le k L; omega
      have hbz : w.heap.size ≤ wr.heap.size := HO.out.2.2.2.size
      clear hx htk hcx hcx'
      go_wp2_with fail
      refine (rnumeral_any x _).mono ?_
      rintro e w' ⟨rfl, rfl⟩
      cases hd : numB x
      · have F1 := Lib.hid (filter_snoc_no (p := numB) (L.take k) x hd)
        have F2 := Lib.hid (filter_snoc_yes (p := fun x => !numB x) (L.take k) x (by simp [hd]))
        clear hd
        go_wp2_with (at_builtin; refine wpList_append_newat rfl _ _ 27 rfl w.heap.size 9 1 16 (.string ⟨#[]⟩) Tryz.underlying27 infoS rfl (by decide) (by decide) _ _ _ rfl HO.out.2.1 #[strV x] 1 rfl rfl (by simp [Value.oneCell']) l2 hbz ?_; intro v2 w8 ho8 hg8 hat8 hw8)
        go_roundw
        case rel => exact ⟨k + 1, by omega, by go_num, by rw [HT.out, F1.out, F2.out]; exact (HO.out.swap.put ho8 hg8 hat8 hw8).swap⟩
        case measure => simp [intOf]; omega
      · have F1 := Lib.hid (filter_snoc_yes (p := numB) (L.take k) x hd)
        have F2 := Lib.hid (filter_snoc_no (p := fun x => !numB x) (L.take k) x (by simp [hd]))
        clear hd
        go_wp2_with (at_builtin; refine wpList_append_newat rfl _ _ 27 rfl w.heap.size 9 1 16 (.string ⟨#[]⟩) Tryz.underlying27 infoS rfl (by decide) (by decide) _ _ _ rfl HO.out.1 #[strV x] 1 rfl rfl (by simp [Value.oneCell']) l1 hbz ?_; intro v2 w8 ho8 hg8 hat8 hw8)
        go_roundw
        case rel => exact ⟨k + 1, by omega, by go_num, by rw [HT.out, F1.out, F2.out]; exact HO.out.put ho8 hg8 hat8 hw8⟩
        case measure => simp [intOf]; omega
    · have hq : decide ((k : Int) < L.length) = false := by simp; omega
      rw [List.take_of_length_le (by omega)] at HO
      go_wp2_with fail
      go_ret2
      exact ⟨_, _, rfl, HO.out⟩
end
section
set_option maxRecDepth 100000
open Go.RowKit
attribute [local go_sem] toList_mk mk_size bytes_append
def noSp (l : List UInt8) : List UInt8 := l.filter (· != 32)
theorem flat_noSp (l : List UInt8) : ∀ p, (toksA p l).flatten = p ++ noSp l := by
  induction l with
  | nil =>
    intro p
    by_cases hp : p = []
    · subst hp; simp [toksA, noSp]
    · rw [toksA_end _ hp]; simp [noSp]
  | cons c l ih =>
    intro p
    by_cases hc : c = 32
    · subst hc
      have e : noSp (32 :: l) = noSp l := by simp [noSp]
      by_cases hp : p = []
      · subst hp; rw [toksA_sp0, ih, e]
      · rw [toksA_sp _ _ hp, List.flatten_cons, ih, e]; simp
    · have e : noSp (c :: l) = c :: noSp l := by simp [noSp, hc]
      rw [toksA_ch _ _ _ hc, ih, e]; simp
theorem noSp_snoc (l : List UInt8) (c : UInt8) : noSp (l ++ [c]) = if c = 32 then noSp l else noSp l ++ [c] := by
  unfold noSp
  by_cases h : c = 32 <;> simp [List.filter_append, h]
set_option maxHeartbeats 2000000 in
theorem rcode_yes (s : ByteArray) (w : World) (hv : foldV s.data.toList = true) :
    Calls Tryz.prog 175 #[.string s] w fun e w' => e = .returned (pairV (codeN s.data.toList)) ∧ Below w.heap.size w w' := by
  have hfl := fold_len s.data.toList
  have h64 := foldV_len hv
  have hcode : codeN s.data.toList = if 12 < (noSp (foldL s.data.toList)).length then ([], 1) else (noSp (foldL s.data.toList), 0) := by
    unfold codeN toks
    rw [if_pos hv, flat_noSp]; rfl
  have HV := Lib.hid hv
  obtain ⟨fl, hfl'⟩ : ∃ fl, foldL s.data.toList = fl := ⟨_, rfl⟩
  have hc := rfold_yes s w hv
  rw [hfl'] at hfl hcode hc
  have HC := Lib.hid hc; have HCode := Lib.hid hcode
  have hl : fl.length ≤ 64 := by omega
  clear hv hfl' hcode hc hfl h64
  go_enter Tryz.func175, Tryz.ntmps175
  go_wp2_with fail
  refine HC.out.mono ?_
  rintro e w1 ⟨rfl, hb1⟩
  have HB1 := Lib.hid hb1; clear hb1 HC
  obtain ⟨sf, hsf⟩ : ∃ sf : ByteArray, (⟨fl.toArray⟩ : ByteArray) = sf := ⟨_, rfl⟩
  have hsl : sf.data.toList = fl := by rw [← hsf]
  have hss : sf.size = fl.length := by rw [← hsf]; exact mk_size fl
  rw [show strV fl = .string sf by rw [← hsf]]
  have HSL := Lib.hid hsl; have HSS := Lib.hid hss
  have hsb : sf.size ≤ 64 := by omega
  clear hsf hsl hss hl
  go_wp2_with fail
  go_loop [6, 7] (fun o i => ∃ k : Nat, k ≤ sf.size ∧ i = .int .i64 k ∧ o = strV (noSp (fl.take k))) (fun _ i => sf.size - (intOf i).toNat)
  case atStart => exact ⟨0, by omega, rfl, rfl⟩
  case round =>
    obtain ⟨k, hk, rfl, rfl⟩ := hrel
    have hol : (noSp (fl.take k)).length ≤ 64 := by
      have := List.length_filter_le (fun c : UInt8 => c != 32) (fl.take k)
      have := List.length_take_le k fl
      unfold noSp; omega
    by_cases hlt : k < sf.size
    · have hq : decide ((k : Int) < sf.size) = true := by simp; omega
      have hb := sf[k].toNat_lt
      have hts := take_snoc' sf k hlt
      rw [HSL.out] at hts
      have hns := noSp_snoc (fl.take k) sf[k]
      rw [← hts] at hns
      have HNs := Lib.hid hns
      clear hts hns
      by_cases hsp : sf[k] = 32
      · have e1 : ((sf[k].toNat : Int) != 32) = false := by rw [hsp]; rfl
        have HSp := Lib.hid hsp; clear hsp
        go_wp2_with fail
        go_round
        case rel => exact ⟨k + 1, by omega, by go_num, by rw [HNs.out, if_pos HSp.out]⟩
        case measure => simp [intOf]; omega
      · have e1 : ((sf[k].toNat : Int) != 32) = true := by
          simp only [bne_iff_ne, ne_eq]; intro e; apply hsp; rw [← UInt8.toNat_inj]; simp; omega
        have hext := ext_one sf k hlt
        have HSp := Lib.hid hsp; clear hsp
        go_wp2_with fail
        go_round
        case rel => exact ⟨k + 1, by omega, by go_num, by rw [HNs.out, if_neg HSp.out]⟩
        case measure => simp [intOf]; omega
    · have hq : decide ((k : Int) < sf.size) = false := by simp; omega
      have htk : fl.take k = fl := List.take_of_length_le (by rw [← HSS.out]; omega)
      rw [htk] at hol ⊢
      obtain ⟨O, hO⟩ : ∃ O, noSp fl = O := ⟨_, rfl⟩
      rw [hO] at hol HCode ⊢
      clear htk hO
      by_cases g : 12 < O.length
      · have d1 : decide ((12 : Int) < O.length) = true := by simp; omega
        have HF := Lib.hid (show codeN s.data.toList = ([], 1) by rw [HCode.out, if_pos g])
        clear g
        go_wp2_with fail
        go_ret2
        exact ⟨by rw [HF.out]; rfl, HB1.out⟩
      · have d1 : decide ((12 : Int) < O.length) = false := by simp; omega
        have HF := Lib.hid (show codeN s.data.toList = (O, 0) by rw [HCode.out, if_neg g])
        clear g
        go_wp2_with fail
        go_ret2
        exact ⟨by rw [HF.out]; rfl, HB1.out⟩
set_option maxHeartbeats 400000 in
theorem rcode_no (s : ByteArray) (w : World) (hs : s.size ≤ 9223372036854775000) (hv : foldV s.data.toList = false) :
    Calls Tryz.prog 175 #[.string s] w fun e w' => e = .returned (pairV (codeN s.data.toList)) ∧ Below w.heap.size w w' := by
  have HF := Lib.hid (show codeN s.data.toList = ([], 3) by unfold codeN; rw [if_neg (by rw [hv]; simp)])
  have HV := Lib.hid hv; clear hv
  go_enter Tryz.func175, Tryz.ntmps175
  go_wp2_with fail
  refine (rfold_no s _ hs HV.out).mono ?_
  rintro e w1 ⟨rfl, hb1⟩
  have HB1 := Lib.hid hb1; clear hb1
  go_wp2_with fail
  go_ret2
  exact ⟨by rw [HF.out]; rfl, HB1.out⟩
theorem rcode_any (s : ByteArray) (w : World) (hs : s.size ≤ 9223372036854775000) :
    Calls Tryz.prog 175 #[.string s] w fun e w' => e = .returned (pairV (codeN s.data.toList)) ∧ Below w.heap.size w w' := by
  cases hv : foldV s.data.toList with
  | true => exact rcode_yes s w hv
  | false => exact rcode_no s w hs hv
set_option maxHeartbeats 1000000 in
theorem rnormed_any (s : ByteArray) (w : World) (hs : s.size ≤ 9223372036854775000) :
    Calls Tryz.prog 182 #[.string s] w fun e w' => e = .returned (.bool (isOwn (codeN s.data.toList) s.data.toList)) ∧ Below w.heap.size w w' := by
  have HS := Lib.hid (Lib.toList_data s)
  go_enter Tryz.func182, Tryz.ntmps182
  go_wp2_with fail
  refine (rcode_any s _ hs).mono ?_
  obtain ⟨p, hp⟩ : ∃ p, codeN s.data.toList = p := ⟨_, rfl⟩
  rw [hp]
  have HP := Lib.hid hp; clear hp
  obtain ⟨pl, pe⟩ := p
  unfold pairV
  rintro e w1 ⟨rfl, hb1⟩
  have HB1 := Lib.hid hb1; clear hb1
  cases he : (pe == 0)
  all_goals
    go_wp2_with fail
    go_ret
    refine ⟨ret_bool ?_, HB1.out⟩
    rw [HP.out]
    simp [isOwn, he, HS.out]
end
section
set_option maxRecDepth 100000
open Go.RowKit
attribute [local go_sem] toList_mk mk_size bytes_append
theorem flat_setS (L : List (List UInt8)) (y : List UInt8) : ∀ k, (L.set k y).flatMap encS = (L.flatMap encS).set k (strV y) := by
  induction L with
  | nil => intro k; rfl
  | cons a L ih =>
    intro k
    cases k with
    | zero => rfl
    | succ k =>
      rw [List.set_cons_succ, List.flatMap_cons, List.flatMap_cons, ih]
      rfl
theorem TwoAt.store {w wr : World} {v : Value} {Y N : List (List UInt8)} {g c : Nat} (h : TwoAt w v (.slice (some ⟨g, 0, none⟩) N.length c) Y N wr) (k : Nat) (y : List UInt8) : TwoAt w v (.slice (some ⟨g, 0, none⟩) N.length c) Y (N.set k y) (wr.setCell ⟨g, k, none⟩ (strV y)) := by
  obtain ⟨h1, h2, h3, h4⟩ := h
  obtain ⟨s1, s2⟩ := h2.stored k (strV y)
  refine ⟨own_kept h1 s2 (fun q hq e => ?_), by rw [List.length_set, flat_setS]; exact s1, h3, h4.setCell (h2.lt g rfl).1 _⟩
  have := h3 q hq
  exact this (by rw [← e]; rfl)
theorem own_ptr {w : World} {B e size n c : Nat} {a : Option Addr} {xs : List Value} (h : w.ownsRow B e size (.slice a n c) n xs) (hn : 0 < n) : ∃ g, a = some ⟨g, 0, none⟩ ∧ B ≤ g ∧ g < w.heap.size := by
  rcases h.2 with ⟨_, h0⟩ | ⟨g, cap, cur, hv, hg, hh, _⟩
  · omega
  · cases hv; exact ⟨g, rfl, hg, lt_of_blk hh⟩
theorem flat_cell (L : List (List UInt8)) (k : Nat) (h : k < L.length) : (L.flatMap encS)[k]? = some (strV (L.getD k [])) := flat_get1 L k h
theorem parts_len (T : List (List UInt8)) : (T.filter fun x => !numB x).length + (T.filter numB).length = T.length := by
  induction T with
  | nil => rfl
  | cons x T ih => cases hx : numB x <;> simp [List.filter_cons, hx] <;> omega
theorem addr_num {r : RulesL} (h : pairsB r.streets = true) (x : List UInt8) : numB (addrTok r x) = numB x := by
  by_cases hn : numB x = true
  · have e : addrTok r x = shortL x := by unfold addrTok; rw [if_pos hn]
    rw [e, hn]; exact short_num x
  · have e : addrTok r x = canonL r.streets x := by unfold addrTok; rw [if_neg hn]
    rw [e]
    rcases canon_cases h x with hs | ⟨k, hk, e1, e2, e3⟩
    · rw [hs]
    · rw [low_not_num (token_low e2).2]; simpa using hn
theorem order_parts {r : RulesL} (h : pairsB r.streets = true) (T : List (List UInt8)) : order2 (T.map (addrTok r)) = (T.filter fun x => !numB x).map (canonL r.streets) ++ (T.filter numB).map shortL := by
  unfold order2
  congr 1
  · induction T with
    | nil => rfl
    | cons x T ih =>
      cases hx : numB x
      · simp only [List.map_cons, List.filter_cons, addr_num h, hx, Bool.not_false, if_true, ih]
        congr 1
        unfold addrTok; rw [hx]; simp
      · simp only [List.map_cons, List.filter_cons, addr_num h, hx, Bool.not_true, Bool.false_eq_true, if_false, ih]
  · induction T with
    | nil => rfl
    | cons x T ih =>
      cases hx : numB x
      · simp only [List.map_cons, List.filter_cons, addr_num h, hx, Bool.false_eq_true, if_false, ih]
      · simp only [List.map_cons, List.filter_cons, addr_num h, hx, if_true, ih]
        congr 1
        unfold addrTok; rw [hx]; simp
set_option maxHeartbeats 8000000 in
theorem raddr_yes (S : Nat → Prop) (vt vn vs : Value) (r : RulesL) (s : ByteArray) (w : World) (h : RulesAt w S vt vn vs r) (hc : checkR r = 0) (hv : foldV s.data.toList = true) :
    Calls Tryz.prog 176 #[.agg #[vt, vn, vs], .string s] w fun e w' => e = .returned (pairV (addrN r s.data.toList)) ∧ Below w.heap.size w w' := by
  obtain ⟨⟨k1, k2, k3⟩, g1, g2, g3, g4⟩ := check_zero hc
  have hfl := fold_len s.data.toList
  have h64 := foldV_len hv
  obtain ⟨avs, cvs, rfl⟩ := h.2.2.slice
  have G3 := Lib.hid g3
  have HR := Lib.hid h.any
  have HC := Lib.hid hc; have HV := Lib.hid hv
  have hfin : addrN r s.data.toList = (if 6 < (toks (foldL s.data.toList)).length ∨ 64 < (joinL (order2 ((toks (foldL s.data.toList)).map (addrTok r)))).length then ([], 1) else (joinL (order2 ((toks (foldL s.data.toList)).map (addrTok r))), 0)) := by
    unfold addrN; rw [if_pos HC.out, if_pos HV.out]
  have HF := Lib.hid hfin
  clear h hc hv g1 g2 g3 g4 hfin
  go_enter Tryz.func176, Tryz.ntmps176
  go_wp2_with fail
  refine (rncheck_any Any1 vt vn _ r _ (HR.out.below ((Below.refl _ _).alloc (Nat.le_refl _) _))).mono ?_
  rw [HC.out]
  rintro e w1 ⟨rfl, hb1⟩
  have HX1 := Lib.hid (show w1.heap[w.heap.size]? = some (.cells #[vt, vn, .slice avs r.streets.length cvs] 41 (0, 0)) from blk_below hb1 (by simp) (blk_new rfl))
  have HB1 := Lib.hid (((Below.refl w.heap.size w).alloc (Nat.le_refl _) _).trans (hb1.mono (by simp)))
  clear hb1
  go_wp2_with fail
  refine (rfold_yes s _ HV.out).mono ?_
  rintro e w2 ⟨rfl, hb2⟩
  have HX2 := Lib.hid (blk_below hb2 (lt_of_blk HX1.out) HX1.out)
  have HB2 := Lib.hid (HB1.out.trans (hb2.mono HB1.out.size))
  clear hb2 HX1 HB1
  obtain ⟨fl, hfl'⟩ : ∃ fl, foldL s.data.toList = fl := ⟨_, rfl⟩
  rw [hfl'] at hfl HF ⊢
  clear hfl'
  go_wp2_with fail
  refine (rtokens_any ⟨fl.toArray⟩ _ (by rw [mk_size]; omega)).mono ?_
  rw [show (⟨fl.toArray⟩ : ByteArray).data.toList = fl by simp]
  rintro e w3 ⟨v3, rfl, ho⟩
  obtain ⟨hT1, hT2⟩ := toks_len fl (by omega)
  obtain ⟨T, hT⟩ : ∃ T, toks fl = T := ⟨_, rfl⟩
  rw [hT] at ho hT1 hT2 HF
  have HX3 := Lib.hid (blk_below ho.2 (lt_of_blk HX2.out) HX2.out)
  have HB3 := Lib.hid (HB2.out.trans (ho.2.mono HB2.out.size))
  have HV3 := Lib.hid (Vec.owns (S := Any1) (k := 1) (enc := encS) (fun _ => rfl) ho.1 (fun _ _ _ => trivial))
  have HT2 := Lib.hid hT2
  clear ho hT hT2 HX2 HB2
  go_wp2_with fail
  refine (rparts_any Any1 _ T _ HV3.out (by omega)).mono ?_
  rintro e w4 ⟨u, v, rfl, ht⟩
  have hO := List.length_filter_le (fun x => !numB x) T
  have hN := List.length_filter_le numB T
  have hnum : ∀ x ∈ T.filter numB, numB x = true := fun x hx => (List.mem_filter.1 hx).2
  have hnl : ∀ x ∈ T.filter numB, x.length ≤ 64 := fun x hx => HT2.out x (List.mem_filter.1 hx).1
  have hol : ∀ x ∈ T.filter (fun x => !numB x), x.length ≤ 64 := fun x hx => HT2.out x (List.mem_filter.1 hx).1
  have hord := order_parts G3.out T
  have hsum := parts_len T
  rw [hord] at HF
  obtain ⟨O, hOe⟩ : ∃ O, (T.filter fun x => !numB x) = O := ⟨_, rfl⟩
  obtain ⟨N, hNe⟩ : ∃ N, T.filter numB = N := ⟨_, rfl⟩
  rw [hOe] at ht hO hol HF hsum
  rw [hNe] at ht hN hnum hnl HF hsum
  have HSum := Lib.hid hsum; clear hsum
  obtain ⟨au, cu, rfl⟩ := own_slice ht.2.1
  obtain ⟨av, cv, rfl⟩ := own_slice ht.1
  have HT := Lib.hid ht; have HNum := Lib.hid hnum; have HNl := Lib.hid hnl; have HOl := Lib.hid hol
  have z3 := lt_of_blk HX3.out
  clear ht hnum hnl hol hord hOe hNe HV3
  go_wp2_with fail
  go_loopw [11] (fun i wr => ∃ k : Nat, k ≤ O.length ∧ i = .int .i64 k ∧ TwoAt w3 (.slice av N.length cv) (.slice au O.length cu) N (midL (canonL r.streets) O k) wr) (fun i _ => O.length - (intOf i).toNat)
  case atStart => exact ⟨0, by omega, rfl, by simpa [midL] using HT.out⟩
  case round =>
    obtain ⟨k, hk, rfl, ht⟩ := hrel
    have HW := Lib.hid ht.2.2.2
    have HTk := Lib.hid ht
    have HXk := Lib.hid (blk_below ht.2.2.2 z3 HX3.out)
    have zk := lt_of_blk HXk.out
    obtain ⟨p0, p1, p2⟩ := cells3 HXk.out
    clear ht
    by_cases hlt : k < O.length
    · have hq : decide ((k : Int) < O.length) = true := by simp; omega
      have hi : (k : Int) < (O.length : Int) := by omega
      have hml : (midL (canonL r.streets) O k).length = O.length := mid_len _ _ _ hk
      have hown := HTk.out.2.1
      rw [hml] at hown
      obtain ⟨g, rfl, hg1, hg2⟩ := own_ptr hown (by omega)
      have c1 := hown.cellAt k (by omega)
      rw [flat_cell _ k (by omega), mid_get _ _ _ hlt] at c1
      have f1 := hown.frozenAt k
      have hset := mid_set (canonL r.streets) O k hlt _ rfl
      obtain ⟨x, hx⟩ : ∃ x, O.getD k [] = x := ⟨_, rfl⟩
      rw [hx] at c1 hset
      have HSet := Lib.hid hset
      have hK := Lib.hid (fun (W : World) (hW : Below wr.heap.size wr W) => rreplace_any Any1 (.slice avs r.streets.length cvs) r.streets x W (HR.out.2.2.below (HB3.out.trans ((HW.out.trans (hW.mono HW.out.size)).mono HB3.out.size))) (by omega))
      have hst := HTk.out
      rw [← hml] at hst
      have HSt := Lib.hid hst
      have hne : w.heap.size ≠ g := by have := HB3.out.size; omega
      clear hown hset hx hst
      go_wp2_with fail
      go_region_with ((refine (hK.out _ (Below.refl _ _).drew).mono ?_; rintro e w' ⟨rfl, rfl⟩))
      all_goals
        have HN2 := Lib.hid ((HSt.out.store k (canonL r.streets x)).below (Below.refl _ _).drew)
        rw [HSet.out, hml] at HN2
        go_wp2_with fail
        go_roundw
        case rel => exact ⟨k + 1, by omega, by go_num, HN2.out⟩
        case measure => simp [intOf]; omega
    · have hq : decide ((k : Int) < O.length) = false := by simp; omega
      have hmid : midL (canonL r.streets) O k = O.map (canonL r.streets) := by unfold midL; rw [List.take_of_length_le (by omega), List.drop_eq_nil_of_le (by omega), List.append_nil]
      rw [hmid] at HTk
      have hml : (O.map (canonL r.streets)).length = O.length := List.length_map _
      have hsmall : ∀ x ∈ O.map (canonL r.streets), x.length ≤ 64 := by
        intro x hx
        obtain ⟨y, hy, rfl⟩ := List.mem_map.1 hx
        exact canon_len G3.out y (HOl.out y hy)
      obtain ⟨O2, hO2⟩ : ∃ O2, O.map (canonL r.streets) = O2 := ⟨_, rfl⟩
      rw [hO2] at HTk hml hsmall HF
      have HSm := Lib.hid hsmall
      obtain ⟨wo, rfl⟩ : ∃ wo : World, wo = wr := ⟨_, rfl⟩
      clear hmid hO2 hsmall
      go_wp2_with fail
      go_loopw [12] (fun i wr => ∃ k : Nat, k ≤ N.length ∧ i = .int .i64 k ∧ TwoAt w3 (.slice av N.length cv) (.slice au O.length cu) (midL shortL N k) O2 wr) (fun i _ => N.length - (intOf i).toNat)
      case atStart => exact ⟨0, by omega, rfl, by simpa [midL] using HTk.out⟩
      case round =>
        obtain ⟨k, hk2, rfl, ht⟩ := hrel
        have HW2 := Lib.hid ht.2.2.2
        have HTj := Lib.hid ht
        clear ht
        by_cases hlt2 : k < N.length
        · have hq2 : decide ((k : Int) < N.length) = true := by simp; omega
          have hi : (k : Int) < (N.length : Int) := by omega
          have hml2 : (midL shortL N k).length = N.length := mid_len _ _ _ hk2
          have hown := HTj.out.1
          rw [hml2] at hown
          obtain ⟨g, rfl, hg1, hg2⟩ := own_ptr hown (by omega)
          have c1 := hown.cellAt k (by omega)
          rw [flat_cell _ k (by omega), mid_get _ _ _ hlt2] at c1
          have f1 := hown.frozenAt k
          have hset := mid_set shortL N k hlt2 _ rfl
          have hmem : N.getD k [] ∈ N := by rw [List.getD, List.getElem?_eq_getElem hlt2]; exact List.getElem_mem hlt2
          obtain ⟨x, hx⟩ : ∃ x, N.getD k [] = x := ⟨_, rfl⟩
          rw [hx] at c1 hset hmem
          have HSet := Lib.hid hset
          have hst := HTj.out.swap
          rw [← hml2] at hst
          have HSt := Lib.hid hst
          have HK := Lib.hid (fun W => rtrimmed_any x W (HNum.out x hmem) (by have := HNl.out x hmem; omega))
          clear hown hset hx hst hmem
          go_wp2_with fail
          refine (HK.out _).mono ?_
          rintro e w' ⟨rfl, rfl⟩
          have HN2 := Lib.hid ((HSt.out.store k (shortL x)).swap)
          rw [HSet.out, hml2] at HN2
          go_wp2_with fail
          go_roundw
          case rel => exact ⟨k + 1, by omega, by go_num, HN2.out⟩
          case measure => simp [intOf]; omega
        · have hq2 : decide ((k : Int) < N.length) = false := by simp; omega
          have hmid : midL shortL N k = N.map shortL := by unfold midL; rw [List.take_of_length_le (by omega), List.drop_eq_nil_of_le (by omega), List.append_nil]
          rw [hmid] at HTj
          have hml2 : (N.map shortL).length = N.length := List.length_map _
          have hsmall2 : ∀ x ∈ N.map shortL, x.length ≤ 65 := by
            intro x hx
            obtain ⟨y, hy, rfl⟩ := List.mem_map.1 hx
            have := short_len y; have := HNl.out y hy; omega
          obtain ⟨N2, hN2⟩ : ∃ N2, N.map shortL = N2 := ⟨_, rfl⟩
          rw [hN2] at HTj hml2 hsmall2 HF
          have HSm2 := Lib.hid hsmall2
          have ho1 := HTj.out.2.1
          have ho2 := HTj.out.1
          rw [hml] at ho1
          rw [hml2] at ho2
          have HO1 := Lib.hid ho1; have HO2 := Lib.hid ho2
          have hjl := join_le (m := 65) (O2 ++ N2) (fun x hx => by
            rcases List.mem_append.1 hx with hx | hx
            · have := HSm.out x hx; omega
            · have := HSm2.out x hx; omega)
          clear hmid hN2 hsmall2 ho1 ho2
          obtain ⟨i0, hi, hz0, hz1, hz2⟩ := info_parts infoS
          have hlenJ : (O2 ++ N2).length = O.length + N.length := by rw [List.length_append, hml, hml2]
          have hTJ : T.length = (O2 ++ N2).length := by rw [hlenJ]; exact HSum.out.symm
          rw [hTJ] at HF
          have HLJ := Lib.hid hlenJ
          have hJ65 : (O2 ++ N2).length ≤ 65 := by omega
          have hJl : (joinL (O2 ++ N2)).length ≤ 1000000 := by
            have : (O2 ++ N2).length * 66 ≤ 65 * 66 := Nat.mul_le_mul_right 66 hJ65
            omega
          have HHi := Lib.hid hi; have HZ0 := Lib.hid hz0; have HZ1 := Lib.hid hz1; have HZ2 := Lib.hid hz2
          have hbz := HW2.out.size
          have hol2 : O.length ≤ 65 := by omega
          have hnl2 : N.length ≤ 65 := by omega
          clear hTJ hlenJ hjl hi hz0 hz1 hz2 hml hml2
          go_upto_region 16 with (fail)
          go_cut [13] (fun s13 wx => ∃ a c, s13 = .slice a (O2 ++ N2).length c ∧ Vec wx Any1 1 encS s13 (O2 ++ N2) ∧ Below w3.heap.size w3 wx)
          case first =>
            rcases HO2.out.2 with ⟨hv, h0⟩ | ⟨g, cap, cur, hv, hg, hh, _⟩
            · obtain rfl : N = [] := List.length_eq_zero_iff.1 h0
              simp only [Value.slice.injEq, List.length_nil, true_and] at hv
              obtain ⟨rfl, rfl⟩ := hv
              have hfin : wr.ownsRow w3.heap.size 9 1 (.slice au O.length cu) (O2 ++ N2).length ((O2 ++ N2).flatMap encS) := by
                have h1 := HO1.out
                have h2 : N2 = [] := by
                  have := HLJ.out
                  have h3 := HO1.out.1
                  rw [flat_len (k := 1) (enc := encS) (fun _ => rfl)] at h3
                  refine List.length_eq_zero_iff.1 ?_
                  simp only [List.length_append, List.length_nil] at this
                  omega
                rw [h2, List.append_nil]
                have h3 := HO1.out.1
                rw [flat_len (k := 1) (enc := encS) (fun _ => rfl)] at h3
                rw [show O2.length = O.length by omega]; exact h1
              have HFin := Lib.hid (Vec.owns (S := Any1) (k := 1) (enc := encS) (fun _ => rfl) hfin (fun _ _ _ => trivial))
              have hlenO : O.length = (O2 ++ N2).length := by have := HLJ.out; simpa using this.symm
              have HLO := Lib.hid hlenO
              clear h0 hfin hlenO
              go_wp2_with (at_builtin; refine wpList_append_own_none rfl _ _ 27 rfl w3.heap.size 9 i0 1 Tryz.underlying27 HHi.out _ _ _ rfl HO1.out rfl ?_)
              go_meet
              exact ⟨au, cu, by rw [← HLO.out], HFin.out, HW2.out⟩
            · simp only [Value.slice.injEq, true_and] at hv
              obtain ⟨rfl, rfl⟩ := hv
              have hcells := HO2.out
              have hl : (N2.flatMap encS).length = N.length * 1 := HO2.out.1
              have hnews : ∀ j u, (N2.flatMap encS)[j]? = some u → wr.cell? ((⟨g, 0, none⟩ : Addr).add j) = some u := fun j u hu => by
                have hj := (List.getElem?_eq_some_iff.1 hu).1
                rw [add_plain, Nat.zero_add, hcells.cellAt j (by omega)]; exact hu
              have hone : ∀ u ∈ N2.flatMap encS, u.oneCell' = true := by
                intro u hu
                obtain ⟨y, _, hy⟩ := List.mem_flatMap.1 hu
                simp at hy; subst hy; rfl
              have HL := Lib.hid hl; have HNews := Lib.hid hnews; have HOne := Lib.hid hone
              clear hcells hl hnews hone hh
              go_wp2_with (at_builtin; refine wpList_append_own _ rfl _ _ 27 rfl w3.heap.size 9 i0 (.string ⟨#[]⟩) 1 16 Tryz.underlying27 HHi.out HZ0.out HZ1.out HZ2.out rfl (by decide) _ _ _ rfl HO1.out ⟨g, 0, none⟩ N.length _ (N2.flatMap encS) rfl HL.out HNews.out HOne.out (by unfold maxLen; omega) (by omega) hbz ?_; intro v' w8 ho8 hg8 _)
              go_meet
              have ho9 := ho8
              rw [← List.flatMap_append, ← HLJ.out] at ho9
              obtain ⟨a9, c9, rfl⟩ := own_slice ho9
              refine ⟨a9, c9, by rw [HLJ.out], ?_, HW2.out.grown hg8 hbz fun q hq => (HO1.out.lt q hq).1⟩
              rw [HLJ.out] at ho9
              exact Vec.owns (S := Any1) (k := 1) (enc := encS) (fun _ => rfl) (by rw [HLJ.out]; exact ho9) (fun _ _ _ => trivial)
          case rest =>
            obtain ⟨aj, cj, rfl, hvj, hbj⟩ := hcut
            have HVj := Lib.hid hvj
            have HBj := Lib.hid (HB3.out.trans (hbj.mono HB3.out.size))
            clear hvj hbj HO1 HO2 HLJ
            obtain ⟨J, hJ⟩ : ∃ J, O2 ++ N2 = J := ⟨_, rfl⟩
            rw [hJ] at HVj HF hJ65 hJl ⊢
            clear hJ
            go_wp2_with fail
            refine (rjoin_any Any1 _ J _ HVj.out (by omega) (by omega)).mono ?_
            rintro e w' ⟨rfl, rfl⟩
            obtain ⟨Q, hQ⟩ : ∃ Q, joinL J = Q := ⟨_, rfl⟩
            rw [hQ] at HF hJl ⊢
            clear hQ
            by_cases g1 : 6 < J.length
            · have d1 : decide ((6 : Int) < J.length) = true := by simp; omega
              rw [if_pos (.inl g1)] at HF
              go_wp2_with fail
              go_ret2
              exact ⟨by rw [HF.out]; rfl, HBj.out⟩
            · have d1 : decide ((6 : Int) < J.length) = false := by simp; omega
              by_cases g2 : 64 < Q.length
              · have d2 : decide ((64 : Int) < Q.length) = true := by simp; omega
                rw [if_pos (.inr g2)] at HF
                go_wp2_with fail
                go_ret2
                exact ⟨by rw [HF.out]; rfl, HBj.out⟩
              · have d2 : decide ((64 : Int) < Q.length) = false := by simp; omega
                rw [if_neg (by omega)] at HF
                go_wp2_with fail
                go_ret2
                exact ⟨by rw [HF.out]; rfl, HBj.out⟩
set_option maxHeartbeats 1000000 in
theorem raddr_no (S : Nat → Prop) (vt vn vs : Value) (r : RulesL) (s : ByteArray) (w : World) (h : RulesAt w S vt vn vs r) (hs : s.size ≤ 9223372036854775000) (hc : checkR r = 0) (hv : foldV s.data.toList = false) :
    Calls Tryz.prog 176 #[.agg #[vt, vn, vs], .string s] w fun e w' => e = .returned (pairV (addrN r s.data.toList)) ∧ Below w.heap.size w w' := by
  have HR := Lib.hid h.any
  have HC := Lib.hid hc; have HV := Lib.hid hv
  clear h hc hv
  have HF := Lib.hid (show addrN r s.data.toList = ([], 3) by unfold addrN; rw [if_pos HC.out, if_neg (by rw [HV.out]; simp)])
  go_enter Tryz.func176, Tryz.ntmps176
  go_wp2_with fail
  refine (rncheck_any Any1 vt vn vs r _ (HR.out.below ((Below.refl _ _).alloc (Nat.le_refl _) _))).mono ?_
  rw [HC.out]
  rintro e w1 ⟨rfl, hb1⟩
  have HB1 := Lib.hid (((Below.refl w.heap.size w).alloc (Nat.le_refl _) _).trans (hb1.mono (by simp)))
  clear hb1
  go_wp2_with fail
  refine (rfold_no s _ hs HV.out).mono ?_
  rintro e w2 ⟨rfl, hb2⟩
  have HB2 := Lib.hid (HB1.out.trans (hb2.mono HB1.out.size))
  clear hb2 HB1
  go_wp2_with fail
  go_ret2
  exact ⟨by rw [HF.out]; rfl, HB2.out⟩
set_option maxHeartbeats 1000000 in
theorem raddr_bad (S : Nat → Prop) (vt vn vs : Value) (r : RulesL) (s : ByteArray) (w : World) (h : RulesAt w S vt vn vs r) (hc : checkR r ≠ 0) :
    Calls Tryz.prog 176 #[.agg #[vt, vn, vs], .string s] w fun e w' => e = .returned (pairV (addrN r s.data.toList)) ∧ Below w.heap.size w w' := by
  have HR := Lib.hid h.any
  have HF := Lib.hid (show addrN r s.data.toList = ([], checkR r) by unfold addrN; rw [if_neg hc])
  have hne : (checkR r != 0) = true := by simpa using hc
  clear h hc
  go_enter Tryz.func176, Tryz.ntmps176
  go_wp2_with fail
  refine (rncheck_any Any1 vt vn vs r _ (HR.out.below ((Below.refl _ _).alloc (Nat.le_refl _) _))).mono ?_
  obtain ⟨c, hcc⟩ : ∃ c, checkR r = c := ⟨_, rfl⟩
  rw [hcc] at hne HF ⊢
  clear hcc
  rintro e w1 ⟨rfl, hb1⟩
  have HB1 := Lib.hid (((Below.refl w.heap.size w).alloc (Nat.le_refl _) _).trans (hb1.mono (by simp)))
  clear hb1
  go_wp2_with fail
  go_ret2
  exact ⟨by rw [HF.out]; rfl, HB1.out⟩
theorem raddr_any (S : Nat → Prop) (vt vn vs : Value) (r : RulesL) (s : ByteArray) (w : World) (h : RulesAt w S vt vn vs r) (hs : s.size ≤ 9223372036854775000) :
    Calls Tryz.prog 176 #[.agg #[vt, vn, vs], .string s] w fun e w' => e = .returned (pairV (addrN r s.data.toList)) ∧ Below w.heap.size w w' := by
  by_cases hc : checkR r = 0
  · cases hv : foldV s.data.toList with
    | true => exact raddr_yes S vt vn vs r s w h hc hv
    | false => exact raddr_no S vt vn vs r s w h hs hc hv
  · exact raddr_bad S vt vn vs r s w h hc
set_option maxHeartbeats 1000000 in
theorem ranormal_any (S : Nat → Prop) (vt vn vs : Value) (r : RulesL) (s : ByteArray) (w : World) (h : RulesAt w S vt vn vs r) (hs : s.size ≤ 9223372036854775000) :
    Calls Tryz.prog 183 #[.agg #[vt, vn, vs], .string s] w fun e w' => e = .returned (.bool (isOwn (addrN r s.data.toList) s.data.toList)) ∧ Below w.heap.size w w' := by
  have HR := Lib.hid h.any; clear h
  have HS := Lib.hid (Lib.toList_data s)
  go_enter Tryz.func183, Tryz.ntmps183
  go_wp2_with fail
  refine (raddr_any Any1 vt vn vs r s _ (HR.out.below ((Below.refl _ _).alloc (Nat.le_refl _) _)) hs).mono ?_
  obtain ⟨p, hp⟩ : ∃ p, addrN r s.data.toList = p := ⟨_, rfl⟩
  rw [hp]
  have HP := Lib.hid hp; clear hp
  obtain ⟨pl, pe⟩ := p
  unfold pairV
  rintro e w1 ⟨rfl, hb1⟩
  have HB1 := Lib.hid (((Below.refl w.heap.size w).alloc (Nat.le_refl _) _).trans (hb1.mono (by simp)))
  clear hb1
  cases he : (pe == 0)
  all_goals
    go_wp2_with fail
    go_ret
    refine ⟨ret_bool ?_, HB1.out⟩
    rw [HP.out]
    simp [isOwn, he, HS.out]
end
section
open Go.RowKit Cal
set_option maxHeartbeats 1000000 in
theorem rlen_any (y m : Int) (w : World) (h : 0 ≤ y) (h1 : 1 ≤ m) (h2 : m ≤ 12) :
    Calls Tryz.prog 254 #[.int .i64 y, .int .i64 m] w fun e w' => e = .returned (.int .i64 (dim y m)) ∧ w = w' := by
  go_enter Tryz.func254, Tryz.ntmps254
  go_wp2
  all_goals go_ret
  all_goals refine ⟨ret_int ?_, rfl⟩
  all_goals simp only [beq_iff_eq, beq_eq_false_iff_ne, ne_eq, bne_iff_ne] at *
  all_goals simp [dim, leapB, *]
set_option maxHeartbeats 1000000 in
theorem rvalid_no (y m d : Int) (w : World) (hv : vldB y m d = false) :
    Calls Tryz.prog 224 #[.agg #[.int .i64 y, .int .i64 m, .int .i64 d]] w fun e w' => e = .returned (.bool false) ∧ Below w.heap.size w w' := by
  have hh : decide (1800 ≤ y) = false ∨ (1800 ≤ y ∧ decide (y ≤ 2199) = false) ∨ (1800 ≤ y ∧ y ≤ 2199 ∧ decide (1 ≤ m) = false) ∨ (1800 ≤ y ∧ y ≤ 2199 ∧ 1 ≤ m ∧ decide (m ≤ 12) = false) ∨ (1800 ≤ y ∧ y ≤ 2199 ∧ 1 ≤ m ∧ m ≤ 12 ∧ decide (1 ≤ d) = false) ∨ (1800 ≤ y ∧ y ≤ 2199 ∧ 1 ≤ m ∧ m ≤ 12 ∧ 1 ≤ d ∧ decide (d ≤ dim y m) = false) := by
    have := vld_iff y m d
    rw [hv] at this
    simp at this ⊢
    omega
  clear hv
  rcases hh with h | ⟨_, h⟩ | ⟨_, _, h⟩ | ⟨_, _, _, h⟩ | ⟨_, _, _, _, h⟩ | ⟨_, _, _, _, _, h⟩
  iterate 5
    · go_enter Tryz.func224, Tryz.ntmps224
      go_wp2
      go_quiet (fail)
      go_wp2
      go_ret
      exact ⟨rfl, below_drewN ((Below.refl _ _).alloc (Nat.le_refl _) _) _⟩
  go_enter Tryz.func224, Tryz.ntmps224
  go_wp2
  go_quiet ((go_at_call 254; exact quiet_eq (rlen_any _ _ _ (by omega) (by omega) (by omega))))
  go_wp2
  go_ret
  exact ⟨rfl, below_drewN ((Below.refl _ _).alloc (Nat.le_refl _) _) _⟩
set_option maxHeartbeats 1000000 in
theorem rvalid_yes (y m d : Int) (w : World) (hv : vldB y m d = true) :
    Calls Tryz.prog 224 #[.agg #[.int .i64 y, .int .i64 m, .int .i64 d]] w fun e w' => e = .returned (.bool true) ∧ Below w.heap.size w w' := by
  obtain ⟨h1, h2, h3, h4, h5, h6⟩ := (vld_iff y m d).1 hv
  clear hv
  go_enter Tryz.func224, Tryz.ntmps224
  go_wp2
  go_quiet ((go_at_call 254; exact quiet_eq (rlen_any _ _ _ (by omega) (by omega) (by omega))))
  go_wp2
  go_ret
  exact ⟨rfl, below_drewN ((Below.refl _ _).alloc (Nat.le_refl _) _) _⟩
set_option maxHeartbeats 400000 in
theorem rnumber_any (s : ByteArray) (w : World) (hs : s.size ≤ 4) :
    Calls Tryz.prog 253 #[.string s] w fun e w' => e = .returned (.tuple #[.int .i64 ((numFrom 0 s.data.toList).getD 0), .bool (numFrom 0 s.data.toList).isSome]) ∧ w = w' := by
  go_enter Tryz.func253, Tryz.ntmps253
  go_wp2
  go_loop [4, 5] (fun n i => ∃ (k : Nat) (N : Int), k ≤ s.size ∧ i = .int .i64 k ∧ n = .int .i64 N ∧ numFrom 0 (s.data.toList.take k) = some N ∧ 0 ≤ N ∧ N < 10 ^ k) (fun _ i => s.size - (intOf i).toNat)
  case atStart => exact ⟨0, 0, Nat.zero_le _, rfl, rfl, rfl, by decide, by decide⟩
  case round =>
    obtain ⟨k, N, hk, rfl, rfl, hN, h0, h1⟩ := hrel
    have HN := Lib.hid hN; clear hN
    have hp : (10 : Int) ^ k ≤ 10000 := by
      have : k = 0 ∨ k = 1 ∨ k = 2 ∨ k = 3 ∨ k = 4 := by omega
      rcases this with rfl | rfl | rfl | rfl | rfl <;> decide
    have hN4 : N < 10000 := by omega
    have H1 := Lib.hid h1; clear h1 hp
    by_cases hlt : k < s.size
    · go_wp2
      · go_ret2
        exact ⟨by have := numFrom_bad s k hlt N HN.out (by omega); rw [this]; rfl, rfl⟩
      · have hs := numFrom_snoc s k hlt N HN.out
        rw [if_pos ‹_›] at hs
        have h1 := H1.out
        have e1 : (10 : Int) ^ (k + 1) = 10 ^ k * 10 := by rw [Int.pow_succ]
        go_round
        case rel => exact ⟨k + 1, _, by omega, by go_num, rfl, hs, by omega, by omega⟩
        case measure => simp [intOf]; omega
      · go_ret2
        exact ⟨by have := numFrom_bad s k hlt N HN.out (by omega); rw [this]; rfl, rfl⟩
    · go_wp2
      go_ret2
      obtain rfl : k = s.size := by omega
      exact ⟨by have := HN.out; rw [List.take_of_length_le (by simp)] at this; rw [this]; rfl, rfl⟩
theorem numI_none {l : List UInt8} (h : numFrom 0 l = none) : numI l = -1 := by simp [numI, h]
theorem numI_some {l : List UInt8} {N : Int} (h : numFrom 0 l = some N) : numI l = N := by simp [numI, h]
theorem dateR_no {a b c : List UInt8} (h : vldB (numI a) (numI b) (numI c) = false) : dateL a b c = .tuple #[.agg #[.int .i64 0, .int .i64 0, .int .i64 0], .int .i64 4] := by
  unfold dateL dateR dateV; rw [h]; rfl
theorem dateR_yes {a b c : List UInt8} (h : vldB (numI a) (numI b) (numI c) = true) : dateL a b c = .tuple #[.agg #[.int .i64 (numI a), .int .i64 (numI b), .int .i64 (numI c)], .int .i64 0] := by
  unfold dateL dateR dateV; rw [h]; rfl
set_option maxHeartbeats 2000000 in
theorem rmade_any (a b c : ByteArray) (w : World) (ha : a.size ≤ 4) (hb : b.size ≤ 4) (hc : c.size ≤ 4) :
    Calls Tryz.prog 223 #[.string a, .string b, .string c] w fun e w' => e = .returned (dateR (numI a.data.toList) (numI b.data.toList) (numI c.data.toList) 4) ∧ Below w.heap.size w w' := by
  have Ka := fun w => Lib.hid (rnumber_any a w ha)
  have Kb := fun w => Lib.hid (rnumber_any b w hb)
  have Kc := fun w => Lib.hid (rnumber_any c w hc)
  rw [show dateR (numI a.data.toList) (numI b.data.toList) (numI c.data.toList) 4 = dateL a.data.toList b.data.toList c.data.toList from rfl]
  have bad : (numFrom 0 a.data.toList).isSome = false ∨ (numFrom 0 b.data.toList).isSome = false ∨ (numFrom 0 c.data.toList).isSome = false → vldB (numI a.data.toList) (numI b.data.toList) (numI c.data.toList) = false := by
    intro h
    have : ¬ vldB (numI a.data.toList) (numI b.data.toList) (numI c.data.toList) = true := by
      rw [vld_iff]
      simp only [Option.isSome_eq_false_iff, Option.isNone_iff_eq_none] at h
      rcases h with h | h | h <;> (have := numI_none h; omega)
    simpa using this
  by_cases hall : (numFrom 0 a.data.toList).isSome = true ∧ (numFrom 0 b.data.toList).isSome = true ∧ (numFrom 0 c.data.toList).isSome = true
  · obtain ⟨h1, h2, h3⟩ := hall
    have e1 : (numFrom 0 a.data.toList).getD 0 = numI a.data.toList := by obtain ⟨N, h⟩ := Option.isSome_iff_exists.1 h1; rw [numI_some h, h]; rfl
    have e2 : (numFrom 0 b.data.toList).getD 0 = numI b.data.toList := by obtain ⟨N, h⟩ := Option.isSome_iff_exists.1 h2; rw [numI_some h, h]; rfl
    have e3 : (numFrom 0 c.data.toList).getD 0 = numI c.data.toList := by obtain ⟨N, h⟩ := Option.isSome_iff_exists.1 h3; rw [numI_some h, h]; rfl
    simp only [h1, e1] at Ka; simp only [h2, e2] at Kb; simp only [h3, e3] at Kc
    clear h1 h2 h3 e1 e2 e3 bad
    cases hv : vldB (numI a.data.toList) (numI b.data.toList) (numI c.data.toList)
    all_goals
      first | rw [dateR_no hv] | rw [dateR_yes hv]
      first | have KV := fun w => Lib.hid (rvalid_no _ _ _ w hv) | have KV := fun w => Lib.hid (rvalid_yes _ _ _ w hv)
      clear hv
      go_enter Tryz.func223, Tryz.ntmps223
      go_wp2_with fail
      refine (Ka _).out.mono ?_; rintro e w' ⟨rfl, rfl⟩
      go_wp2_with fail
      refine (Kb _).out.mono ?_; rintro e w' ⟨rfl, rfl⟩
      go_wp2_with fail
      refine (Kc _).out.mono ?_; rintro e w' ⟨rfl, rfl⟩
      go_wp2_with fail
      refine (KV _).out.mono ?_; rintro e w1 ⟨rfl, hb1⟩
      obtain ⟨hc1, hf1⟩ := bcell hb1
      have hz1 : w.heap.size + 1 < w1.heap.size := by have := hb1.size; simp at this; omega
      go_wp2_with fail
      have hg : w1.heap[w.heap.size]? = some (.cells #[.int .i64 0, .int .i64 0, .int .i64 0] 165 (0, 0)) := blk_below hb1 (by simp; omega) (blk_old (blk_new rfl))
      exact bodyPost_row2 rfl rfl (blk_set (blk_set (blk_set hg))) Tryz.underlying165 rfl (by kernel_rfl) ⟨rfl, ((((((Below.refl _ _).alloc (Nat.le_refl _) _).alloc (by simp) _).trans (hb1.mono (by simp; omega))).setCell (by simp) _).setCell (by simp) _).setCell (by simp) _⟩
  · have hcase : (numFrom 0 a.data.toList).isSome = false ∨ ((numFrom 0 a.data.toList).isSome = true ∧ (numFrom 0 b.data.toList).isSome = false) ∨ ((numFrom 0 a.data.toList).isSome = true ∧ (numFrom 0 b.data.toList).isSome = true ∧ (numFrom 0 c.data.toList).isSome = false) := by
      cases h1 : (numFrom 0 a.data.toList).isSome <;> cases h2 : (numFrom 0 b.data.toList).isSome <;> cases h3 : (numFrom 0 c.data.toList).isSome <;> simp_all
    have hbad := bad (by rcases hcase with h | ⟨_, h⟩ | ⟨_, _, h⟩ <;> simp [h])
    rw [dateR_no hbad]
    clear bad hall hbad
    rcases hcase with h1 | ⟨h1, h2⟩ | ⟨h1, h2, h3⟩
    all_goals
      try simp only [h1] at Ka
      try simp only [h2] at Kb
      try simp only [h3] at Kc
      try clear h1
      try clear h2
      try clear h3
      go_enter Tryz.func223, Tryz.ntmps223
      go_wp2_with fail
      refine (Ka _).out.mono ?_; rintro e w' ⟨rfl, rfl⟩
      go_wp2_with fail
      refine (Kb _).out.mono ?_; rintro e w' ⟨rfl, rfl⟩
      go_wp2_with fail
      refine (Kc _).out.mono ?_; rintro e w' ⟨rfl, rfl⟩
      go_wp2_with fail
      exact bodyPost_row2 rfl rfl (blk_old (blk_new rfl)) Tryz.underlying165 rfl (by kernel_rfl) ⟨rfl, ((Below.refl _ _).alloc (Nat.le_refl _) _).alloc (by simp) _⟩
set_option maxHeartbeats 1000000 in
theorem rread_any (s : ByteArray) (w : World) :
    Calls Tryz.prog 184 #[.string s] w fun e w' => e = .returned (bif decide (s.size = 8) then dateL (s.data.toList.take 4) ((s.data.toList.drop 4).take 2) ((s.data.toList.drop 6).take 2) else dateV false 0 0 0 4) ∧ Below w.heap.size w w' := by
  by_cases h : s.size = 8
  · have hs : ((s.size : Int) == 8) = true := by simp; omega
    simp only [h, decide_true, cond_true]
    go_enter Tryz.func184, Tryz.ntmps184
    go_wp2
    go_region_held3 (fun _ => True) (trivial) (first | (go_at_call 223; refine (rmade_any _ _ _ _ (by simp; omega) (by simp; omega) (by simp; omega)).mono ?_; rintro e w1 ⟨rfl, hb1⟩; obtain ⟨hc1, hf1⟩ := bcell hb1; have hz1 : w.heap.size < w1.heap.size := (by have := hb1.size; simp at this; omega)))
    go_wp2
    have hg : w1.heap[w.heap.size]? = some (.cells #[.int .i64 0, .int .i64 0, .int .i64 0] 165 (0, 0)) := blk_below hb1 (by simp) (heap_alloc_new _ _)
    exact bodyPost_row2 rfl rfl (blk_set (blk_set (blk_set hg))) Tryz.underlying165 rfl (by kernel_rfl) ⟨rfl, (((((Below.refl _ _).alloc (Nat.le_refl _) _).drew.trans (hb1.mono (by simp))).setCell (by simp) _).setCell (by simp) _).setCell (by simp) _⟩
  · have hs : ((s.size : Int) == 8) = false := by simp; omega
    simp only [h, decide_false, cond_false]
    go_enter Tryz.func184, Tryz.ntmps184
    go_wp2
    exact bodyPost_row2 rfl rfl (heap_alloc_new _ _) Tryz.underlying165 rfl (by kernel_rfl) ⟨rfl, ((Below.refl _ _).alloc (Nat.le_refl _) _)⟩

set_option maxHeartbeats 4000000 in
theorem rparse_ten (s : ByteArray) (w : World) (h : s.size = 10) :
    Calls Tryz.prog 177 #[.string s] w fun e w' => e = .returned (parseV s) ∧ Below w.heap.size w w' := by
  have hs : ((s.size : Int) == 10) = true := by simp; omega
  go_enter Tryz.func177, Tryz.ntmps177
  go_wp2
  all_goals
    have e2 := byteAt_get s 2 (by omega)
    have e4 := byteAt_get s 4 (by omega)
    have e5 := byteAt_get s 5 (by omega)
    have e7 := byteAt_get s 7 (by omega)
  all_goals
    first
    | exact bodyPost_row2 rfl rfl (heap_alloc_new _ _) Tryz.underlying165 rfl (by kernel_rfl) ⟨congrArg Ending.returned (by (try simp only [beq_iff_eq, beq_eq_false_iff_ne, ne_eq] at *); simp [parseV, pk_false, cd_false, *]; try rfl), ((Below.refl _ _).alloc (Nat.le_refl _) _)⟩
    | (clear e2 e4 e5 e7
       go_region_held3 (fun _ => True) (trivial) (first | (go_at_call 223; refine (rmade_any _ _ _ _ (by simp; omega) (by simp; omega) (by simp; omega)).mono ?_; rintro e w1 ⟨rfl, hb1⟩; obtain ⟨hc1, hf1⟩ := bcell hb1; have hz1 : w.heap.size < w1.heap.size := (by have := hb1.size; simp at this; omega)))
       go_wp2
       have hg : w1.heap[w.heap.size]? = some (.cells #[.int .i64 0, .int .i64 0, .int .i64 0] 165 (0, 0)) := blk_below hb1 (by simp) (heap_alloc_new _ _)
       have e2 := byteAt_get s 2 (by omega)
       have e4 := byteAt_get s 4 (by omega)
       have e5 := byteAt_get s 5 (by omega)
       have e7 := byteAt_get s 7 (by omega)
       exact bodyPost_row2 rfl rfl (blk_set (blk_set (blk_set hg))) Tryz.underlying165 rfl (by kernel_rfl) ⟨congrArg Ending.returned (by (try simp only [beq_iff_eq, beq_eq_false_iff_ne, ne_eq] at *); simp [parseV, pk_false, cd_false, *]; try rfl), (((((Below.refl _ _).alloc (Nat.le_refl _) _).drew.trans (hb1.mono (by simp))).setCell (by simp) _).setCell (by simp) _).setCell (by simp) _⟩)
theorem rparse_any (s : ByteArray) (w : World) :
    Calls Tryz.prog 177 #[.string s] w fun e w' => e = .returned (parseV s) ∧ Below w.heap.size w w' := by
  by_cases h : s.size = 10
  · exact rparse_ten s w h
  · have hs : ((s.size : Int) == 10) = false := by simp; omega
    rw [parseV, if_neg h]
    go_enter Tryz.func177, Tryz.ntmps177
    go_wp2
    exact bodyPost_row2 rfl rfl (heap_alloc_new _ _) Tryz.underlying165 rfl (by kernel_rfl) ⟨rfl, ((Below.refl _ _).alloc (Nat.le_refl _) _)⟩
end
section
open Go.RowKit Cal
theorem hcv_two (n : Int) (h0 : 0 ≤ n) (h1 : n ≤ 99) : ∀ w : World, (convert 183 9 (.slice (some ⟨w.heap.size, 0, none⟩) 2 2)).run Tryz.prog (w.alloc (.cells #[.int .u8 (48 + n / 10), .int .u8 (48 + n % 10)] 5)) = .ok (.string ⟨(dg n 2).toArray⟩) (w.alloc (.cells #[.int .u8 (48 + n / 10), .int .u8 (48 + n % 10)] 5)) := by
  intro w
  have ho := owns_new (w := w) (B := 0) (e := 5) (dg n 2) (Nat.zero_le _) (by rw [dg_len]; omega)
  rw [dg_len] at ho
  have e1 : (dg n 2).map byteV = [.int .u8 (48 + n / 10), .int .u8 (48 + n % 10)] := by
    simp only [dg, List.nil_append, List.cons_append, List.map_cons, List.map_nil]
    rw [dgb _ (by omega), dgb _ h0]
    have : n / 10 % 10 = n / 10 := by omega
    rw [this]
  rw [e1] at ho
  exact run_convert_owned (dg n 2) (by rw [e1]; exact ho) Tryz.underlying183 Tryz.underlying5 Tryz.underlying9
set_option maxHeartbeats 400000 in
theorem rtwo_any (n : Int) (w : World) (h0 : 0 ≤ n) (h1 : n ≤ 99) :
    Calls Tryz.prog 225 #[.int .i64 n] w fun e w' => e = .returned (.string ⟨(dg n 2).toArray⟩) ∧ Below w.heap.size w w' := by
  have ha : 0 ≤ n / 10 ∧ n / 10 ≤ 9 := by omega
  have hb : 0 ≤ n % 10 ∧ n % 10 ≤ 9 := by omega
  obtain ⟨ha1, ha2⟩ := ha
  obtain ⟨hb1, hb2⟩ := hb
  have hcv := hcv_two n h0 h1
  go_enter Tryz.func225, Tryz.ntmps225
  go_wp2
  go_ret
  exact ⟨rfl, (Below.refl _ _).alloc (Nat.le_refl _) _⟩
attribute [local go_sem] dg_len bytes_append
set_option maxHeartbeats 2000000 in
theorem rformat_yes (y m d : Int) (w : World) (hv : vldB y m d = true) :
    Calls Tryz.prog 178 #[.agg #[.int .i64 y, .int .i64 m, .int .i64 d]] w fun e w' => e = .returned (.tuple #[.string ⟨(digits8 y m d).toArray⟩, .int .i64 0]) ∧ Below w.heap.size w w' := by
  obtain ⟨b1, b2, b3, b4, b5, b6⟩ := vld_bd hv
  have q1 : 0 ≤ y / 100 ∧ y / 100 ≤ 99 := by omega
  have q2 : 0 ≤ y % 100 ∧ y % 100 ≤ 99 := by omega
  obtain ⟨q1, q1'⟩ := q1
  obtain ⟨q2, q2'⟩ := q2
  have HD : Hid (dg (y / 100) 2 ++ (dg (y % 100) 2 ++ (dg m 2 ++ dg d 2)) = digits8 y m d) := by
    show _ = _
    rw [dg_mod y (by omega), digits8, dg_two y]; simp
  have KV := fun w => Lib.hid (rvalid_yes y m d w hv)
  clear hv
  have m99 : m ≤ 99 := by omega
  have d99 : d ≤ 99 := by omega
  have d0 : 0 ≤ d := by omega
  have m0 : 0 ≤ m := by omega
  have e1 : IntKind.i64.wrap (y.tdiv 100) = y / 100 := by rw [Int.tdiv_eq_ediv_of_nonneg (by omega)]; exact IntWalk.i64_in _ ⟨by omega, by omega⟩
  have e2 : y.tmod 100 = y % 100 := Int.tmod_eq_emod_of_nonneg (by omega)
  go_enter Tryz.func178, Tryz.ntmps178
  go_wp2_with fail
  refine (KV _).out.mono ?_; rintro e w0 ⟨rfl, hb0⟩
  have z0 : w.heap.size < w0.heap.size := by clear e1 e2; have := hb0.size; simp at this; omega
  have HB0 := Lib.hid (((Below.refl _ _).alloc (Nat.le_refl _) _).trans (hb0.mono (by simp))).drew
  have c00 : w0.cell? ⟨w.heap.size, 0, none⟩ = some (.int .i64 y) := (hb0.cell (p := ⟨w.heap.size, 0, none⟩) (by simp)).trans (by simp)
  have c10 : w0.cell? ⟨w.heap.size, 1, none⟩ = some (.int .i64 m) := (hb0.cell (p := ⟨w.heap.size, 1, none⟩) (by simp)).trans (by simp)
  have c20 : w0.cell? ⟨w.heap.size, 2, none⟩ = some (.int .i64 d) := (hb0.cell (p := ⟨w.heap.size, 2, none⟩) (by simp)).trans (by simp)
  clear hb0
  go_wp2_with fail
  refine wp_region_noPanic ?_
  refine wp_region_held_drew (S := (fun w' => w'.cell? ⟨w.heap.size, 0, none⟩ = some (.int .i64 y) ∧ w'.cell? ⟨w.heap.size, 1, none⟩ = some (.int .i64 m) ∧ w'.cell? ⟨w.heap.size, 2, none⟩ = some (.int .i64 d))) (by kernel_rfl) (⟨c00, c10, c20⟩) (fun hHeld => ?_)
  refine tH 0 (h := ?_)
  refine tH 1 (h := ?_)
  refine tH 2 (h := ?_)
  refine tH 4 (h := ?_)
  refine tH 5 (h := ?_)
  refine tH 6 (h := ?_)
  refine tH 9 (h := ?_)
  refine tH 10 (h := ?_)
  refine tH 13 (h := ?_)
  refine tH 14 (h := ?_)
  refine wpAnyH_ready (rs := [3]) (by kernel_rfl) (by simp) ?_
  refine AllReadyH.cons rfl (fun K hK => ?_) AllReadyH.nil
  go_simp
  refine (rtwo_any _ _ q1 q1').mono ?_; rintro e w1 ⟨rfl, hb1⟩; have z1 : w.heap.size < w1.heap.size := (by clear e1 e2; have := hb1.size; (try simp at this); omega); have HB1 := Lib.hid (HB0.out.trans (hb1.mono (by have := HB0.out.size; simpa using this))); have c01 := (hb1.cell (p := ⟨w.heap.size, 0, none⟩) (by simpa using z0)).trans c00; have c11 := (hb1.cell (p := ⟨w.heap.size, 1, none⟩) (by simpa using z0)).trans c10; have c21 := (hb1.cell (p := ⟨w.heap.size, 2, none⟩) (by simpa using z0)).trans c20; clear hb1 c00 c10 c20
  refine hK.out _ _ (⟨c01, c11, c21⟩) (fun hHeld => ?_)
  clear hK K
  try simp only [List.getElem_toArray, List.getElem_cons_zero, List.getElem_cons_succ, Act.put, List.setIfInBounds_toArray, List.set_cons_zero, List.set_cons_succ]
  refine wpAnyH_ready (rs := [7]) (by kernel_rfl) (by simp) ?_
  refine AllReadyH.cons rfl (fun K hK => ?_) AllReadyH.nil
  go_simp
  refine (rtwo_any _ _ q2 q2').mono ?_; rintro e w2 ⟨rfl, hb2⟩; have z2 : w.heap.size < w2.heap.size := (by clear e1 e2; have := hb2.size; (try simp at this); omega); have HB2 := Lib.hid (HB1.out.trans (hb2.mono (by have := HB1.out.size; simpa using this))); have c02 := (hb2.cell (p := ⟨w.heap.size, 0, none⟩) (by simpa using z1)).trans c01; have c12 := (hb2.cell (p := ⟨w.heap.size, 1, none⟩) (by simpa using z1)).trans c11; have c22 := (hb2.cell (p := ⟨w.heap.size, 2, none⟩) (by simpa using z1)).trans c21; clear hb2 c01 c11 c21
  refine hK.out _ _ (⟨c02, c12, c22⟩) (fun hHeld => ?_)
  clear hK K
  try simp only [List.getElem_toArray, List.getElem_cons_zero, List.getElem_cons_succ, Act.put, List.setIfInBounds_toArray, List.set_cons_zero, List.set_cons_succ]
  refine tH 8 (h := ?_)
  refine wpAnyH_ready (rs := [11]) (by kernel_rfl) (by simp) ?_
  refine AllReadyH.cons rfl (fun K hK => ?_) AllReadyH.nil
  go_simp
  refine (rtwo_any _ _ m0 m99).mono ?_; rintro e w3 ⟨rfl, hb3⟩; have z3 : w.heap.size < w3.heap.size := (by clear e1 e2; have := hb3.size; (try simp at this); omega); have HB3 := Lib.hid (HB2.out.trans (hb3.mono (by have := HB2.out.size; simpa using this))); have c03 := (hb3.cell (p := ⟨w.heap.size, 0, none⟩) (by simpa using z2)).trans c02; have c13 := (hb3.cell (p := ⟨w.heap.size, 1, none⟩) (by simpa using z2)).trans c12; have c23 := (hb3.cell (p := ⟨w.heap.size, 2, none⟩) (by simpa using z2)).trans c22; clear hb3 c02 c12 c22
  refine hK.out _ _ (⟨c03, c13, c23⟩) (fun hHeld => ?_)
  clear hK K
  try simp only [List.getElem_toArray, List.getElem_cons_zero, List.getElem_cons_succ, Act.put, List.setIfInBounds_toArray, List.set_cons_zero, List.set_cons_succ]
  refine tH 12 (h := ?_)
  refine wpAnyH_ready (rs := [15]) (by kernel_rfl) (by simp) ?_
  refine AllReadyH.cons rfl (fun K hK => ?_) AllReadyH.nil
  go_simp
  refine (rtwo_any _ _ d0 d99).mono ?_; rintro e w4 ⟨rfl, hb4⟩; have z4 : w.heap.size < w4.heap.size := (by clear e1 e2; have := hb4.size; (try simp at this); omega); have HB4 := Lib.hid (HB3.out.trans (hb4.mono (by have := HB3.out.size; simpa using this))); have c04 := (hb4.cell (p := ⟨w.heap.size, 0, none⟩) (by simpa using z3)).trans c03; have c14 := (hb4.cell (p := ⟨w.heap.size, 1, none⟩) (by simpa using z3)).trans c13; have c24 := (hb4.cell (p := ⟨w.heap.size, 2, none⟩) (by simpa using z3)).trans c23; clear hb4 c03 c13 c23
  refine hK.out _ _ (⟨c04, c14, c24⟩) (fun hHeld => ?_)
  clear hK K
  try simp only [List.getElem_toArray, List.getElem_cons_zero, List.getElem_cons_succ, Act.put, List.setIfInBounds_toArray, List.set_cons_zero, List.set_cons_succ]
  refine tH 16 (h := ?_)
  refine tH 17 (h := ?_)
  refine tH 18 (h := ?_)
  refine wpAnyH_done (by kernel_rfl) ?_ _
  refine NoPanic.normal ?_
  clear e1 e2
  go_wp2
  go_ret2
  exact ⟨by rw [← HD.out]; simp, HB4.out⟩
end
section
set_option maxRecDepth 100000
open Go.RowKit Cal
attribute [local go_sem] toList_mk mk_size
set_option maxHeartbeats 4000000 in
theorem rvalue_any (S : Nat → Prop) (vf vt vn vs : Value) (s : SchemaL) (f : Int) (x : ByteArray) (w : World) (h : SchemaAt w S vf vt vn vs s) (hx : x.size ≤ 9223372036854775000) :
    Calls Tryz.prog 119 #[.agg #[vf, vt, vn, vs], .int .i64 f, .string x] w fun e w' => e = .returned (pairV (valueN s f x.data.toList)) ∧ Below w.heap.size w w' := by
  have HS := Lib.hid h.any
  have HL := Lib.hid (Lib.toList_data x)
  obtain ⟨hf1, hf2⟩ := h
  obtain ⟨af, cf, rfl⟩ := hf1.slice
  have HV1 := Lib.hid hf1.any
  have hfin : ∀ p, valueN s f x.data.toList = p → Ending.returned (pairV p) = .returned (pairV (valueN s f x.data.toList)) := fun p h => by rw [h]
  have HF := Lib.hid hfin
  clear hf1 hf2 hfin
  have hval : valueN s f x.data.toList = if (findN s f).2 = 0 then (if x.data.toList = [] then ([], 0) else normK (findN s f).1 s.rules x.data.toList) else ([], (findN s f).2) := rfl
  have hkk := findN_kind (s := s) (f := f)
  have hfn : findN s f = if checkS s = 0 then (if 0 ≤ f ∧ f < s.fields.length then ((s.fields.getD f.toNat default).2, 0) else (0, 2)) else (0, checkS s) := rfl
  have K := rscheck_any Any1 (.slice af s.fields.length cf) vt vn vs s (w.alloc (.cells #[.slice af s.fields.length cf, vt, vn, vs] 43)) (HS.out.below ((Below.refl _ _).alloc (Nat.le_refl _) _))
  have hcf := fun h => (check_fields (s := s) h).1
  obtain ⟨c, hc⟩ : ∃ c, checkS s = c := ⟨_, rfl⟩
  rw [hc] at K hfn hcf
  have HK := Lib.hid K; clear K
  have START := Lib.hid (trivial : True)
  by_cases he : c = 0
  · subst he
    have hlen := (hcf rfl).2
    clear hcf
    rw [if_pos rfl] at hfn
    by_cases hr : 0 ≤ f ∧ f < s.fields.length
    · rw [if_pos hr] at hfn
      obtain ⟨r1, r2⟩ := hr
      obtain ⟨k, rfl⟩ := Int.eq_ofNat_of_zero_le r1
      rw [Int.toNat_natCast] at hfn
      have hk : k < s.fields.length := by omega
      obtain ⟨b, off, rfl, _, hb, hcell⟩ := vec_cell2 HV1.out (by omega)
      obtain ⟨y, hy⟩ : ∃ y, s.fields.getD k default = y := ⟨_, rfl⟩
      have hck := hcell k hk
      rw [hy] at hck hfn
      obtain ⟨nm, kd⟩ := y
      have C1 := Lib.hid (show w.cell? ⟨b, off + k * 2 + 1, none⟩ = some (.int .i64 kd) from hck 1 _ rfl)
      rw [hfn] at hval hkk
      dsimp only at hval hkk
      have hkd := hkk rfl
      rw [if_pos rfl] at hval
      have HVal := Lib.hid hval
      have t1 : decide ((k : Int) < 0) = false := by simp
      have t2 : decide ((s.fields.length : Int) ≤ k) = false := by simp; omega
      have t3 : (k : Int) < (s.fields.length : Int) := by omega
      clear hck hcell hfn hkk hval hy r1 r2
      by_cases hx0 : x.data.toList = []
      · have e1 : x.toList = [] := by rw [HL.out, hx0]
        have HE := Lib.hid (show valueN s (k : Int) x.data.toList = ([], 0) by rw [HVal.out, if_pos hx0])
        clear hx0 hkd
        go_enter Tryz.func119, Tryz.ntmps119
        go_wp2_with fail
        refine HK.out.mono ?_
        rintro e w1 ⟨rfl, hb1⟩
        have HB1 := Lib.hid (((Below.refl w.heap.size w).alloc (Nat.le_refl _) (.cells #[.slice (some ⟨b, off, none⟩) s.fields.length cf, vt, vn, vs] 43)).trans (hb1.mono (by simp)))
        have HX1 := Lib.hid (blk_below (b := w.heap.size) (o := .cells #[.slice (some ⟨b, off, none⟩) s.fields.length cf, vt, vn, vs] 43 (0, 0)) hb1 (by simp) (blk_new rfl))
        clear hb1 HK
        have z0 := lt_of_blk HX1.out
        obtain ⟨p0, p1, p2, p3⟩ := cells4 HX1.out
        go_wp2_with fail
        go_ret2
        exact ⟨HF.out _ HE.out, HB1.out⟩
      · have e1 : (x.toList == []) = false := by rw [HL.out]; simpa using hx0
        have e2 : x.toList.isEmpty = false := by rw [HL.out]; simpa using hx0
        have HE := Lib.hid (show valueN s (k : Int) x.data.toList = normK kd s.rules x.data.toList by rw [HVal.out, if_neg hx0])
        clear hx0
        rcases hkd with rfl | rfl | rfl | rfl
        · have HE2 := Lib.hid (show valueN s (k : Int) x.data.toList = nameN s.rules x.data.toList from HE.out)
          go_enter Tryz.func119, Tryz.ntmps119
          go_wp2_with fail
          refine HK.out.mono ?_
          rintro e w1 ⟨rfl, hb1⟩
          have HB1 := Lib.hid (((Below.refl w.heap.size w).alloc (Nat.le_refl _) (.cells #[.slice (some ⟨b, off, none⟩) s.fields.length cf, vt, vn, vs] 43)).trans (hb1.mono (by simp)))
          have HX1 := Lib.hid (blk_below (b := w.heap.size) (o := .cells #[.slice (some ⟨b, off, none⟩) s.fields.length cf, vt, vn, vs] 43 (0, 0)) hb1 (by simp) (blk_new rfl))
          clear hb1 HK
          have z0 := lt_of_blk HX1.out
          obtain ⟨p0, p1, p2, p3⟩ := cells4 HX1.out
          have c1 : w1.cell? ⟨b, off + k * 2 + 1, none⟩ = some (.int .i64 1) := (HB1.out.cell (p := ⟨b, off + k * 2 + 1, none⟩) hb).trans C1.out
          go_wp2_with fail
          refine (rnorm_any Any1 vt vn vs s.rules x _ (HS.out.2.below HB1.out) hx).mono ?_
          rw [← HE2.out]
          obtain ⟨⟨pl, pe⟩, hpp⟩ : ∃ p, valueN s (k : Int) x.data.toList = p := ⟨_, rfl⟩
          rw [hpp]
          have HPP := Lib.hid hpp
          unfold pairV
          rintro e w3 ⟨rfl, hb3⟩
          have HB3 := Lib.hid (HB1.out.trans (hb3.mono HB1.out.size))
          clear hb3 hpp HE HE2 p0 p1 p2 p3 c1
          go_wp2_with fail
          go_ret2
          exact ⟨HF.out _ HPP.out, HB3.out⟩
        · have HE2 := Lib.hid (show valueN s (k : Int) x.data.toList = dayN x.data.toList from HE.out)
          rcases parse_is x with ⟨da, db, dc, hv, hp, hd⟩ | ⟨hp, hd⟩
          · have HV := Lib.hid hv; have HP := Lib.hid hp
            have HE3 := Lib.hid (HE2.out.trans hd)
            clear hv hp hd HE HE2
            go_enter Tryz.func119, Tryz.ntmps119
            go_wp2_with fail
            refine HK.out.mono ?_
            rintro e w1 ⟨rfl, hb1⟩
            have HB1 := Lib.hid (((Below.refl w.heap.size w).alloc (Nat.le_refl _) (.cells #[.slice (some ⟨b, off, none⟩) s.fields.length cf, vt, vn, vs] 43)).trans (hb1.mono (by simp)))
            have HX1 := Lib.hid (blk_below (b := w.heap.size) (o := .cells #[.slice (some ⟨b, off, none⟩) s.fields.length cf, vt, vn, vs] 43 (0, 0)) hb1 (by simp) (blk_new rfl))
            clear hb1 HK
            have z0 := lt_of_blk HX1.out
            obtain ⟨p0, p1, p2, p3⟩ := cells4 HX1.out
            have c1 : w1.cell? ⟨b, off + k * 2 + 1, none⟩ = some (.int .i64 2) := (HB1.out.cell (p := ⟨b, off + k * 2 + 1, none⟩) hb).trans C1.out
            go_wp2_with fail
            refine (rparse_any x _).mono ?_
            rw [HP.out]
            rintro e w2 ⟨rfl, hb2⟩
            have HB2 := Lib.hid (HB1.out.trans (hb2.mono HB1.out.size))
            clear hb2 p0 p1 p2 p3 c1
            go_wp2_with fail
            refine (rformat_yes da db dc _ HV.out).mono ?_
            rintro e w3 ⟨rfl, hb3⟩
            have HB3 := Lib.hid ((HB2.out.alloc HB2.out.size (.cells #[.int .i64 da, .int .i64 db, .int .i64 dc] 165)).trans (hb3.mono (by have := HB2.out.size; simp; omega)))
            clear hb3
            go_wp2_with fail
            go_ret2
            exact ⟨HF.out _ HE3.out, HB3.out⟩
          · have HP := Lib.hid hp
            have HE3 := Lib.hid (HE2.out.trans hd)
            clear hp hd HE HE2
            go_enter Tryz.func119, Tryz.ntmps119
            go_wp2_with fail
            refine HK.out.mono ?_
            rintro e w1 ⟨rfl, hb1⟩
            have HB1 := Lib.hid (((Below.refl w.heap.size w).alloc (Nat.le_refl _) (.cells #[.slice (some ⟨b, off, none⟩) s.fields.length cf, vt, vn, vs] 43)).trans (hb1.mono (by simp)))
            have HX1 := Lib.hid (blk_below (b := w.heap.size) (o := .cells #[.slice (some ⟨b, off, none⟩) s.fields.length cf, vt, vn, vs] 43 (0, 0)) hb1 (by simp) (blk_new rfl))
            clear hb1 HK
            have z0 := lt_of_blk HX1.out
            obtain ⟨p0, p1, p2, p3⟩ := cells4 HX1.out
            have c1 : w1.cell? ⟨b, off + k * 2 + 1, none⟩ = some (.int .i64 2) := (HB1.out.cell (p := ⟨b, off + k * 2 + 1, none⟩) hb).trans C1.out
            go_wp2_with fail
            refine (rparse_any x _).mono ?_
            rw [HP.out]
            rintro e w2 ⟨rfl, hb2⟩
            have HB2 := Lib.hid (HB1.out.trans (hb2.mono HB1.out.size))
            clear hb2 p0 p1 p2 p3 c1
            go_wp2_with fail
            go_ret2
            exact ⟨HF.out _ HE3.out, HB2.out.alloc HB2.out.size _⟩
        · have HE2 := Lib.hid (show valueN s (k : Int) x.data.toList = codeN x.data.toList from HE.out)
          go_enter Tryz.func119, Tryz.ntmps119
          go_wp2_with fail
          refine HK.out.mono ?_
          rintro e w1 ⟨rfl, hb1⟩
          have HB1 := Lib.hid (((Below.refl w.heap.size w).alloc (Nat.le_refl _) (.cells #[.slice (some ⟨b, off, none⟩) s.fields.length cf, vt, vn, vs] 43)).trans (hb1.mono (by simp)))
          have HX1 := Lib.hid (blk_below (b := w.heap.size) (o := .cells #[.slice (some ⟨b, off, none⟩) s.fields.length cf, vt, vn, vs] 43 (0, 0)) hb1 (by simp) (blk_new rfl))
          clear hb1 HK
          have z0 := lt_of_blk HX1.out
          obtain ⟨p0, p1, p2, p3⟩ := cells4 HX1.out
          have c1 : w1.cell? ⟨b, off + k * 2 + 1, none⟩ = some (.int .i64 3) := (HB1.out.cell (p := ⟨b, off + k * 2 + 1, none⟩) hb).trans C1.out
          go_wp2_with fail
          refine (rcode_any x _ hx).mono ?_
          rw [← HE2.out]
          obtain ⟨⟨pl, pe⟩, hpp⟩ : ∃ p, valueN s (k : Int) x.data.toList = p := ⟨_, rfl⟩
          rw [hpp]
          have HPP := Lib.hid hpp
          unfold pairV
          rintro e w3 ⟨rfl, hb3⟩
          have HB3 := Lib.hid (HB1.out.trans (hb3.mono HB1.out.size))
          clear hb3 hpp HE HE2 p0 p1 p2 p3 c1
          go_wp2_with fail
          go_ret2
          exact ⟨HF.out _ HPP.out, HB3.out⟩
        · have HE2 := Lib.hid (show valueN s (k : Int) x.data.toList = addrN s.rules x.data.toList from HE.out)
          go_enter Tryz.func119, Tryz.ntmps119
          go_wp2_with fail
          refine HK.out.mono ?_
          rintro e w1 ⟨rfl, hb1⟩
          have HB1 := Lib.hid (((Below.refl w.heap.size w).alloc (Nat.le_refl _) (.cells #[.slice (some ⟨b, off, none⟩) s.fields.length cf, vt, vn, vs] 43)).trans (hb1.mono (by simp)))
          have HX1 := Lib.hid (blk_below (b := w.heap.size) (o := .cells #[.slice (some ⟨b, off, none⟩) s.fields.length cf, vt, vn, vs] 43 (0, 0)) hb1 (by simp) (blk_new rfl))
          clear hb1 HK
          have z0 := lt_of_blk HX1.out
          obtain ⟨p0, p1, p2, p3⟩ := cells4 HX1.out
          have c1 : w1.cell? ⟨b, off + k * 2 + 1, none⟩ = some (.int .i64 4) := (HB1.out.cell (p := ⟨b, off + k * 2 + 1, none⟩) hb).trans C1.out
          go_wp2_with fail
          refine (raddr_any Any1 vt vn vs s.rules x _ (HS.out.2.below HB1.out) hx).mono ?_
          rw [← HE2.out]
          obtain ⟨⟨pl, pe⟩, hpp⟩ : ∃ p, valueN s (k : Int) x.data.toList = p := ⟨_, rfl⟩
          rw [hpp]
          have HPP := Lib.hid hpp
          unfold pairV
          rintro e w3 ⟨rfl, hb3⟩
          have HB3 := Lib.hid (HB1.out.trans (hb3.mono HB1.out.size))
          clear hb3 hpp HE HE2 p0 p1 p2 p3 c1
          go_wp2_with fail
          go_ret2
          exact ⟨HF.out _ HPP.out, HB3.out⟩
    · rw [if_neg hr] at hfn
      have HE := Lib.hid (show valueN s f x.data.toList = ([], 2) by rw [hval, hfn]; rfl)
      clear hval hkk hfn
      by_cases r1 : 0 ≤ f
      · have t1 : decide (f < 0) = false := by simp; omega
        have t2 : decide ((s.fields.length : Int) ≤ f) = true := by simp; omega
        go_enter Tryz.func119, Tryz.ntmps119
        go_wp2_with fail
        refine HK.out.mono ?_
        rintro e w1 ⟨rfl, hb1⟩
        have HB1 := Lib.hid (((Below.refl w.heap.size w).alloc (Nat.le_refl _) (.cells #[.slice af s.fields.length cf, vt, vn, vs] 43)).trans (hb1.mono (by simp)))
        have HX1 := Lib.hid (blk_below (b := w.heap.size) (o := .cells #[.slice af s.fields.length cf, vt, vn, vs] 43 (0, 0)) hb1 (by simp) (blk_new rfl))
        clear hb1 HK
        have z0 := lt_of_blk HX1.out
        obtain ⟨p0, p1, p2, p3⟩ := cells4 HX1.out
        go_wp2_with fail
        go_ret2
        exact ⟨HF.out _ HE.out, HB1.out⟩
      · have t1 : decide (f < 0) = true := by simp; omega
        go_enter Tryz.func119, Tryz.ntmps119
        go_wp2_with fail
        refine HK.out.mono ?_
        rintro e w1 ⟨rfl, hb1⟩
        have HB1 := Lib.hid (((Below.refl w.heap.size w).alloc (Nat.le_refl _) (.cells #[.slice af s.fields.length cf, vt, vn, vs] 43)).trans (hb1.mono (by simp)))
        have HX1 := Lib.hid (blk_below (b := w.heap.size) (o := .cells #[.slice af s.fields.length cf, vt, vn, vs] 43 (0, 0)) hb1 (by simp) (blk_new rfl))
        clear hb1 HK
        have z0 := lt_of_blk HX1.out
        obtain ⟨p0, p1, p2, p3⟩ := cells4 HX1.out
        go_wp2_with fail
        go_ret2
        exact ⟨HF.out _ HE.out, HB1.out⟩
  · rw [if_neg he] at hfn
    have HE := Lib.hid (show valueN s f x.data.toList = ([], c) by rw [hval, hfn]; dsimp only; rw [if_neg he])
    have he1 : (c != 0) = true := by simpa using he
    clear hval hkk hfn hcf he
    go_enter Tryz.func119, Tryz.ntmps119
    go_wp2_with fail
    refine HK.out.mono ?_
    rintro e w1 ⟨rfl, hb1⟩
    have HB1 := Lib.hid (((Below.refl w.heap.size w).alloc (Nat.le_refl _) (.cells #[.slice af s.fields.length cf, vt, vn, vs] 43)).trans (hb1.mono (by simp)))
    have HX1 := Lib.hid (blk_below (b := w.heap.size) (o := .cells #[.slice af s.fields.length cf, vt, vn, vs] 43 (0, 0)) hb1 (by simp) (blk_new rfl))
    clear hb1 HK
    have z0 := lt_of_blk HX1.out
    obtain ⟨p0, p1, p2, p3⟩ := cells4 HX1.out
    go_wp2_with fail
    go_ret2
    exact ⟨HF.out _ HE.out, HB1.out⟩
end
section
set_option maxRecDepth 100000
open Go.RowKit Cal
attribute [local go_sem] toList_mk mk_size
set_option maxHeartbeats 4000000 in
theorem rsnormal_any (S : Nat → Prop) (vf vt vn vs : Value) (s : SchemaL) (f : Int) (x : ByteArray) (w : World) (h : SchemaAt w S vf vt vn vs s) (hx : x.size ≤ 9223372036854775000) :
    Calls Tryz.prog 123 #[.agg #[vf, vt, vn, vs], .int .i64 f, .string x] w fun e w' => e = .returned (.bool (normalB s f x.data.toList)) ∧ Below w.heap.size w w' := by
  have HS := Lib.hid h.any
  have HL := Lib.hid (Lib.toList_data x)
  obtain ⟨hf1, hf2⟩ := h
  obtain ⟨af, cf, rfl⟩ := hf1.slice
  have HV1 := Lib.hid hf1.any
  have hfin : ∀ p, normalB s f x.data.toList = p → Ending.returned (.bool p) = .returned (.bool (normalB s f x.data.toList)) := fun p h => by rw [h]
  have HF := Lib.hid hfin
  clear hf1 hf2 hfin
  have hval : normalB s f x.data.toList = if (findN s f).2 = 0 then (if x.data.toList = [] then true else ownK (findN s f).1 s.rules x.data.toList) else false := rfl
  have hkk := findN_kind (s := s) (f := f)
  have hfn : findN s f = if checkS s = 0 then (if 0 ≤ f ∧ f < s.fields.length then ((s.fields.getD f.toNat default).2, 0) else (0, 2)) else (0, checkS s) := rfl
  have K := rscheck_any Any1 (.slice af s.fields.length cf) vt vn vs s (w.alloc (.cells #[.slice af s.fields.length cf, vt, vn, vs] 43)) (HS.out.below ((Below.refl _ _).alloc (Nat.le_refl _) _))
  have hcf := fun h => (check_fields (s := s) h).1
  obtain ⟨c, hc⟩ : ∃ c, checkS s = c := ⟨_, rfl⟩
  rw [hc] at K hfn hcf
  have HK := Lib.hid K; clear K
  have START := Lib.hid (trivial : True)
  by_cases he : c = 0
  · subst he
    have hlen := (hcf rfl).2
    clear hcf
    rw [if_pos rfl] at hfn
    by_cases hr : 0 ≤ f ∧ f < s.fields.length
    · rw [if_pos hr] at hfn
      obtain ⟨r1, r2⟩ := hr
      obtain ⟨k, rfl⟩ := Int.eq_ofNat_of_zero_le r1
      rw [Int.toNat_natCast] at hfn
      have hk : k < s.fields.length := by omega
      obtain ⟨b, off, rfl, _, hb, hcell⟩ := vec_cell2 HV1.out (by omega)
      obtain ⟨y, hy⟩ : ∃ y, s.fields.getD k default = y := ⟨_, rfl⟩
      have hck := hcell k hk
      rw [hy] at hck hfn
      obtain ⟨nm, kd⟩ := y
      have C1 := Lib.hid (show w.cell? ⟨b, off + k * 2 + 1, none⟩ = some (.int .i64 kd) from hck 1 _ rfl)
      rw [hfn] at hval hkk
      dsimp only at hval hkk
      have hkd := hkk rfl
      rw [if_pos rfl] at hval
      have HVal := Lib.hid hval
      have t1 : decide ((k : Int) < 0) = false := by simp
      have t2 : decide ((s.fields.length : Int) ≤ k) = false := by simp; omega
      have t3 : (k : Int) < (s.fields.length : Int) := by omega
      clear hck hcell hfn hkk hval hy r1 r2
      by_cases hx0 : x.data.toList = []
      · have e1 : x.toList = [] := by rw [HL.out, hx0]
        have HE := Lib.hid (show normalB s (k : Int) x.data.toList = true by rw [HVal.out, if_pos hx0])
        clear hx0 hkd
        go_enter Tryz.func123, Tryz.ntmps123
        go_wp2_with fail
        refine HK.out.mono ?_
        rintro e w1 ⟨rfl, hb1⟩
        have HB1 := Lib.hid (((Below.refl w.heap.size w).alloc (Nat.le_refl _) (.cells #[.slice (some ⟨b, off, none⟩) s.fields.length cf, vt, vn, vs] 43)).trans (hb1.mono (by simp)))
        have HX1 := Lib.hid (blk_below (b := w.heap.size) (o := .cells #[.slice (some ⟨b, off, none⟩) s.fields.length cf, vt, vn, vs] 43 (0, 0)) hb1 (by simp) (blk_new rfl))
        clear hb1 HK
        have z0 := lt_of_blk HX1.out
        obtain ⟨p0, p1, p2, p3⟩ := cells4 HX1.out
        go_wp2_with fail
        go_ret
        exact ⟨HF.out _ HE.out, HB1.out⟩
      · have e1 : (x.toList == []) = false := by rw [HL.out]; simpa using hx0
        have e2 : x.toList.isEmpty = false := by rw [HL.out]; simpa using hx0
        have HE := Lib.hid (show normalB s (k : Int) x.data.toList = ownK kd s.rules x.data.toList by rw [HVal.out, if_neg hx0])
        clear hx0
        rcases hkd with rfl | rfl | rfl | rfl
        · have HE2 := Lib.hid (show normalB s (k : Int) x.data.toList = isOwn (nameN s.rules x.data.toList) x.data.toList from HE.out)
          go_enter Tryz.func123, Tryz.ntmps123
          go_wp2_with fail
          refine HK.out.mono ?_
          rintro e w1 ⟨rfl, hb1⟩
          have HB1 := Lib.hid (((Below.refl w.heap.size w).alloc (Nat.le_refl _) (.cells #[.slice (some ⟨b, off, none⟩) s.fields.length cf, vt, vn, vs] 43)).trans (hb1.mono (by simp)))
          have HX1 := Lib.hid (blk_below (b := w.heap.size) (o := .cells #[.slice (some ⟨b, off, none⟩) s.fields.length cf, vt, vn, vs] 43 (0, 0)) hb1 (by simp) (blk_new rfl))
          clear hb1 HK
          have z0 := lt_of_blk HX1.out
          obtain ⟨p0, p1, p2, p3⟩ := cells4 HX1.out
          have c1 : w1.cell? ⟨b, off + k * 2 + 1, none⟩ = some (.int .i64 1) := (HB1.out.cell (p := ⟨b, off + k * 2 + 1, none⟩) hb).trans C1.out
          go_wp2_with fail
          refine (rnormal_any Any1 vt vn vs s.rules x _ (HS.out.2.below HB1.out) hx).mono ?_
          rw [← HE2.out]
          obtain ⟨pb, hpp⟩ : ∃ p, normalB s (k : Int) x.data.toList = p := ⟨_, rfl⟩
          rw [hpp]
          have HPP := Lib.hid hpp
          rintro e w3 ⟨rfl, hb3⟩
          have HB3 := Lib.hid (HB1.out.trans (hb3.mono HB1.out.size))
          clear hb3 hpp HE HE2 p0 p1 p2 p3 c1
          go_wp2_with fail
          go_ret
          exact ⟨HF.out _ HPP.out, HB3.out⟩
        · have HE2 := Lib.hid (show normalB s (k : Int) x.data.toList = readB x.data.toList from HE.out)
          obtain ⟨da, db, dc, hr⟩ := read_is x
          have HR := Lib.hid hr; clear hr HE
          go_enter Tryz.func123, Tryz.ntmps123
          go_wp2_with fail
          refine HK.out.mono ?_
          rintro e w1 ⟨rfl, hb1⟩
          have HB1 := Lib.hid (((Below.refl w.heap.size w).alloc (Nat.le_refl _) (.cells #[.slice (some ⟨b, off, none⟩) s.fields.length cf, vt, vn, vs] 43)).trans (hb1.mono (by simp)))
          have HX1 := Lib.hid (blk_below (b := w.heap.size) (o := .cells #[.slice (some ⟨b, off, none⟩) s.fields.length cf, vt, vn, vs] 43 (0, 0)) hb1 (by simp) (blk_new rfl))
          clear hb1 HK
          have z0 := lt_of_blk HX1.out
          obtain ⟨p0, p1, p2, p3⟩ := cells4 HX1.out
          have c1 : w1.cell? ⟨b, off + k * 2 + 1, none⟩ = some (.int .i64 2) := (HB1.out.cell (p := ⟨b, off + k * 2 + 1, none⟩) hb).trans C1.out
          go_wp2_with fail
          refine (rread_any x _).mono ?_
          rw [HR.out]
          obtain ⟨v, hv⟩ : ∃ v, readB x.data.toList = v := ⟨_, rfl⟩
          rw [hv]
          have HV := Lib.hid hv; clear hv HR
          rintro e w2 ⟨rfl, hb2⟩
          have HB2 := Lib.hid (HB1.out.trans (hb2.mono HB1.out.size))
          clear hb2 p0 p1 p2 p3 c1
          cases v
          all_goals
            simp only [cd_false, cd_true]
            go_wp2_with fail
            go_ret
            exact ⟨HF.out _ (by rw [HE2.out, HV.out]; try rfl), HB2.out.alloc HB2.out.size _⟩
        · have HE2 := Lib.hid (show normalB s (k : Int) x.data.toList = isOwn (codeN x.data.toList) x.data.toList from HE.out)
          go_enter Tryz.func123, Tryz.ntmps123
          go_wp2_with fail
          refine HK.out.mono ?_
          rintro e w1 ⟨rfl, hb1⟩
          have HB1 := Lib.hid (((Below.refl w.heap.size w).alloc (Nat.le_refl _) (.cells #[.slice (some ⟨b, off, none⟩) s.fields.length cf, vt, vn, vs] 43)).trans (hb1.mono (by simp)))
          have HX1 := Lib.hid (blk_below (b := w.heap.size) (o := .cells #[.slice (some ⟨b, off, none⟩) s.fields.length cf, vt, vn, vs] 43 (0, 0)) hb1 (by simp) (blk_new rfl))
          clear hb1 HK
          have z0 := lt_of_blk HX1.out
          obtain ⟨p0, p1, p2, p3⟩ := cells4 HX1.out
          have c1 : w1.cell? ⟨b, off + k * 2 + 1, none⟩ = some (.int .i64 3) := (HB1.out.cell (p := ⟨b, off + k * 2 + 1, none⟩) hb).trans C1.out
          go_wp2_with fail
          refine (rnormed_any x _ hx).mono ?_
          rw [← HE2.out]
          obtain ⟨pb, hpp⟩ : ∃ p, normalB s (k : Int) x.data.toList = p := ⟨_, rfl⟩
          rw [hpp]
          have HPP := Lib.hid hpp
          rintro e w3 ⟨rfl, hb3⟩
          have HB3 := Lib.hid (HB1.out.trans (hb3.mono HB1.out.size))
          clear hb3 hpp HE HE2 p0 p1 p2 p3 c1
          go_wp2_with fail
          go_ret
          exact ⟨HF.out _ HPP.out, HB3.out⟩
        · have HE2 := Lib.hid (show normalB s (k : Int) x.data.toList = isOwn (addrN s.rules x.data.toList) x.data.toList from HE.out)
          go_enter Tryz.func123, Tryz.ntmps123
          go_wp2_with fail
          refine HK.out.mono ?_
          rintro e w1 ⟨rfl, hb1⟩
          have HB1 := Lib.hid (((Below.refl w.heap.size w).alloc (Nat.le_refl _) (.cells #[.slice (some ⟨b, off, none⟩) s.fields.length cf, vt, vn, vs] 43)).trans (hb1.mono (by simp)))
          have HX1 := Lib.hid (blk_below (b := w.heap.size) (o := .cells #[.slice (some ⟨b, off, none⟩) s.fields.length cf, vt, vn, vs] 43 (0, 0)) hb1 (by simp) (blk_new rfl))
          clear hb1 HK
          have z0 := lt_of_blk HX1.out
          obtain ⟨p0, p1, p2, p3⟩ := cells4 HX1.out
          have c1 : w1.cell? ⟨b, off + k * 2 + 1, none⟩ = some (.int .i64 4) := (HB1.out.cell (p := ⟨b, off + k * 2 + 1, none⟩) hb).trans C1.out
          go_wp2_with fail
          refine (ranormal_any Any1 vt vn vs s.rules x _ (HS.out.2.below HB1.out) hx).mono ?_
          rw [← HE2.out]
          obtain ⟨pb, hpp⟩ : ∃ p, normalB s (k : Int) x.data.toList = p := ⟨_, rfl⟩
          rw [hpp]
          have HPP := Lib.hid hpp
          rintro e w3 ⟨rfl, hb3⟩
          have HB3 := Lib.hid (HB1.out.trans (hb3.mono HB1.out.size))
          clear hb3 hpp HE HE2 p0 p1 p2 p3 c1
          go_wp2_with fail
          go_ret
          exact ⟨HF.out _ HPP.out, HB3.out⟩
    · rw [if_neg hr] at hfn
      have HE := Lib.hid (show normalB s f x.data.toList = false by rw [hval, hfn]; rfl)
      clear hval hkk hfn
      by_cases r1 : 0 ≤ f
      · have t1 : decide (f < 0) = false := by simp; omega
        have t2 : decide ((s.fields.length : Int) ≤ f) = true := by simp; omega
        go_enter Tryz.func123, Tryz.ntmps123
        go_wp2_with fail
        refine HK.out.mono ?_
        rintro e w1 ⟨rfl, hb1⟩
        have HB1 := Lib.hid (((Below.refl w.heap.size w).alloc (Nat.le_refl _) (.cells #[.slice af s.fields.length cf, vt, vn, vs] 43)).trans (hb1.mono (by simp)))
        have HX1 := Lib.hid (blk_below (b := w.heap.size) (o := .cells #[.slice af s.fields.length cf, vt, vn, vs] 43 (0, 0)) hb1 (by simp) (blk_new rfl))
        clear hb1 HK
        have z0 := lt_of_blk HX1.out
        obtain ⟨p0, p1, p2, p3⟩ := cells4 HX1.out
        go_wp2_with fail
        go_ret
        exact ⟨HF.out _ HE.out, HB1.out⟩
      · have t1 : decide (f < 0) = true := by simp; omega
        go_enter Tryz.func123, Tryz.ntmps123
        go_wp2_with fail
        refine HK.out.mono ?_
        rintro e w1 ⟨rfl, hb1⟩
        have HB1 := Lib.hid (((Below.refl w.heap.size w).alloc (Nat.le_refl _) (.cells #[.slice af s.fields.length cf, vt, vn, vs] 43)).trans (hb1.mono (by simp)))
        have HX1 := Lib.hid (blk_below (b := w.heap.size) (o := .cells #[.slice af s.fields.length cf, vt, vn, vs] 43 (0, 0)) hb1 (by simp) (blk_new rfl))
        clear hb1 HK
        have z0 := lt_of_blk HX1.out
        obtain ⟨p0, p1, p2, p3⟩ := cells4 HX1.out
        go_wp2_with fail
        go_ret
        exact ⟨HF.out _ HE.out, HB1.out⟩
  · rw [if_neg he] at hfn
    have HE := Lib.hid (show normalB s f x.data.toList = false by rw [hval, hfn]; dsimp only; rw [if_neg he])
    have he1 : (c != 0) = true := by simpa using he
    clear hval hkk hfn hcf he
    go_enter Tryz.func123, Tryz.ntmps123
    go_wp2_with fail
    refine HK.out.mono ?_
    rintro e w1 ⟨rfl, hb1⟩
    have HB1 := Lib.hid (((Below.refl w.heap.size w).alloc (Nat.le_refl _) (.cells #[.slice af s.fields.length cf, vt, vn, vs] 43)).trans (hb1.mono (by simp)))
    have HX1 := Lib.hid (blk_below (b := w.heap.size) (o := .cells #[.slice af s.fields.length cf, vt, vn, vs] 43 (0, 0)) hb1 (by simp) (blk_new rfl))
    clear hb1 HK
    have z0 := lt_of_blk HX1.out
    obtain ⟨p0, p1, p2, p3⟩ := cells4 HX1.out
    go_wp2_with fail
    go_ret
    exact ⟨HF.out _ HE.out, HB1.out⟩
end
section
set_option maxRecDepth 100000
open Go.RowKit
attribute [local go_sem] toList_mk mk_size str_append
def kindsD : List Int := [1, 1, 2, 4, 3]
theorem kindsD_bd (k : Nat) (hk : k < 5) : 1 ≤ kindsD.getD k 0 ∧ kindsD.getD k 0 ≤ 4 := by
  have : ∀ j : Fin 5, 1 ≤ kindsD.getD j 0 ∧ kindsD.getD j 0 ≤ 4 := by decide
  exact this ⟨k, hk⟩
theorem kinds_cell {w : World} {b : Nat} (h : w.heap[b]? = some (.cells (kindsD.map (Value.int .i64)).toArray 3 (0, 0))) (k : Nat) (hk : k < 5) : w.cell? ⟨b, k, none⟩ = some (.int .i64 (kindsD.getD k 0)) := by
  rw [cell_of_row _ _ _ _ _ _ h, List.getElem?_toArray, List.getElem?_map]
  have : k < kindsD.length := hk
  rw [List.getD, List.getElem?_eq_getElem this]; rfl
set_option maxHeartbeats 8000000 in
theorem schema_deal (D : Nat) (w : World) (h : DeckAt w D) :
    Calls Tryz.prog 10 #[.pointer (some ⟨D, 0, none⟩)] w (SchemaPost D w) := by
  have zD := h.lt
  have M0 := Lib.hid (Moved.start h); clear h
  go_enter Tryz.func10, Tryz.ntmps10
  go_wp2_with fail
  refine (rules_deal D _ (M0.out.alloc _).deck).mono ?_
  rintro e w1 ⟨vt, vn, vs, r, rfl, hr, hd, mv⟩
  obtain ⟨at', ct, rfl⟩ := hr.1.slice
  obtain ⟨an, cn, rfl⟩ := hr.2.1.slice
  obtain ⟨as', cs, rfl⟩ := hr.2.2.slice
  have zw : w.heap.size < w1.heap.size := by have := mv.size; simp at this; omega
  have X1 := Lib.hid (show w1.heap[w.heap.size]? = some (.cells nil4 43 (0, 0)) from mv.blk (by omega) (blk_new rfl))
  have M1 := Lib.hid ((M0.out.alloc _).trans mv)
  have HR := Lib.hid hr; have HRD := Lib.hid hd
  clear hr hd mv
  go_wp2_with fail
  have K0 := Lib.hid (show SMid D w w1.heap.size (.slice at' r.titles.length ct) (.slice an r.nicks.length cn) (.slice as' r.streets.length cs) r (.slice none 0 0) [] ((w1.alloc (.cells #[.slice none 0 0, .slice at' r.titles.length ct, .slice an r.nicks.length cn, .slice as' r.streets.length cs] 43)).alloc (.cells (namesD.flatMap encS).toArray 9)) from
    ⟨blk_old (blk_old X1.out), blk_old (blk_new rfl), blk_new (by simp), ⟨rfl, .inl ⟨rfl, rfl⟩⟩, by
      have hb : Below w1.heap.size w1 ((w1.alloc (.cells #[.slice none 0 0, .slice at' r.titles.length ct, .slice an r.nicks.length cn, .slice as' r.streets.length cs] 43)).alloc (.cells (namesD.flatMap encS).toArray 9)) := ((Below.refl _ _).alloc (Nat.le_refl _) _).alloc (by simp) _
      have mvv : ∀ b, b < w1.heap.size → (w.alloc (.cells nil4 43)).heap.size ≤ b → _ ∧ (w.heap.size < b ∧ b < w1.heap.size) := fun b h1 h2 => ⟨hb.block b h1, by simp at h2; omega, h1⟩
      exact ⟨HR.out.1.move hb.size mvv, HR.out.2.1.move hb.size mvv, HR.out.2.2.move hb.size mvv⟩, FieldsD.nil, (M1.out.alloc _).alloc _, zw⟩)
  refine (next_any D _ 4 K0.out.moved.deck (by omega) (by omega)).mono ?_
  rintro e w2 ⟨q, rfl, q0, q1, mv⟩
  obtain ⟨q, rfl⟩ := Int.eq_ofNat_of_zero_le q0
  have K1 := Lib.hid (K0.out.gone zD mv)
  clear mv K0 X1 M1 HR M0
  go_wp2_with fail
  go_loopw [6] (fun i wr => ∃ (k : Nat) (F : List F2) (vf : Value), i = .int .i64 k ∧ k ≤ 1 + q ∧ F.length = k ∧ SMid D w w1.heap.size (.slice at' r.titles.length ct) (.slice an r.nicks.length cn) (.slice as' r.streets.length cs) r vf F wr) (fun i _ => 1 + q - (intOf i).toNat)
  case atStart => exact ⟨0, [], _, rfl, by omega, rfl, K1.out⟩
  case round =>
    obtain ⟨k, F, vf, rfl, hk, hF, hm⟩ := hrel
    have HF := Lib.hid hF; have KM := Lib.hid hm
    clear hm hF K1
    by_cases hlt : k < 1 + q
    · have hq : decide ((k : Int) < 1 + q) = true := by simp; omega
      have hix : (k : Int) < 5 := by omega
      have hc : (wr.alloc (.cells #[.int .i64 1, .int .i64 1, .int .i64 2, .int .i64 4, .int .i64 3] 3)).cell? ⟨wr.heap.size, k, none⟩ = _ := kinds_cell (w := wr.alloc (.cells (kindsD.map (Value.int .i64)).toArray 3)) (b := wr.heap.size) (blk_new rfl) k (by omega)
      obtain ⟨kb1, kb2⟩ := kindsD_bd k (by omega)
      obtain ⟨kd, hkd⟩ : ∃ kd, kindsD.getD k 0 = kd := ⟨_, rfl⟩
      rw [hkd] at hc kb1 kb2
      clear hkd
      go_wp2_with fail
      refine (one_any D _ 4 (KM.out.moved.alloc _).deck (by omega) (by omega)).mono ?_
      rintro e w3 ⟨u, rfl, mv⟩
      have KN := Lib.hid (KM.out.gone zD (((Moved.start KM.out.moved.deck).alloc _).trans mv))
      clear hc mv
      go_upto_if 25 with (fail)
      go_cut [7] (fun s7 wx => ∃ kd : Int, s7 = .int .i64 kd ∧ 1 ≤ kd ∧ kd ≤ 4 ∧ SMid D w w1.heap.size (.slice at' r.titles.length ct) (.slice an r.nicks.length cn) (.slice as' r.streets.length cs) r vf F wx)
      case first =>
        cases u
        · go_wp2_with fail
          go_meet
          exact ⟨kd, rfl, kb1, kb2, KN.out⟩
        · go_wp2_with fail
          refine (next_any D _ 4 KN.out.moved.deck (by omega) (by omega)).mono ?_
          rintro e w4 ⟨p, rfl, p0, p1, mv⟩
          have KO := Lib.hid (KN.out.gone zD mv)
          clear mv
          go_wp2_with fail
          go_meet
          exact ⟨1 + p, rfl, by omega, by omega, KO.out⟩
      case rest =>
        obtain ⟨kx, rfl, kx1, kx2, hm⟩ := hcut
        have KX := Lib.hid hm
        clear hm KM KN kb1 kb2
        obtain ⟨av, cv, hav⟩ := own_slice KX.out.own
        rw [HF.out] at hav
        subst hav
        have cY := (cells4 KX.out.s).1
        have cN := KX.out.n.cell k (by show k < 5; omega)
        have zY := lt_of_blk KX.out.n
        have zY0 : w1.heap.size < wc.heap.size := by omega
        obtain ⟨nm, hnm⟩ : ∃ nm, namesD.getD k [] = nm := ⟨_, rfl⟩
        rw [hnm] at cN
        have HNM := Lib.hid hnm; clear hnm
        go_wp2_with fail
        have hown := own_below KX.out.own (((Below.refl _ _).alloc (Nat.le_refl _) (.cells #[strV nm, .int .i64 kx] 91)).drew)
        have hnews : ∀ j u, [strV nm, Value.int .i64 kx][j]? = some u → ((wc.alloc (.cells #[strV nm, .int .i64 kx] 91)).drew).cell? ((⟨wc.heap.size, 0, none⟩ : Addr).add j) = some u := fun j u hu => by
          rw [add_plain, World.cell?_drew, cell_of_row _ _ _ _ _ _ (heap_alloc_new wc _), Nat.zero_add]; simpa using hu
        have hone : ∀ u ∈ [strV nm, Value.int .i64 kx], u.oneCell' = true := by intro u hu; simp at hu; rcases hu with rfl | rfl <;> rfl
        obtain ⟨i0, hi, hz0, hz1, hz2⟩ := info_parts infoF
        have hbA := ((Below.refl _ wc).alloc (Nat.le_refl _) (.cells #[strV nm, .int .i64 kx] 91)).drew
        have HBA := Lib.hid hbA; have HOwn := Lib.hid hown; have HNews := Lib.hid hnews; have HOne := Lib.hid hone; have HI := Lib.hid hi; have HZ0 := Lib.hid hz0; have HZ1 := Lib.hid hz1; have HZ2 := Lib.hid hz2
        have fY := (frozen_of_row _ _ _ _ _ KX.out.s : wc.frozen? ⟨w1.heap.size, 0, none⟩ = false)
        clear hbA hown hnews hone hi hz0 hz1 hz2
        rw [HF.out] at HOwn
        go_region_law (((refine step_append_lies _ rfl (.tmp 30) (.tmp 37) 38 (by rfl) (w1.heap.size + 2) 91 i0 (.agg #[.string ⟨#[]⟩, .int .i64 0]) 2 24 Tryz.underlying38 HI.out HZ0.out HZ1.out HZ2.out rfl (by decide) (.slice av k cv) k (F.flatMap encF) (by rfl) HOwn.out ⟨wc.heap.size, 0, none⟩ 1 1 [strV nm, .int .i64 kx] (by rfl) rfl HNews.out HOne.out (by omega) (by unfold maxLen; omega) (by omega) (by simp; omega) (wc.heap.size + 1) (by simp) ?_); intro g cap w5 hown5 hg5 hat5 hlt5; have cY5 := (hg5.cell_far ⟨w1.heap.size, 0, none⟩ (by simp; omega) (own_far HOwn.out (by show w1.heap.size < _; omega))).trans ((HBA.out.cell (p := ⟨w1.heap.size, 0, none⟩) (by show w1.heap.size < _; omega)).trans cY); have fY5 := (hg5.frozen_far ⟨w1.heap.size, 0, none⟩ (by simp; omega) (own_far HOwn.out (by show w1.heap.size < _; omega))).trans ((HBA.out.frozen (p := ⟨w1.heap.size, 0, none⟩) (by show w1.heap.size < _; omega)).trans fY)))
        all_goals
          have hfd := KX.out.fields.snoc (by rw [HF.out]; omega) kx1 kx2
          rw [HF.out, HNM.out] at hfd
          have hown6 := hown5
          rw [show F.flatMap encF ++ [strV nm, .int .i64 kx] = F.flatMap encF ++ encF (nm, kx) from rfl, ← HF.out] at hown6
          have KS := Lib.hid (KX.out.step (x := (nm, kx)) zD HBA.out hg5 hown6 hfd)
          rw [HF.out] at KS
          clear hfd hown6 hown5 hg5 hat5 cY5 fY5
          go_wp2_with fail
          go_roundw
          case rel => exact ⟨k + 1, F ++ [(nm, kx)], _, by go_num, by omega, by rw [List.length_append, HF.out]; rfl, KS.out⟩
          case measure => simp [intOf]; omega
    · have hq : decide ((k : Int) < 1 + q) = false := by simp; omega
      obtain ⟨av, cv, hav⟩ := own_slice KM.out.own
      subst hav
      have HZ := Lib.hid KM.out.z
      have HM := Lib.hid KM.out.moved
      have HR := Lib.hid KM.out.rules
      have HO := Lib.hid KM.out.own
      have HFd := Lib.hid KM.out.fields
      obtain ⟨c0, c1, c2, c3⟩ := cells4 KM.out.s
      obtain ⟨d0, d1, d2, d3⟩ := cells4 KM.out.z
      have g0 := (frozen_of_row _ _ _ _ _ KM.out.z : wr.frozen? ⟨w.heap.size, 0, none⟩ = false)
      have g1 := (frozen_of_row _ _ _ _ _ KM.out.z : wr.frozen? ⟨w.heap.size, 1, none⟩ = false)
      have g2 := (frozen_of_row _ _ _ _ _ KM.out.z : wr.frozen? ⟨w.heap.size, 2, none⟩ = false)
      have g3 := (frozen_of_row _ _ _ _ _ KM.out.z : wr.frozen? ⟨w.heap.size, 3, none⟩ = false)
      have z0 := lt_of_blk KM.out.z
      have z1 := lt_of_blk KM.out.s
      clear KM
      go_wp2_with fail
      have hz := (blk_set (i := 3) (v := (.slice as' r.streets.length cs)) (blk_set (i := 2) (v := (.slice an r.nicks.length cn)) (blk_set (i := 1) (v := (.slice at' r.titles.length ct)) (blk_set (i := 0) (v := (.slice av F.length cv)) HZ.out))))
      have hm := ((((HM.out.set (a := ⟨w.heap.size, 0, none⟩) (Nat.le_refl _) (.slice av F.length cv)).set (a := ⟨w.heap.size, 1, none⟩) (Nat.le_refl _) (.slice at' r.titles.length ct)).set (a := ⟨w.heap.size, 2, none⟩) (Nat.le_refl _) (.slice an r.nicks.length cn)).set (a := ⟨w.heap.size, 3, none⟩) (Nat.le_refl _) (.slice as' r.streets.length cs))
      have hv := (((((Vec.owns (k := 2) (enc := encF) (S := fun b => w.heap.size < b) (fun _ => rfl) HO.out (fun b h1 _ => by omega)).set1 (a := ⟨w.heap.size, 0, none⟩) (fun b h => Nat.ne_of_gt h) (.slice av F.length cv)).set1 (a := ⟨w.heap.size, 1, none⟩) (fun b h => Nat.ne_of_gt h) (.slice at' r.titles.length ct)).set1 (a := ⟨w.heap.size, 2, none⟩) (fun b h => Nat.ne_of_gt h) (.slice an r.nicks.length cn)).set1 (a := ⟨w.heap.size, 3, none⟩) (fun b h => Nat.ne_of_gt h) (.slice as' r.streets.length cs))
      have ht := (((((HR.out.1.weaken (S' := fun b => w.heap.size < b) fun b h => h.1).set1 (a := ⟨w.heap.size, 0, none⟩) (fun b h => Nat.ne_of_gt h) (.slice av F.length cv)).set1 (a := ⟨w.heap.size, 1, none⟩) (fun b h => Nat.ne_of_gt h) (.slice at' r.titles.length ct)).set1 (a := ⟨w.heap.size, 2, none⟩) (fun b h => Nat.ne_of_gt h) (.slice an r.nicks.length cn)).set1 (a := ⟨w.heap.size, 3, none⟩) (fun b h => Nat.ne_of_gt h) (.slice as' r.streets.length cs))
      have hn := (((((HR.out.2.1.weaken (S' := fun b => w.heap.size < b) fun b h => h.1).set1 (a := ⟨w.heap.size, 0, none⟩) (fun b h => Nat.ne_of_gt h) (.slice av F.length cv)).set1 (a := ⟨w.heap.size, 1, none⟩) (fun b h => Nat.ne_of_gt h) (.slice at' r.titles.length ct)).set1 (a := ⟨w.heap.size, 2, none⟩) (fun b h => Nat.ne_of_gt h) (.slice an r.nicks.length cn)).set1 (a := ⟨w.heap.size, 3, none⟩) (fun b h => Nat.ne_of_gt h) (.slice as' r.streets.length cs))
      have hs := (((((HR.out.2.2.weaken (S' := fun b => w.heap.size < b) fun b h => h.1).set1 (a := ⟨w.heap.size, 0, none⟩) (fun b h => Nat.ne_of_gt h) (.slice av F.length cv)).set1 (a := ⟨w.heap.size, 1, none⟩) (fun b h => Nat.ne_of_gt h) (.slice at' r.titles.length ct)).set1 (a := ⟨w.heap.size, 2, none⟩) (fun b h => Nat.ne_of_gt h) (.slice an r.nicks.length cn)).set1 (a := ⟨w.heap.size, 3, none⟩) (fun b h => Nat.ne_of_gt h) (.slice as' r.streets.length cs))
      have hw : ∀ b, w.heap.size < b → w.heap.size ≤ b := fun b h => Nat.le_of_lt h
      have hF1 : 1 ≤ F.length := by have := HF.out; omega
      exact bodyPost_row1 rfl rfl hz Tryz.underlying43 rfl (by kernel_rfl) ⟨_, _, _, _, ⟨F, r⟩, rfl, ⟨hv.weaken hw, ht.weaken hw, hn.weaken hw, hs.weaken hw⟩, ⟨HFd.out, hF1, HRD.out⟩, hm⟩
end
section
set_option maxRecDepth 100000
open Go.RowKit Cal
attribute [local go_sem] toList_mk mk_size str_append
/-- a record in memory: its three cells -/
def RecVal (w : World) (S : Nat → Prop) (v : Value) (r : RecL) : Prop := ∃ s, v = .agg #[.int .i64 r.id, .int .i64 r.ver, s] ∧ Vec w S 1 encS s r.vals
def MakePost (p : RecL × Int) (w : World) (e : Ending) (w' : World) : Prop := ∃ v, e = .returned (.tuple #[v, .int .i64 p.2]) ∧ RecVal w' (fun b => w.heap.size ≤ b) v p.1 ∧ Below w.heap.size w w'
/-- .. of raw values as many as fields, right numbers, a valid schema -/
theorem makeN_in {s : SchemaL} {id ver : Int} {raws : List (List UInt8)} (h0 : checkS s = 0) (h1 : raws.length = s.fields.length) (h2 : numberedB id ver = true) : makeN s id ver raws = if (makeA s 0 [] raws).2 = 0 then (⟨id, ver, (makeA s 0 [] raws).1⟩, 0) else (noRec, (makeA s 0 [] raws).2) := by
  unfold makeN; rw [if_pos h0, if_pos h1, if_pos h2]
/-- where ref13.Make stands: the schema's box, the result's, the record's, its values -/
structure MkAt (w : World) (rb : Nat) (vf vt vn vs : Value) (id ver : Int) (v : Value) (C : List (List UInt8)) (wr : World) : Prop where
  s : wr.heap[w.heap.size]? = some (.cells #[vf, vt, vn, vs] 43 (0, 0))
  z : wr.heap[w.heap.size + 1]? = some (.cells #[.int .i64 0, .int .i64 0, .slice none 0 0] 29 (0, 0))
  r : wr.heap[rb]? = some (.cells #[.int .i64 id, .int .i64 ver, v] 29 (0, 0))
  own : wr.ownsRow (rb + 1) 9 1 v C.length (C.flatMap encS)
  b : Below w.heap.size w wr
  lt : w.heap.size + 1 < rb
  lt2 : rb < wr.heap.size
theorem MkAt.below {w : World} {rb : Nat} {vf vt vn vs : Value} {id ver : Int} {v : Value} {C : List (List UInt8)} {wr wx : World} (h : MkAt w rb vf vt vn vs id ver v C wr) (hb : Below wr.heap.size wr wx) : MkAt w rb vf vt vn vs id ver v C wx :=
  ⟨blk_below hb (lt_of_blk h.s) h.s, blk_below hb (lt_of_blk h.z) h.z, blk_below hb (lt_of_blk h.r) h.r, own_below' h.own hb, h.b.trans (hb.mono h.b.size), h.lt, Nat.lt_of_lt_of_le h.lt2 hb.size⟩
set_option maxHeartbeats 8000000 in
theorem rmake_yes (S T : Nat → Prop) (vf vt vn vs : Value) (s : SchemaL) (id ver : Int) (raws : List (List UInt8)) (rv : Value) (w : World) (h : SchemaAt w S vf vt vn vs s) (hv : Vec w T 1 encS rv raws) (hc : checkS s = 0) (hl : raws.length = s.fields.length) (hn : numberedB id ver = true) (hs : ∀ x ∈ raws, x.length ≤ 1000000) :
    Calls Tryz.prog 62 #[.agg #[vf, vt, vn, vs], .int .i64 id, .int .i64 ver, rv] w (MakePost (makeN s id ver raws) w) := by
  have hmk := makeN_in hc hl hn
  obtain ⟨R, hR⟩ : ∃ R, makeN s id ver raws = R := ⟨_, rfl⟩
  rw [hR] at hmk ⊢
  have HMK := Lib.hid hmk
  clear hmk hR
  obtain ⟨a, cap, rfl⟩ := hv.slice
  obtain ⟨af, cf, rfl⟩ := h.1.slice
  have h5 : raws.length ≤ 5 := by have := (check_fields hc).1.2; omega
  have hne : ((raws.length : Int) != (s.fields.length : Int)) = false := by rw [hl]; simp
  have hn0 := hn
  simp only [numberedB, Bool.and_eq_true, decide_eq_true_iff] at hn0
  obtain ⟨⟨⟨n1, n2⟩, n3⟩, n4⟩ := hn0
  have e1 : decide (id < (1 : Int)) = false := by simp; omega
  have e2 : decide ((1048576 : Int) < id) = false := by simp; omega
  have e3 : decide (ver < (1 : Int)) = false := by simp; omega
  have e4 : decide ((1048576 : Int) < ver) = false := by simp; omega
  have HC := Lib.hid hc; have HV := Lib.hid hv.any; have HS := Lib.hid h.any; have HSh := Lib.hid hs
  clear h hv hc hl hn hs n1 n2 n3 n4
  go_enter Tryz.func62, Tryz.ntmps62
  go_wp2_with fail
  refine wp_calls_world (fun W hW => ?_)
  have hb0 : Below w.heap.size w W := by rw [hW]; exact ((Below.refl w.heap.size w).alloc (Nat.le_refl _) _).alloc (by simp) _
  have hs0 : W.heap[w.heap.size]? = some (.cells #[.slice af s.fields.length cf, vt, vn, vs] 43 (0, 0)) := by rw [hW]; exact blk_old (blk_new rfl)
  have hz0 : W.heap[w.heap.size + 1]? = some (.cells #[.int .i64 0, .int .i64 0, .slice none 0 0] 29 (0, 0)) := by rw [hW]; exact blk_new (by simp)
  clear hW
  refine (rscheck_any Any1 _ _ _ _ s _ (HS.out.below hb0)).mono ?_
  rw [HC.out]
  rintro e w1 ⟨rfl, hb⟩
  have hs1 := blk_below hb (lt_of_blk hs0) hs0; have hz1 := blk_below hb (lt_of_blk hz0) hz0
  have HB1 := Lib.hid (hb0.trans (hb.mono hb0.size)); have HS1 := Lib.hid hs1; have HZ1 := Lib.hid hz1
  obtain ⟨s0, s1, s2, s3⟩ := cellsS hs1
  clear hb hb0 hs0 hz0 hs1 hz1
  go_wp2_with fail
  refine wp_world (fun W2 hW2 => ?_)
  have hm0 : MkAt w w1.heap.size (.slice af s.fields.length cf) vt vn vs id ver (.slice none 0 0) [] W2 := by
    rw [hW2]
    exact ⟨blk_old HS1.out, blk_old HZ1.out, blk_new rfl, ⟨by simp, .inl ⟨rfl, rfl⟩⟩, HB1.out.alloc HB1.out.size _, lt_of_blk HZ1.out, by simp⟩
  have HM0 := Lib.hid hm0
  clear hW2 hm0 s0 s1 s2 s3
  go_loopw [12, 13, 14] (fun i _ _ wr => ∃ (j : Nat) (v : Value) (C : List (List UInt8)), i = .int .i64 j ∧ j ≤ raws.length ∧ C.length = j ∧ Hid (makeA s j C (raws.drop j) = makeA s 0 [] raws) ∧ MkAt w w1.heap.size (.slice af s.fields.length cf) vt vn vs id ver v C wr) (fun i _ _ _ => raws.length - (intOf i).toNat)
  case atStart => exact ⟨0, _, [], rfl, by omega, rfl, Lib.hid rfl, HM0.out⟩
  case round =>
    obtain ⟨j, vC, C, rfl, hj, hCl, HT, hm⟩ := hrel
    have HM := Lib.hid hm; have HCl := Lib.hid hCl; clear hm hCl HM0
    obtain ⟨s0, s1, s2, s3⟩ := cellsS HM.out.s
    by_cases hlt : j < raws.length
    · have hq : decide ((j : Int) < raws.length) = true := by simp; omega
      obtain ⟨x, hx⟩ : ∃ x, raws[j] = x := ⟨_, rfl⟩
      have hxl : x.length ≤ 1000000 := HSh.out x (by rw [← hx]; exact List.getElem_mem _)
      have hT := HT.out
      rw [List.drop_eq_getElem_cons hlt, hx, makeA] at hT
      obtain ⟨b, off, rfl, hb, hc⟩ := (HV.out.below HM.out.b).get j hlt
      have c0 := hc 0 _ rfl
      rw [Nat.mul_one, Nat.add_zero, hx] at c0
      obtain ⟨⟨y, er⟩, hp⟩ : ∃ p, valueN s j x = p := ⟨_, rfl⟩
      rw [hp] at hT
      dsimp only at hT
      have HT2 := Lib.hid hT; have HPv := Lib.hid hp
      clear hc hT hx HT hp
      go_wp2_with fail
      have hbw : b < wr.heap.size := hb
      have hzs := lt_of_blk HM.out.s
      refine wp_region_noPanic ?_
      refine wp_region_held_drew (S := (fun w' => w'.cell? ⟨w.heap.size, 0, none⟩ = some (.slice af s.fields.length cf) ∧ w'.cell? ⟨w.heap.size, 1, none⟩ = some vt ∧ w'.cell? ⟨w.heap.size, 2, none⟩ = some vn ∧ w'.cell? ⟨w.heap.size, 3, none⟩ = some vs ∧ w'.cell? ⟨b, off + j, none⟩ = some (strV x))) (by kernel_rfl) (⟨s0, s1, s2, s3, c0⟩) (fun hHeld => ?_)
      refine tH 0 (h := ?_)
      refine tH 1 (h := ?_)
      refine tH 2 (h := ?_)
      refine tH 3 (h := ?_)
      refine tH 4 (h := ?_)
      refine tH 5 (h := ?_)
      refine wpAnyH_ready (rs := [6]) (by kernel_rfl) (by simp) ?_
      refine AllReadyH.cons rfl (fun K hK => ?_) AllReadyH.nil
      go_simp
      refine (rvalue_any Any1 _ vt vn vs s j ⟨x.toArray⟩ _ ((HS.out.below HM.out.b).below (Below.refl _ _).drew) (by rw [mk_size]; omega)).mono ?_; rw [show (⟨x.toArray⟩ : ByteArray).data.toList = x by simp, HPv.out]; unfold pairV; rintro e w2 ⟨rfl, hb2⟩; have b2 := ((Below.refl wr.heap.size wr).drew).trans hb2; clear hb2
      refine hK.out _ _ (⟨(b2.cell (p := ⟨w.heap.size, 0, none⟩) hzs).trans s0, (b2.cell (p := ⟨w.heap.size, 1, none⟩) hzs).trans s1, (b2.cell (p := ⟨w.heap.size, 2, none⟩) hzs).trans s2, (b2.cell (p := ⟨w.heap.size, 3, none⟩) hzs).trans s3, (b2.cell (p := ⟨b, off + j, none⟩) hbw).trans c0⟩) (fun hHeld => ?_)
      clear hK K
      try simp only [List.getElem_toArray, List.getElem_cons_zero, List.getElem_cons_succ, Act.put, List.setIfInBounds_toArray, List.set_cons_zero, List.set_cons_succ]
      refine tH 7 (h := ?_)
      refine tH 8 (h := ?_)
      refine tH 9 (h := ?_)
      refine tH 10 (h := ?_)
      refine tH 11 (h := ?_)
      refine wpAnyH_done (by kernel_rfl) ?_ _
      refine NoPanic.normal ?_
      have HM2 := Lib.hid (HM.out.below b2)
      clear hHeld s0 s1 s2 s3 c0 b2 HM hbw hzs hb
      by_cases he : er = 0
      · subst he
        have HT3 := Lib.hid (show makeA s (j + 1) (C ++ [y]) (raws.drop (j + 1)) = makeA s 0 [] raws by rw [← HT2.out, if_pos rfl])
        clear HT2
        obtain ⟨r0, r1, r2⟩ := cells3 HM2.out.r
        have f2 := frozen_of_row _ _ 2 _ _ HM2.out.r
        have hrz := HM2.out.lt2
        have hone : ∀ u ∈ (#[strV y] : Array Value).toList, u.oneCell' = true := by intro u hu; simp at hu; subst hu; rfl
        have hbase : w1.heap.size + 1 ≤ w2.heap.size := hrz
        have hown := HM2.out.own
        have HOwn := Lib.hid hown
        clear hown
        have hcl : C.length < 1099511627776 := by rw [HCl.out]; omega
        go_wp2_with (at_builtin; refine wpList_append_new rfl _ _ 27 rfl (w1.heap.size + 1) 9 1 16 (.string ⟨#[]⟩) Tryz.underlying27 infoS rfl (by decide) (by decide) _ _ _ rfl HOwn.out #[strV y] 1 rfl rfl hone hcl hbase ?_; intro v2 w8 ho8 hw8; obtain ⟨av2, cv2, rfl⟩ := own_slice ho8; have hr8 := (hw8 w2 (Below.refl _ _)).block w1.heap.size (Nat.lt_succ_self _) |>.trans HM2.out.r; obtain ⟨q0, q1, q2⟩ := cells3 hr8; have g2 := frozen_of_row _ _ 2 _ _ hr8; have y8 := lt_of_blk hr8)
        have HW8 := Lib.hid (hw8 w2 (Below.refl _ _)); have HO8 := Lib.hid ho8; have HR8 := Lib.hid hr8
        clear hw8 ho8 hr8
        have hlt := HM2.out.lt
        go_roundw
        case rel =>
          refine ⟨j + 1, .slice av2 (C.length + 1) cv2, C ++ [y], by go_num, by omega, by rw [List.length_append, HCl.out]; rfl, HT3, ?_⟩
          refine ⟨blk_far ((HW8.out.block w.heap.size (by omega)).trans HM2.out.s) (by show w.heap.size ≠ w1.heap.size; omega), blk_far ((HW8.out.block (w.heap.size + 1) (by omega)).trans HM2.out.z) (by show w.heap.size + 1 ≠ w1.heap.size; omega), blk_set (i := 2) HR8.out, ?_, ?_, hlt, by simpa [World.setCell] using y8⟩
          · rw [List.length_append, List.flatMap_append]
            exact own_same HO8.out fun g h1 h2 => heap_setCell_other _ _ _ _ (by show g ≠ w1.heap.size; omega)
          · exact (HM2.out.b.trans (HW8.out.mono (by omega))).setCell (p := ⟨w1.heap.size, 2, none⟩) (by show w.heap.size ≤ w1.heap.size; omega) _
        case measure => simp [intOf]; omega
      · have hne2 : (er != 0) = true := by simpa using he
        have hR : R = (noRec, er) := by rw [HMK.out, ← HT2.out, if_neg he, if_neg he]
        have HRR := Lib.hid hR
        obtain ⟨z0, z1, z2⟩ := cells3 HM2.out.z
        have f0 := frozen_of_row _ _ 0 _ _ HM2.out.z; have f1 := frozen_of_row _ _ 1 _ _ HM2.out.z; have f2 := frozen_of_row _ _ 2 _ _ HM2.out.z
        have yz := lt_of_blk HM2.out.z
        clear hR he HT2
        go_wp2_with fail
        rw [HRR.out]
        exact bodyPost_row2 rfl rfl (blk_set (i := 2) (v := .slice none 0 0) (blk_set (i := 1) (v := .int .i64 0) (blk_set (i := 0) (v := .int .i64 0) HM2.out.z))) Tryz.underlying29 rfl (by kernel_rfl)
          ⟨_, rfl, ⟨_, rfl, Vec.nil _ _ _ _⟩, ((HM2.out.b.setCell (p := ⟨w.heap.size + 1, 0, none⟩) (Nat.le_succ _) _).setCell (p := ⟨w.heap.size + 1, 1, none⟩) (Nat.le_succ _) _).setCell (p := ⟨w.heap.size + 1, 2, none⟩) (Nat.le_succ _) _⟩
    · have hq : decide ((j : Int) < raws.length) = false := by simp; omega
      obtain rfl : j = raws.length := by omega
      have hT := HT.out
      rw [List.drop_length, makeA] at hT
      have hR : R = (⟨id, ver, C⟩, 0) := by rw [HMK.out, ← hT, if_pos rfl]
      have HRR := Lib.hid hR
      have hlt := HM.out.lt
      obtain ⟨z0, z1, z2⟩ := cells3 HM.out.z
      obtain ⟨r0, r1, r2⟩ := cells3 HM.out.r
      have f0 := frozen_of_row _ _ 0 _ _ HM.out.z; have f1 := frozen_of_row _ _ 1 _ _ HM.out.z; have f2 := frozen_of_row _ _ 2 _ _ HM.out.z
      have yz := lt_of_blk HM.out.z
      obtain ⟨aC, cC, hvC⟩ := own_slice HM.out.own
      subst hvC
      clear hR hT HT s0 s1 s2 s3
      go_wp2_with fail
      rw [HRR.out]
      refine bodyPost_row2 rfl rfl (blk_set (i := 2) (v := .slice aC C.length cC) (blk_set (i := 1) (v := .int .i64 ver) (blk_set (i := 0) (v := .int .i64 id) HM.out.z))) Tryz.underlying29 rfl (by kernel_rfl)
        ⟨_, rfl, ⟨_, rfl, ?_⟩, ((HM.out.b.setCell (p := ⟨w.heap.size + 1, 0, none⟩) (Nat.le_succ _) _).setCell (p := ⟨w.heap.size + 1, 1, none⟩) (Nat.le_succ _) _).setCell (p := ⟨w.heap.size + 1, 2, none⟩) (Nat.le_succ _) _⟩
      have hown := own_same (w' := ((wr.setCell ⟨w.heap.size + 1, 0, none⟩ (.int .i64 id)).setCell ⟨w.heap.size + 1, 1, none⟩ (.int .i64 ver)).setCell ⟨w.heap.size + 1, 2, none⟩ (.slice aC C.length cC)) HM.out.own fun g h1 h2 => ((heap_setCell_other _ _ _ _ (by show g ≠ w.heap.size + 1; omega)).trans (heap_setCell_other _ _ _ _ (by show g ≠ w.heap.size + 1; omega))).trans (heap_setCell_other _ _ _ _ (by show g ≠ w.heap.size + 1; omega))
      exact Vec.owns (k := 1) (enc := encS) (fun _ => rfl) hown (fun b h1 _ => by show w.heap.size ≤ b; omega)
end
section
open Go.RowKit
theorem deck_law {w w1 : World} {a : Option Addr} {n cap : Nat} {zs : List Int} (hn : n ≤ 400) (hr : IsRow .i64 w a n cap zs) (hb : Below w.heap.size w w1) :
    DeckAt (w1.alloc (.cells #[.slice a n cap, .int .i64 0, .int .u64 11400714819323198485] 95)) w1.heap.size :=
  deck_new hn fun h0 => by
    obtain ⟨b, off, e1, e2, e3⟩ := hr.read h0
    exact ⟨b, off, e1, Nat.lt_of_lt_of_le e2 hb.size, fun i hi => by obtain ⟨x, hx⟩ := e3 i hi; exact ⟨x, (hb.cell (p := ⟨b, off + i, none⟩) e2).trans hx⟩⟩
end
section
set_option maxRecDepth 100000
open Go.RowKit Cal
attribute [local go_sem] toList_mk mk_size str_append
theorem SchemaAt.moved {D : Nat} {w w' : World} {S : Nat → Prop} {vf vt vn vs : Value} {s : SchemaL} (h : SchemaAt w S vf vt vn vs s) (hS : ∀ b, S b → b ≠ D) (m : Moved D w w') : SchemaAt w' S vf vt vn vs s :=
  have mv : ∀ b, b < w.heap.size → S b → w'.heap[b]? = w.heap[b]? ∧ S b := fun b hb hs => ⟨m.grown.block b hb (by have := hS b hs; simp; omega), hs⟩
  ⟨h.1.move m.size mv, h.2.1.move m.size mv, h.2.2.1.move m.size mv, h.2.2.2.move m.size mv⟩
theorem fields_cell {w : World} {S : Nat → Prop} {a : Option Addr} {n cap : Nat} {F : List F2} (h : Vec w S 2 encF (.slice a n cap) F) (h0 : 0 < F.length) : ∃ b off, a = some ⟨b, off, none⟩ ∧ S b ∧ b < w.heap.size ∧ ∀ j, j < F.length → w.cell? ⟨b, off + j * 2 + 1, none⟩ = some (.int .i64 (F.getD j default).2) := by
  obtain ⟨b, off, e, hS, hb, hc⟩ := vec_cell2 h h0
  exact ⟨b, off, e, hS, hb, fun j hj => hc j hj 1 _ rfl⟩
/-- where a law stands that has dealt a schema: the deck in block D, the schema in block y, the kind of a field in cell o of block b -/
structure Drawn (D : Nat) (w : World) (y : Nat) (S : Nat → Prop) (vf vt vn vs : Value) (s : SchemaL) (b o : Nat) (kf : Int) (wr : World) : Prop where
  m : Moved D w wr
  x : wr.heap[y]? = some (.cells #[vf, vt, vn, vs] 43 (0, 0))
  s : SchemaAt wr S vf vt vn vs s
  c : wr.cell? ⟨b, o, none⟩ = some (.int .i64 kf)
  ne : ∀ b, S b → b ≠ D
  yD : y ≠ D
  bD : b ≠ D
theorem Drawn.moved {D : Nat} {w : World} {y : Nat} {S : Nat → Prop} {vf vt vn vs : Value} {s : SchemaL} {b o : Nat} {kf : Int} {wr wd : World} (h : Drawn D w y S vf vt vn vs s b o kf wr) (m : Moved D wr wd) : Drawn D w y S vf vt vn vs s b o kf wd :=
  ⟨h.m.trans m, m.blk h.yD h.x, h.s.moved h.ne m, (World.cell?_of_block (w := wr) (a := ⟨b, o, none⟩) (m.grown.block b (World.block_lt_of_cell? _ ⟨b, o, none⟩ h.c) (by have := h.bD; simp; omega))).trans h.c, h.ne, h.yD, h.bD⟩
theorem Drawn.below {D : Nat} {w : World} {y : Nat} {S : Nat → Prop} {vf vt vn vs : Value} {s : SchemaL} {b o : Nat} {kf : Int} {wr wd : World} (h : Drawn D w y S vf vt vn vs s b o kf wr) (hb : Below wr.heap.size wr wd) : Drawn D w y S vf vt vn vs s b o kf wd :=
  h.moved ((Moved.start h.m.deck).below hb)
theorem Drawn.held {D : Nat} {w : World} {y : Nat} {S : Nat → Prop} {vf vt vn vs : Value} {s : SchemaL} {b o : Nat} {kf : Int} {wr : World} (h : Drawn D w y S vf vt vn vs s b o kf wr) :
    wr.cell? ⟨y, 0, none⟩ = some vf ∧ wr.cell? ⟨y, 1, none⟩ = some vt ∧ wr.cell? ⟨y, 2, none⟩ = some vn ∧ wr.cell? ⟨y, 3, none⟩ = some vs ∧ wr.cell? ⟨b, o, none⟩ = some (.int .i64 kf) := by
  obtain ⟨p0, p1, p2, p3⟩ := cells4 h.x
  exact ⟨p0, p1, p2, p3, h.c⟩
end
end Go.Proofs.YtaoebplnbcimlaaGreatDoor
