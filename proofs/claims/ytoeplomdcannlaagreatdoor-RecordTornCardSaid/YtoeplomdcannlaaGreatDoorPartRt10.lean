/- Parts of one proof: RefRecE, RefRecF, MakeM, Handed, VarsGive. -/
import Derived.Test.YtoeplomdcannlaaGreatDoorPartRt9
import Derived.Handed
import Derived.HandedShaped
import Derived.MakeChecks
import Derived.LaidLaws
set_option linter.unusedSimpArgs false
set_option linter.unusedVariables false
namespace Go.Proofs.YtoeplomdcannlaaGreatDoor
section
set_option maxRecDepth 100000
open Go.RowKit Cal
attribute [local go_sem] toList_mk mk_size
set_option maxHeartbeats 8000000 in
theorem rrall_any (S T : Nat → Prop) (vf vt vn vs rv : Value) (s : SchemaL) (R : List RecL) (w : World) (h : SchemaAt w S vf vt vn vs s) (hr : RecsVec w T rv R) (hl : ∀ r ∈ R, ∀ x ∈ r.vals, x.length ≤ 1000000) (hn : ∀ r ∈ R, r.vals.length ≤ 1000000) (hR : R.length ≤ 1000000) :
    Calls Tryz.prog 39 #[.agg #[vf, vt, vn, vs], rv] w fun e w' => e = .returned (.int .i64 (allN s R)) ∧ Below w.heap.size w w' := by
  obtain ⟨ar, cr, rfl⟩ := hr.slice
  have HS := Lib.hid h; have HR := Lib.hid hr.any; have HL := Lib.hid hl; have HN := Lib.hid hn
  obtain ⟨E, hE⟩ : ∃ E, allN s R = E := ⟨_, rfl⟩
  rw [hE]
  have HE := Lib.hid hE
  clear h hr hl hn hE
  go_enter Tryz.func39, Tryz.ntmps39
  go_wp2_with fail
  refine wp_calls_world (fun W hW => ?_)
  have hb0 : Below w.heap.size w W := by rw [hW]; exact (Below.refl w.heap.size w).alloc (Nat.le_refl _) _
  have hs0 : W.heap[w.heap.size]? = some (.cells #[vf, vt, vn, vs] 33 (0, 0)) := by rw [hW]; exact blk_new rfl
  clear hW
  refine (rscheck_any S _ _ _ _ s W (HS.out.below hb0)).mono ?_
  rintro e w1 ⟨rfl, hb⟩
  have hs1 := blk_below hb (lt_of_blk hs0) hs0
  have HB1 := Lib.hid (hb0.trans (hb.mono hb0.size)); have HS1 := Lib.hid hs1
  clear hb hb0 hs0 hs1
  obtain ⟨c, hc⟩ : ∃ c, checkS s = c := ⟨_, rfl⟩
  rw [hc]
  by_cases hc0 : c = 0
  · subst hc0
    have dz : ((0 : Int) != 0) = false := rfl
    have HC := Lib.hid hc
    by_cases h64 : R.length ≤ 64
    · have d64 : decide ((64 : Int) < (R.length : Int)) = false := by simp; omega
      have HE2 := Lib.hid (show allA s none R = E by rw [← HE.out]; unfold allN; rw [if_pos hc, if_pos h64])
      clear hc HE
      go_wp2_with fail
      go_loopw [6] (fun t wr => ∃ j : Nat, t = .int .i64 j ∧ j ≤ R.length ∧ Hid (allA s (prevR R j) (R.drop j) = E) ∧ Below w1.heap.size w1 wr) (fun t _ => R.length - (intOf t).toNat)
      case atStart => exact ⟨0, rfl, by omega, HE2, Below.refl _ _⟩
      case round =>
        obtain ⟨j, rfl, hj, HT, hbw⟩ := hrel
        have HBW := Lib.hid hbw
        by_cases hlt : j < R.length
        · have hq : decide ((j : Int) < (R.length : Int)) = true := by simp; omega
          have hji : (j : Int) < (R.length : Int) := by omega
          have hbw0 := HB1.out.trans (hbw.mono HB1.out.size)
          obtain ⟨b, off, id, ver, aa, nn, cc, vals, rfl, lb, c0, c1, c2, hRj, hvv⟩ := (HR.out.below hbw0).at j hlt
          obtain ⟨s0, s1, s2, s3⟩ := cellsS (blk_below hbw (lt_of_blk HS1.out) HS1.out)
          have lsr : w.heap.size < wr.heap.size := by have := lt_of_blk HS1.out; have := hbw.size; omega
          have hT := HT.out
          rw [List.drop_eq_getElem_cons hlt, allA_cons] at hT
          have hmem : R[j] ∈ R := List.getElem_mem hlt
          have HLv := Lib.hid (HL.out _ hmem); have HNv := HN.out _ hmem
          have HP := Lib.hid (show j ≠ 0 → ∃ pid : Int, prevR R j = some pid ∧ wr.cell? ⟨b, off + (j - 1) * 3, none⟩ = some (.int .i64 pid) from fun h0 => by
            obtain ⟨b', off', id', ver', aa', nn', cc', vals', he, _, d0, _, _, hR', _⟩ := (HR.out.below hbw0).at (j - 1) (by omega)
            cases he
            refine ⟨id', ?_, d0⟩
            unfold prevR
            rw [if_neg h0, getD_at _ _ (by omega), hR'])
          rw [hRj] at hT HLv HNv
          have HRJ := Lib.hid hRj; have HV := Lib.hid hvv; have HT2 := Lib.hid hT
          have HB0 := Lib.hid hbw0
          clear hT hmem hRj hvv HT hbw hbw0
          dsimp only at HLv HNv
          have hvl := HV.out.len.1
          subst hvl
          obtain ⟨ci, hci⟩ : ∃ ci, checkI s ⟨id, ver, vals⟩ = ci := ⟨_, rfl⟩
          have HCi := Lib.hid (show checkN s ⟨id, ver, vals⟩ = ci by unfold checkN; rw [if_pos HC.out, hci])
          have HCI := Lib.hid hci
          have bD : Below wr.heap.size wr wr.drew := (Below.refl _ _).drew
          clear hci
          go_wp2_with fail
          go_cut [7] (fun t7 wx => t7 = .int .i64 ci ∧ Below wr.heap.size wr wx)
          case first =>
            refine wp_region_noPanic ?_
            refine wp_region_held_drew (S := (fun w' => w'.cell? ⟨w.heap.size, 0, none⟩ = some vf ∧ w'.cell? ⟨w.heap.size, 1, none⟩ = some vt ∧ w'.cell? ⟨w.heap.size, 2, none⟩ = some vn ∧ w'.cell? ⟨w.heap.size, 3, none⟩ = some vs ∧ w'.cell? ⟨b, off + j * 3, none⟩ = some (.int .i64 id) ∧ w'.cell? ⟨b, off + j * 3 + 1, none⟩ = some (.int .i64 ver) ∧ w'.cell? ⟨b, off + j * 3 + 2, none⟩ = some (.slice aa vals.length cc))) (by kernel_rfl) (⟨s0, s1, s2, s3, c0, c1, c2⟩) (fun hHeld => ?_)
            refine tH 0 (h := ?_)
            try simp only [List.getElem_toArray, List.getElem_cons_zero, List.getElem_cons_succ, Act.put, List.setIfInBounds_toArray, List.set_cons_zero, List.set_cons_succ]
            refine tH 1 (h := ?_)
            try simp only [List.getElem_toArray, List.getElem_cons_zero, List.getElem_cons_succ, Act.put, List.setIfInBounds_toArray, List.set_cons_zero, List.set_cons_succ]
            refine tH 2 (h := ?_)
            try simp only [List.getElem_toArray, List.getElem_cons_zero, List.getElem_cons_succ, Act.put, List.setIfInBounds_toArray, List.set_cons_zero, List.set_cons_succ]
            refine tH 3 (h := ?_)
            try simp only [List.getElem_toArray, List.getElem_cons_zero, List.getElem_cons_succ, Act.put, List.setIfInBounds_toArray, List.set_cons_zero, List.set_cons_succ]
            refine tH 4 (h := ?_)
            try simp only [List.getElem_toArray, List.getElem_cons_zero, List.getElem_cons_succ, Act.put, List.setIfInBounds_toArray, List.set_cons_zero, List.set_cons_succ]
            refine wpAnyH_ready (rs := [5]) (by kernel_rfl) (by simp) ?_
            refine AllReadyH.cons rfl (fun K hK => ?_) AllReadyH.nil
            go_simp
            refine (rrcheck_any S Any1 _ _ _ _ s ⟨id, ver, vals⟩ _ _ ((HS.out.below HB0.out).below bD) (HV.out.below bD) HLv.out HNv).mono ?_; rw [HCi.out]; rintro e w2 ⟨rfl, hb⟩; have b2 := bD.trans (hb.mono bD.size); clear hb
            refine hK.out _ _ (⟨(b2.cell (p := ⟨w.heap.size, 0, none⟩) lsr).trans s0, (b2.cell (p := ⟨w.heap.size, 1, none⟩) lsr).trans s1, (b2.cell (p := ⟨w.heap.size, 2, none⟩) lsr).trans s2, (b2.cell (p := ⟨w.heap.size, 3, none⟩) lsr).trans s3, (b2.cell (p := ⟨b, off + j * 3, none⟩) lb).trans c0, (b2.cell (p := ⟨b, off + j * 3 + 1, none⟩) lb).trans c1, (b2.cell (p := ⟨b, off + j * 3 + 2, none⟩) lb).trans c2⟩) (fun hHeld => ?_)
            clear hK K
            try simp only [List.getElem_toArray, List.getElem_cons_zero, List.getElem_cons_succ, Act.put, List.setIfInBounds_toArray, List.set_cons_zero, List.set_cons_succ]
            refine tH 6 (h := ?_)
            try simp only [List.getElem_toArray, List.getElem_cons_zero, List.getElem_cons_succ, Act.put, List.setIfInBounds_toArray, List.set_cons_zero, List.set_cons_succ]
            refine wpAnyH_done (by kernel_rfl) ?_ _
            refine NoPanic.normal ?_
            go_wp2_with fail
            go_meet
            exact ⟨rfl, b2⟩
          case rest =>
            obtain ⟨w2, hw2⟩ : ∃ u, u = wc := ⟨_, rfl⟩
            subst hw2
            obtain ⟨rfl, hbr⟩ := hcut
            have HB2 := Lib.hid (HBW.out.trans (hbr.mono HBW.out.size))
            have HBR := Lib.hid hbr
            have r0 := (hbr.cell (p := ⟨b, off + j * 3, none⟩) lb).trans c0
            clear hbr s0 s1 s2 s3 c0 c1 c2 bD
            by_cases hci0 : ci = 0
            · subst hci0
              have hT3 := HT2.out
              rw [HCI.out, if_pos rfl] at hT3
              have HT3 := Lib.hid hT3
              clear hT3 HT2
              by_cases hj0 : j = 0
              · have dj : decide (0 < j) = false := by simp; omega
                have HT4 := Lib.hid (show allA s (prevR R (j + 1)) (R.drop (j + 1)) = E by
                  have := HT3.out
                  rw [show prevR R j = none by unfold prevR; rw [if_pos hj0]] at this
                  rw [← this]
                  unfold prevR
                  rw [if_neg (by omega), show j + 1 - 1 = j by omega, getD_at _ _ hlt, HRJ.out]; rfl)
                clear HT3 HP
                go_wp2_with fail
                refine wp_region_noPanic ?_
                refine wp_region_held_drew (S := (fun w' => True)) (by kernel_rfl) (trivial) (fun hHeld => ?_)
                refine tH 0 (h := ?_)
                try simp only [List.getElem_toArray, List.getElem_cons_zero, List.getElem_cons_succ, Act.put, List.setIfInBounds_toArray, List.set_cons_zero, List.set_cons_succ]
                refine tH 1 (h := ?_)
                try simp only [List.getElem_toArray, List.getElem_cons_zero, List.getElem_cons_succ, Act.put, List.setIfInBounds_toArray, List.set_cons_zero, List.set_cons_succ]
                refine tH 2 (h := ?_)
                try simp only [List.getElem_toArray, List.getElem_cons_zero, List.getElem_cons_succ, Act.put, List.setIfInBounds_toArray, List.set_cons_zero, List.set_cons_succ]
                refine sH 3 (h := ?_)
                try simp only [List.getElem_toArray, List.getElem_cons_zero, List.getElem_cons_succ, Act.put, List.setIfInBounds_toArray, List.set_cons_zero, List.set_cons_succ]
                refine sH 4 (h := ?_)
                try simp only [List.getElem_toArray, List.getElem_cons_zero, List.getElem_cons_succ, Act.put, List.setIfInBounds_toArray, List.set_cons_zero, List.set_cons_succ]
                refine sH 5 (h := ?_)
                try simp only [List.getElem_toArray, List.getElem_cons_zero, List.getElem_cons_succ, Act.put, List.setIfInBounds_toArray, List.set_cons_zero, List.set_cons_succ]
                refine sH 6 (h := ?_)
                try simp only [List.getElem_toArray, List.getElem_cons_zero, List.getElem_cons_succ, Act.put, List.setIfInBounds_toArray, List.set_cons_zero, List.set_cons_succ]
                refine sH 7 (h := ?_)
                try simp only [List.getElem_toArray, List.getElem_cons_zero, List.getElem_cons_succ, Act.put, List.setIfInBounds_toArray, List.set_cons_zero, List.set_cons_succ]
                refine sH 8 (h := ?_)
                try simp only [List.getElem_toArray, List.getElem_cons_zero, List.getElem_cons_succ, Act.put, List.setIfInBounds_toArray, List.set_cons_zero, List.set_cons_succ]
                refine sH 9 (h := ?_)
                try simp only [List.getElem_toArray, List.getElem_cons_zero, List.getElem_cons_succ, Act.put, List.setIfInBounds_toArray, List.set_cons_zero, List.set_cons_succ]
                refine sH 10 (h := ?_)
                try simp only [List.getElem_toArray, List.getElem_cons_zero, List.getElem_cons_succ, Act.put, List.setIfInBounds_toArray, List.set_cons_zero, List.set_cons_succ]
                refine sH 11 (h := ?_)
                try simp only [List.getElem_toArray, List.getElem_cons_zero, List.getElem_cons_succ, Act.put, List.setIfInBounds_toArray, List.set_cons_zero, List.set_cons_succ]
                refine sH 12 (h := ?_)
                try simp only [List.getElem_toArray, List.getElem_cons_zero, List.getElem_cons_succ, Act.put, List.setIfInBounds_toArray, List.set_cons_zero, List.set_cons_succ]
                refine sH 13 (h := ?_)
                try simp only [List.getElem_toArray, List.getElem_cons_zero, List.getElem_cons_succ, Act.put, List.setIfInBounds_toArray, List.set_cons_zero, List.set_cons_succ]
                refine sH 14 (h := ?_)
                try simp only [List.getElem_toArray, List.getElem_cons_zero, List.getElem_cons_succ, Act.put, List.setIfInBounds_toArray, List.set_cons_zero, List.set_cons_succ]
                refine tH 15 (h := ?_)
                try simp only [List.getElem_toArray, List.getElem_cons_zero, List.getElem_cons_succ, Act.put, List.setIfInBounds_toArray, List.set_cons_zero, List.set_cons_succ]
                refine wpAnyH_done (by kernel_rfl) ?_ _
                refine NoPanic.normal ?_
                go_wp2_with fail
                go_roundw
                case rel => exact ⟨j + 1, by go_num, by omega, HT4, HB2.out.drew⟩
                case measure => simp [intOf]; omega
              · have dj : decide (0 < j) = true := by simp; omega
                obtain ⟨pid, hpr, hpc⟩ := HP.out hj0
                have hpc2 := (HBR.out.cell (p := ⟨b, off + (j - 1) * 3, none⟩) lb).trans hpc
                have hj1 : (j : Int) - 1 < (R.length : Int) := by omega
                have hj2 : (1 : Int) ≤ (j : Int) := by omega
                have hj3 : ((j : Int) - 1).toNat = j - 1 := by omega
                have hwr : IntKind.i64.wrap ((j : Int) - 1) = (j : Int) - 1 := by rw [IntKind.wrap_i64]; omega
                have hT4 := HT3.out
                rw [hpr] at hT4
                clear HP hpc HT3
                by_cases hle : id ≤ pid
                · have dle : decide (id ≤ pid) = true := by simpa using hle
                  have hE12 : E = 12 := by rw [← hT4]; unfold notB; dsimp only; rw [if_pos dle]
                  subst hE12
                  clear hT4
                  go_wp2_with fail
                  refine wp_region_noPanic ?_
                  refine wp_region_held_drew (S := (fun w' => w'.cell? ⟨b, off + (j - 1) * 3, none⟩ = some (.int .i64 pid) ∧ w'.cell? ⟨b, off + j * 3, none⟩ = some (.int .i64 id))) (by kernel_rfl) (⟨hpc2, r0⟩) (fun hHeld => ?_)
                  refine tH 0 (h := ?_)
                  try simp only [List.getElem_toArray, List.getElem_cons_zero, List.getElem_cons_succ, Act.put, List.setIfInBounds_toArray, List.set_cons_zero, List.set_cons_succ]
                  refine tH 1 (h := ?_)
                  try simp only [List.getElem_toArray, List.getElem_cons_zero, List.getElem_cons_succ, Act.put, List.setIfInBounds_toArray, List.set_cons_zero, List.set_cons_succ]
                  refine tH 2 (h := ?_)
                  try simp only [List.getElem_toArray, List.getElem_cons_zero, List.getElem_cons_succ, Act.put, List.setIfInBounds_toArray, List.set_cons_zero, List.set_cons_succ]
                  refine tH 3 (h := ?_)
                  try simp only [List.getElem_toArray, List.getElem_cons_zero, List.getElem_cons_succ, Act.put, List.setIfInBounds_toArray, List.set_cons_zero, List.set_cons_succ]
                  refine tH 4 (h := ?_)
                  try simp only [List.getElem_toArray, List.getElem_cons_zero, List.getElem_cons_succ, Act.put, List.setIfInBounds_toArray, List.set_cons_zero, List.set_cons_succ]
                  refine tH 5 (h := ?_)
                  try simp only [List.getElem_toArray, List.getElem_cons_zero, List.getElem_cons_succ, Act.put, List.setIfInBounds_toArray, List.set_cons_zero, List.set_cons_succ]
                  refine tH 6 (h := ?_)
                  try simp only [List.getElem_toArray, List.getElem_cons_zero, List.getElem_cons_succ, Act.put, List.setIfInBounds_toArray, List.set_cons_zero, List.set_cons_succ]
                  refine tH 7 (h := ?_)
                  try simp only [List.getElem_toArray, List.getElem_cons_zero, List.getElem_cons_succ, Act.put, List.setIfInBounds_toArray, List.set_cons_zero, List.set_cons_succ]
                  refine tH 8 (h := ?_)
                  try simp only [List.getElem_toArray, List.getElem_cons_zero, List.getElem_cons_succ, Act.put, List.setIfInBounds_toArray, List.set_cons_zero, List.set_cons_succ]
                  refine tH 9 (h := ?_)
                  try simp only [List.getElem_toArray, List.getElem_cons_zero, List.getElem_cons_succ, Act.put, List.setIfInBounds_toArray, List.set_cons_zero, List.set_cons_succ]
                  refine tH 10 (h := ?_)
                  try simp only [List.getElem_toArray, List.getElem_cons_zero, List.getElem_cons_succ, Act.put, List.setIfInBounds_toArray, List.set_cons_zero, List.set_cons_succ]
                  refine tH 11 (h := ?_)
                  try simp only [List.getElem_toArray, List.getElem_cons_zero, List.getElem_cons_succ, Act.put, List.setIfInBounds_toArray, List.set_cons_zero, List.set_cons_succ]
                  refine tH 12 (h := ?_)
                  try simp only [List.getElem_toArray, List.getElem_cons_zero, List.getElem_cons_succ, Act.put, List.setIfInBounds_toArray, List.set_cons_zero, List.set_cons_succ]
                  refine tH 13 (h := ?_)
                  try simp only [List.getElem_toArray, List.getElem_cons_zero, List.getElem_cons_succ, Act.put, List.setIfInBounds_toArray, List.set_cons_zero, List.set_cons_succ]
                  refine tH 14 (h := ?_)
                  try simp only [List.getElem_toArray, List.getElem_cons_zero, List.getElem_cons_succ, Act.put, List.setIfInBounds_toArray, List.set_cons_zero, List.set_cons_succ]
                  refine tH 15 (h := ?_)
                  try simp only [List.getElem_toArray, List.getElem_cons_zero, List.getElem_cons_succ, Act.put, List.setIfInBounds_toArray, List.set_cons_zero, List.set_cons_succ]
                  refine wpAnyH_done (by kernel_rfl) ?_ _
                  refine NoPanic.normal ?_
                  go_wp2_with fail
                  go_ret
                  exact ⟨rfl, HB1.out.trans (HB2.out.drew.mono HB1.out.size)⟩
                · have dle : decide (id ≤ pid) = false := by simpa using hle
                  have HT5 := Lib.hid (show allA s (prevR R (j + 1)) (R.drop (j + 1)) = E by
                    rw [← hT4]
                    unfold notB; dsimp only
                    rw [if_neg (by rw [dle]; decide)]
                    unfold prevR
                    rw [if_neg (by omega), show j + 1 - 1 = j by omega, getD_at _ _ hlt, HRJ.out])
                  clear hT4
                  go_wp2_with fail
                  refine wp_region_noPanic ?_
                  refine wp_region_held_drew (S := (fun w' => w'.cell? ⟨b, off + (j - 1) * 3, none⟩ = some (.int .i64 pid) ∧ w'.cell? ⟨b, off + j * 3, none⟩ = some (.int .i64 id))) (by kernel_rfl) (⟨hpc2, r0⟩) (fun hHeld => ?_)
                  refine tH 0 (h := ?_)
                  try simp only [List.getElem_toArray, List.getElem_cons_zero, List.getElem_cons_succ, Act.put, List.setIfInBounds_toArray, List.set_cons_zero, List.set_cons_succ]
                  refine tH 1 (h := ?_)
                  try simp only [List.getElem_toArray, List.getElem_cons_zero, List.getElem_cons_succ, Act.put, List.setIfInBounds_toArray, List.set_cons_zero, List.set_cons_succ]
                  refine tH 2 (h := ?_)
                  try simp only [List.getElem_toArray, List.getElem_cons_zero, List.getElem_cons_succ, Act.put, List.setIfInBounds_toArray, List.set_cons_zero, List.set_cons_succ]
                  refine tH 3 (h := ?_)
                  try simp only [List.getElem_toArray, List.getElem_cons_zero, List.getElem_cons_succ, Act.put, List.setIfInBounds_toArray, List.set_cons_zero, List.set_cons_succ]
                  refine tH 4 (h := ?_)
                  try simp only [List.getElem_toArray, List.getElem_cons_zero, List.getElem_cons_succ, Act.put, List.setIfInBounds_toArray, List.set_cons_zero, List.set_cons_succ]
                  refine tH 5 (h := ?_)
                  try simp only [List.getElem_toArray, List.getElem_cons_zero, List.getElem_cons_succ, Act.put, List.setIfInBounds_toArray, List.set_cons_zero, List.set_cons_succ]
                  refine tH 6 (h := ?_)
                  try simp only [List.getElem_toArray, List.getElem_cons_zero, List.getElem_cons_succ, Act.put, List.setIfInBounds_toArray, List.set_cons_zero, List.set_cons_succ]
                  refine tH 7 (h := ?_)
                  try simp only [List.getElem_toArray, List.getElem_cons_zero, List.getElem_cons_succ, Act.put, List.setIfInBounds_toArray, List.set_cons_zero, List.set_cons_succ]
                  refine tH 8 (h := ?_)
                  try simp only [List.getElem_toArray, List.getElem_cons_zero, List.getElem_cons_succ, Act.put, List.setIfInBounds_toArray, List.set_cons_zero, List.set_cons_succ]
                  refine tH 9 (h := ?_)
                  try simp only [List.getElem_toArray, List.getElem_cons_zero, List.getElem_cons_succ, Act.put, List.setIfInBounds_toArray, List.set_cons_zero, List.set_cons_succ]
                  refine tH 10 (h := ?_)
                  try simp only [List.getElem_toArray, List.getElem_cons_zero, List.getElem_cons_succ, Act.put, List.setIfInBounds_toArray, List.set_cons_zero, List.set_cons_succ]
                  refine tH 11 (h := ?_)
                  try simp only [List.getElem_toArray, List.getElem_cons_zero, List.getElem_cons_succ, Act.put, List.setIfInBounds_toArray, List.set_cons_zero, List.set_cons_succ]
                  refine tH 12 (h := ?_)
                  try simp only [List.getElem_toArray, List.getElem_cons_zero, List.getElem_cons_succ, Act.put, List.setIfInBounds_toArray, List.set_cons_zero, List.set_cons_succ]
                  refine tH 13 (h := ?_)
                  try simp only [List.getElem_toArray, List.getElem_cons_zero, List.getElem_cons_succ, Act.put, List.setIfInBounds_toArray, List.set_cons_zero, List.set_cons_succ]
                  refine tH 14 (h := ?_)
                  try simp only [List.getElem_toArray, List.getElem_cons_zero, List.getElem_cons_succ, Act.put, List.setIfInBounds_toArray, List.set_cons_zero, List.set_cons_succ]
                  refine tH 15 (h := ?_)
                  try simp only [List.getElem_toArray, List.getElem_cons_zero, List.getElem_cons_succ, Act.put, List.setIfInBounds_toArray, List.set_cons_zero, List.set_cons_succ]
                  refine wpAnyH_done (by kernel_rfl) ?_ _
                  refine NoPanic.normal ?_
                  go_wp2_with fail
                  go_roundw
                  case rel => exact ⟨j + 1, by go_num, by omega, HT5, HB2.out.drew⟩
                  case measure => simp [intOf]; omega
            · have hE3 : E = ci := by rw [← HT2.out, HCI.out, if_neg hci0]
              have dne : (ci != (0 : Int)) = true := by simpa using hci0
              subst hE3
              clear HT2 HE2 HP
              go_wp2_with fail
              go_ret
              exact ⟨rfl, HB1.out.trans (HB2.out.mono HB1.out.size)⟩
        · have hq : decide ((j : Int) < (R.length : Int)) = false := by simp; omega
          obtain rfl : j = R.length := by omega
          have hE0 : E = 0 := by rw [← HT.out, List.drop_length]; rfl
          subst hE0
          go_wp2_with fail
          go_ret
          exact ⟨rfl, HB1.out.trans (hbw.mono HB1.out.size)⟩
    · have d64 : decide ((64 : Int) < (R.length : Int)) = true := decide_eq_true (by omega)
      have hE1 : E = 1 := by rw [← HE.out]; unfold allN; rw [if_pos hc, if_neg h64]
      subst hE1
      clear hc HE
      go_wp2_with fail
      go_ret
      exact ⟨rfl, HB1.out⟩
  · have dne : (c != (0 : Int)) = true := by simpa using hc0
    have hE1 : E = c := by rw [← HE.out]; unfold allN; rw [hc, if_neg hc0]
    subst hE1
    clear HE
    go_wp2_with fail
    go_ret
    exact ⟨rfl, HB1.out⟩
end
section
set_option maxRecDepth 100000
open Go.RowKit Cal
attribute [local go_sem] toList_mk mk_size str_append
set_option maxHeartbeats 8000000 in
theorem rrfile_yes (S T : Nat → Prop) (vf vt vn vs rv : Value) (s : SchemaL) (R : List RecL) (w : World) (h : SchemaAt w S vf vt vn vs s) (hr : RecsVec w T rv R) (hR : allN s R = 0) :
    Calls Tryz.prog 23 #[.agg #[vf, vt, vn, vs], rv] w fun e w' => e = .returned (.tuple #[strV (fileR R), .int .i64 0]) ∧ Below w.heap.size w w' := by
  obtain ⟨hc, hl64, hck⟩ := allN_ok hR
  have hckI : ∀ r ∈ R, checkI s r = 0 := fun r hr => by have := hck r hr; unfold checkN at this; rwa [if_pos hc] at this
  have h5 := (check_fields hc).1.2
  have hlenj := follows_len hR h5
  obtain ⟨ar, cr, rfl⟩ := hr.slice
  have hsm := recs_of_all hR
  have hit := fun w => rnum01_any 7 R.length w (by omega) (by omega)
  have hdl : (Lib.decDigits R.length).length ≤ 7 := dec_most (k := 7) (by decide) (by omega)
  have hfr : fileR R = rowsT (R.map rowR) ++ ([101, 110, 100, 32] ++ Lib.decDigits R.length ++ [10]) := by unfold fileR; rw [rowsT_append, rowsT_one]; rfl
  rw [hfr]
  obtain ⟨d, hd⟩ : ∃ d, Lib.decDigits R.length = d := ⟨_, rfl⟩
  rw [hd] at hit hdl ⊢
  have HS := Lib.hid h; have HRV := Lib.hid hr; have HR0 := Lib.hid hR; have HCk := Lib.hid hckI; have HSm := Lib.hid hsm; have HIt := Lib.hid hit; have HLen := Lib.hid hlenj; have HH5 := Lib.hid h5
  have dz : ((0 : Int) != 0) = false := rfl
  clear h hr hR hckI hsm hit hlenj hck hd hfr hc
  go_enter Tryz.func23, Tryz.ntmps23
  go_wp2_with fail
  refine wp_calls_world (fun W hW => ?_)
  have hb0 : Below w.heap.size w W := by rw [hW]; exact (Below.refl w.heap.size w).alloc (Nat.le_refl _) _
  clear hW
  refine (rrall_any S T _ _ _ _ _ s R W (HS.out.below hb0) (HRV.out.below hb0) (fun r hr x hx => by have := HSm.out.2 r hr x hx; omega) (fun r hr => by have := (checkI_ok (HCk.out r hr)).2.1; omega) (by omega)).mono ?_
  rw [HR0.out]
  rintro e w1 ⟨rfl, hb⟩
  have HB1 := Lib.hid (hb0.trans (hb.mono hb0.size))
  have HRV1 := Lib.hid ((HRV.out.below hb0).below hb)
  clear hb hb0
  go_wp2_with fail
  go_loopw [7, 8] (fun v t wr => ∃ k : Nat, k ≤ R.length ∧ t = .int .i64 k ∧ v = strV (rowsT ((R.take k).map rowR)) ∧ Below w1.heap.size w1 wr) (fun _ t _ => R.length - (intOf t).toNat)
  case atStart => exact ⟨0, by omega, rfl, by simp [rowsT], Below.refl _ _⟩
  case round =>
    obtain ⟨k, hk, rfl, rfl, hbw⟩ := hrel
    have HBw := Lib.hid hbw; have HRVw := Lib.hid (HRV1.out.below hbw)
    have hkl := HLen.out k
    clear hbw
    by_cases hlt : k < R.length
    · have hq : decide ((k : Int) < R.length) = true := by simp; omega
      have hki : (k : Int) < (R.length : Int) := by omega
      obtain ⟨b, off, id, ver, aa, nn, cc, vals, rfl, lb, c0, c1, c2, hRj, hvv⟩ := HRVw.out.at k hlt
      have hci := HCk.out R[k] (List.getElem_mem hlt)
      rw [hRj] at hci
      obtain ⟨hid, hvl, hvs⟩ := checkI_ok hci
      have hll := lineR_len hci HH5.out
      have HLn := Lib.hid (rrline_yes T ⟨id, ver, vals⟩ (.slice aa nn cc) · · hid (fun t ht => (hvs t ht).1) (by have := HH5.out; dsimp only at hvl ⊢; omega))
      have HVV := Lib.hid hvv
      have hrow : rowsT ((R.take (k + 1)).map rowR) = rowsT ((R.take k).map rowR) ++ (lineR ⟨id, ver, vals⟩ ++ 9 :: (sumT (lineR ⟨id, ver, vals⟩)) ++ [10]) := by
        rw [List.take_succ_eq_append_getElem hlt, List.map_append, rowsT_append, List.map_cons, List.map_nil, rowsT_one, hRj]; rfl
      have hsl := sumT_len (lineR ⟨id, ver, vals⟩)
      have hsum := fun w => rrsum_any (lineR ⟨id, ver, vals⟩) w (by omega)
      obtain ⟨L, hL⟩ : ∃ L, lineR ⟨id, ver, vals⟩ = L := ⟨_, rfl⟩
      rw [hL] at hrow hll hsl hsum HLn
      obtain ⟨Z, hZ⟩ : ∃ Z, sumT L = Z := ⟨_, rfl⟩
      rw [hZ] at hrow hsl hsum
      obtain ⟨X, hX⟩ : ∃ X, rowsT ((R.take k).map rowR) = X := ⟨_, rfl⟩
      rw [hX] at hrow hkl ⊢
      have HRow := Lib.hid hrow; have HSum := Lib.hid hsum
      have bD : Below wr.heap.size wr wr.drew := (Below.refl _ _).drew
      have n1 : ¬ 9223372036854775807 < L.length + 1 := by omega
      have n2 : ¬ 9223372036854775807 < L.length + 1 + Z.length := by omega
      have n3 : ¬ 9223372036854775807 < L.length + 1 + Z.length + 1 := by omega
      have n4 : ¬ 9223372036854775807 < X.length + (L.length + 1 + Z.length + 1) := by omega
      have n5 : ¬ 9223372036854775807 < L.length + (Z.length + 1) := by omega
      have n6 : ¬ 9223372036854775807 < L.length + (Z.length + 1) + 1 := by omega
      have n7 : ¬ 9223372036854775807 < L.length + (Z.length + 1 + 1) := by omega
      have n8 : ¬ 9223372036854775807 < X.length + (L.length + (Z.length + 1 + 1)) := by omega
      have n9 : ¬ 9223372036854775807 < X.length + (L.length + (Z.length + 1) + 1) := by omega
      clear hsl hrow hsum hL hZ hX hRj hci hid hvl hvs hvv
      go_wp2_with fail
      refine wp_region_noPanic ?_
      refine wp_region_held_drew (S := (fun w' => w'.cell? ⟨b, off + k * 3, none⟩ = some (.int .i64 id) ∧ w'.cell? ⟨b, off + k * 3 + 1, none⟩ = some (.int .i64 ver) ∧ w'.cell? ⟨b, off + k * 3 + 2, none⟩ = some (.slice aa nn cc))) (by kernel_rfl) (⟨c0, c1, c2⟩) (fun hHeld => ?_)
      refine tH 0 (h := ?_)
      try simp only [List.getElem_toArray, List.getElem_cons_zero, List.getElem_cons_succ, Act.put, List.setIfInBounds_toArray, List.set_cons_zero, List.set_cons_succ]
      refine tH 1 (h := ?_)
      try simp only [List.getElem_toArray, List.getElem_cons_zero, List.getElem_cons_succ, Act.put, List.setIfInBounds_toArray, List.set_cons_zero, List.set_cons_succ]
      refine tH 2 (h := ?_)
      try simp only [List.getElem_toArray, List.getElem_cons_zero, List.getElem_cons_succ, Act.put, List.setIfInBounds_toArray, List.set_cons_zero, List.set_cons_succ]
      refine tH 3 (h := ?_)
      try simp only [List.getElem_toArray, List.getElem_cons_zero, List.getElem_cons_succ, Act.put, List.setIfInBounds_toArray, List.set_cons_zero, List.set_cons_succ]
      refine tH 4 (h := ?_)
      try simp only [List.getElem_toArray, List.getElem_cons_zero, List.getElem_cons_succ, Act.put, List.setIfInBounds_toArray, List.set_cons_zero, List.set_cons_succ]
      refine tH 7 (h := ?_)
      try simp only [List.getElem_toArray, List.getElem_cons_zero, List.getElem_cons_succ, Act.put, List.setIfInBounds_toArray, List.set_cons_zero, List.set_cons_succ]
      refine tH 8 (h := ?_)
      try simp only [List.getElem_toArray, List.getElem_cons_zero, List.getElem_cons_succ, Act.put, List.setIfInBounds_toArray, List.set_cons_zero, List.set_cons_succ]
      refine tH 9 (h := ?_)
      try simp only [List.getElem_toArray, List.getElem_cons_zero, List.getElem_cons_succ, Act.put, List.setIfInBounds_toArray, List.set_cons_zero, List.set_cons_succ]
      refine tH 10 (h := ?_)
      try simp only [List.getElem_toArray, List.getElem_cons_zero, List.getElem_cons_succ, Act.put, List.setIfInBounds_toArray, List.set_cons_zero, List.set_cons_succ]
      refine wpAnyH_ready (rs := [5]) (by kernel_rfl) (by simp) ?_
      refine AllReadyH.cons rfl (fun K hK => ?_) AllReadyH.nil
      go_simp
      refine (HLn.out _ (HVV.out.below bD)).mono ?_; rintro e w2 ⟨rfl, hb⟩; have b2 := bD.trans (hb.mono bD.size); clear hb
      refine hK.out _ _ (⟨(b2.cell (p := ⟨b, off + k * 3, none⟩) lb).trans c0, (b2.cell (p := ⟨b, off + k * 3 + 1, none⟩) lb).trans c1, (b2.cell (p := ⟨b, off + k * 3 + 2, none⟩) lb).trans c2⟩) (fun hHeld => ?_)
      clear hK K
      try simp only [List.getElem_toArray, List.getElem_cons_zero, List.getElem_cons_succ, Act.put, List.setIfInBounds_toArray, List.set_cons_zero, List.set_cons_succ]
      refine tH 6 (h := ?_)
      try simp only [List.getElem_toArray, List.getElem_cons_zero, List.getElem_cons_succ, Act.put, List.setIfInBounds_toArray, List.set_cons_zero, List.set_cons_succ]
      refine wpAnyH_ready (rs := [11]) (by kernel_rfl) (by simp) ?_
      refine AllReadyH.cons rfl (fun K hK => ?_) AllReadyH.nil
      go_simp
      refine (HLn.out _ (HVV.out.below b2)).mono ?_; rintro e w3 ⟨rfl, hb⟩; have b3 := b2.trans (hb.mono b2.size); clear hb
      refine hK.out _ _ (⟨(b3.cell (p := ⟨b, off + k * 3, none⟩) lb).trans c0, (b3.cell (p := ⟨b, off + k * 3 + 1, none⟩) lb).trans c1, (b3.cell (p := ⟨b, off + k * 3 + 2, none⟩) lb).trans c2⟩) (fun hHeld => ?_)
      clear hK K
      try simp only [List.getElem_toArray, List.getElem_cons_zero, List.getElem_cons_succ, Act.put, List.setIfInBounds_toArray, List.set_cons_zero, List.set_cons_succ]
      refine wpAnyH_ready (rs := [12]) (by kernel_rfl) (by simp) ?_
      refine AllReadyH.cons rfl (fun K hK => ?_) AllReadyH.nil
      go_simp
      refine (HSum.out _).mono ?_; rintro e w4 ⟨rfl, hb⟩; have b4 := b3.trans (hb.mono b3.size); clear hb
      refine hK.out _ _ (⟨(b4.cell (p := ⟨b, off + k * 3, none⟩) lb).trans c0, (b4.cell (p := ⟨b, off + k * 3 + 1, none⟩) lb).trans c1, (b4.cell (p := ⟨b, off + k * 3 + 2, none⟩) lb).trans c2⟩) (fun hHeld => ?_)
      clear hK K
      try simp only [List.getElem_toArray, List.getElem_cons_zero, List.getElem_cons_succ, Act.put, List.setIfInBounds_toArray, List.set_cons_zero, List.set_cons_succ]
      refine tH 13 (h := ?_)
      try simp only [List.getElem_toArray, List.getElem_cons_zero, List.getElem_cons_succ, Act.put, List.setIfInBounds_toArray, List.set_cons_zero, List.set_cons_succ]
      refine tH 14 (h := ?_)
      try simp only [List.getElem_toArray, List.getElem_cons_zero, List.getElem_cons_succ, Act.put, List.setIfInBounds_toArray, List.set_cons_zero, List.set_cons_succ]
      refine tH 15 (h := ?_)
      try simp only [List.getElem_toArray, List.getElem_cons_zero, List.getElem_cons_succ, Act.put, List.setIfInBounds_toArray, List.set_cons_zero, List.set_cons_succ]
      refine tH 16 (h := ?_)
      try simp only [List.getElem_toArray, List.getElem_cons_zero, List.getElem_cons_succ, Act.put, List.setIfInBounds_toArray, List.set_cons_zero, List.set_cons_succ]
      refine wpAnyH_done (by kernel_rfl) ?_ _
      refine NoPanic.normal ?_
      go_wp2_with fail
      go_roundw
      case rel => exact ⟨k + 1, by omega, by go_num, by rw [HRow.out]; simp, HBw.out.trans (b4.mono HBw.out.size)⟩
      case measure => simp [intOf]; omega
    · have hq : decide ((k : Int) < R.length) = false := by simp; omega
      obtain rfl : k = R.length := by omega
      rw [List.take_length] at hkl ⊢
      obtain ⟨X, hX⟩ : ∃ X, rowsT (R.map rowR) = X := ⟨_, rfl⟩
      rw [hX] at hkl ⊢
      have n1 : ¬ 9223372036854775807 < X.length + 4 := by omega
      have n2 : ¬ 9223372036854775807 < X.length + 4 + d.length := by omega
      have n3 : ¬ 9223372036854775807 < X.length + 4 + d.length + 1 := by omega
      have n4 : ¬ 9223372036854775807 < X.length + (d.length + 4) := by omega
      have n5 : ¬ 9223372036854775807 < X.length + (4 + d.length) := by omega
      have n6 : ¬ 9223372036854775807 < X.length + (d.length + 1 + 1 + 1 + 1) := by omega
      have n7 : ¬ 9223372036854775807 < X.length + (d.length + 1 + 1 + 1 + 1) + 1 := by omega
      have HX := Lib.hid hX
      clear hX
      go_wp2_with fail
      refine (HIt.out _).mono ?_
      rintro e w2 ⟨rfl, hb⟩
      have HB2 := Lib.hid (HB1.out.trans ((HBw.out.trans (hb.mono HBw.out.size)).mono HB1.out.size)); clear hb
      go_wp2_with fail
      go_ret2
      exact ⟨by rw [HX.out]; simp, HB2.out⟩
end
section
open Go.RowKit
def ModPost (n : Int) (w : World) (e : Ending) (w' : World) : Prop := ∃ r : Nat, e = .returned (.int .i64 r) ∧ (r : Int) < n ∧ w = w'
set_option maxHeartbeats 400000 in
theorem mod_some (x n : Int) (w : World) (hx : -9223372036854775808 ≤ x) (hx2 : x ≤ 9223372036854775807) (hn : 1 ≤ n) (hn2 : n ≤ 1000000000) :
    Calls Tryz.prog 20 #[.int .i64 x, .int .i64 n] w (ModPost n w) := by
  have h1 : -n < x.tmod n ∧ x.tmod n < n := by
    have := Int.tmod_lt_of_pos x (show 0 < n by omega)
    have h2 := Int.lt_tmod_of_pos x (show 0 < n by omega)
    omega
  obtain ⟨h1, h2⟩ := h1
  have h3 : 0 ≤ x.tmod n + n := by omega
  have h4 : 0 ≤ (x.tmod n + n) % n := Int.emod_nonneg _ (by omega)
  have h5 : (x.tmod n + n) % n < n := Int.emod_lt_of_pos _ (by omega)
  have H4 := Lib.hid h4; clear h4
  have H5 := Lib.hid h5; clear h5
  have HX := Lib.hid hx; have HX2 := Lib.hid hx2
  have hw : wrap64 (x.tmod n) = x.tmod n := IntWalk.wrap64_in _ ⟨by omega, by omega⟩
  have hw2 : wrap64 (x.tmod n + n) = x.tmod n + n := IntWalk.wrap64_in _ ⟨by omega, by omega⟩
  clear hx hx2
  go_enter Tryz.func20, Tryz.ntmps20
  go_wp2
  go_ret
  exact ⟨((x.tmod n + n) % n).toNat, by rw [Int.toNat_of_nonneg H4.out]; simp, by rw [Int.toNat_of_nonneg H4.out]; exact H5.out, rfl⟩
end
section
open Go
theorem handed_shaped {H : Type} {enc : TypeId × Value → H} {a : Assume} {C : Checked} {os : Os} {f : FuncId} {fn : Func} {s : ChangeSpec} {conds : List PathCond} {apart fresh handsOn again : Bool} {X : World → Array Value → Prop}
    (hX : ∀ (w w' : World) (args : Array Value), w.heap = w'.heap → X w args → X w' args)
    (own : ownKnob C.prog.godebug = none) (started : os.Started) (noInit : C.prog.inits.idxOf? f = none) (hfn : C.prog.funcs[f]? = some fn)
    (witness : ∃ (w : World) (tape : Tape) (i : Input), w.os = os ∧ (w.forCall tape i).Shaped C.prog ∧ i.vars = [] ∧ Input.okWide C.prog (w.forCall tape i) .any w.heap.size f i ∧
      ((s.pre enc C.prog fn conds apart (w.forCall tape i).memory i.args ∧ X (w.forCall tape i).memory i.args) ∧ sizedMet enc C.prog fn (OpenSpec.ofChange s) apart (w.forCall tape i).memory i.args) ∧ a.holds C.prog (lone (Frame.enter C.prog f i.args .normal) [] (w.forCall tape i)))
    (contract : ∀ (W : World) (base : Nat) (args : Array Value) (ds gs : List (DataW H)) (before : List MemPlace),
      (∀ (j : Nat) t v, fn.params[j]? = some t → args[j]? = some v → Value.okWide C.prog W .any base t v) →
      DataW.Whole enc C.prog fn.params.toList s.vars apart W args.toList ds gs before →
      X W args → W.ShapedOpen C.prog →
      Calls C.prog f args W fun e W' => ∃ v, e = .returned v ∧ s.post enc C.prog fn apart fresh handsOn again W args v W') :
    ReturnsInHanded a C os f .any (fun w args => (s.pre enc C.prog fn conds apart w args ∧ X w args) ∧ sizedMet enc C.prog fn (OpenSpec.ofChange s) apart w args) (s.post enc C.prog fn apart fresh handsOn again) := by
  refine returnsInHanded_of_calls own started noInit witness ?_
  intro w tape i _ hsh _ hok hpre hholds
  obtain ⟨_, _, _, fn', hfn', _, _, _, _, hval⟩ := hok
  obtain rfl : fn' = fn := Option.some.inj (hfn'.symm.trans hfn)
  obtain ⟨⟨⟨ds, gs, before, hw, hc⟩, hx⟩, hz⟩ := hpre
  refine (contract (w.forCall tape i) w.heap.size i.args ds gs before hval (DataW.Whole.of_heap (w' := w.forCall tape i) (by rfl) hw) (hX _ _ _ (by rfl) hx) hsh).mono fun e W' ⟨v, he, hp⟩ => ?_
  subst he
  exact ChangeSpec.post_blind hp
end
section
set_option maxRecDepth 100000
open Go Go.RowKit
theorem laid_at {P : Program} {w : World} : ∀ {l : List (String × DataW Unit)} {ps : List MemPlace}, DataW.LaidVars P w l ps → ∀ (i : Nat) (n : String) (d : DataW Unit), l[i]? = some (n, d) → ∃ g t cs fuel p, P.globalNamed n = some g ∧ (P.globals[g]?).map (·.type) = some t ∧ w.var? P n = some cs ∧ DataW.trod (fun _ => ()) P w 0 (fun _ => true) false fuel t cs.toList = some (d, p)
  | [], ps, h, i, n, d, hi => by simp at hi
  | (m, e) :: r, ps, h, 0, n, d, hi => by
    obtain ⟨g, t, cs, fuel, p, q, h1, h2, h3, h4, _, _⟩ := h
    simp at hi
    obtain ⟨rfl, rfl⟩ := hi
    exact ⟨g, t, cs, fuel, p, h1, h2, h3, h4⟩
  | (m, e) :: r, ps, h, i + 1, n, d, hi => by
    obtain ⟨g, t, cs, fuel, p, q, _, _, _, _, h5, _⟩ := h
    exact laid_at h5 i n d (by simpa using hi)
theorem tab_give {P : Program} {w : World} {l : List (String × DataW Unit)} {ps : List MemPlace} (h : DataW.LaidVars P w l ps) {i : Nat} {name : String} {k : IntKind} {zs : List Int} (hi : l[i]? = some (name, Lib.tabData k zs)) {g : Nat} {t e : TypeId} {n : Nat}
    (hg : P.globalNamed name = some g) (hty : (P.globals[g]?).map (·.type) = some t) (ht : P.underlying t = some (.array n e)) (he : P.underlying e = some (.int k)) (hce : P.cellsOf e = 1) (hct : P.cellsOf t = n) : Lib.TabIs P w name k zs := by
  obtain ⟨g', t', cs, fuel, p, hg', ht', hvar, hd⟩ := laid_at h i _ _ hi
  obtain rfl := Option.some.inj (hg.symm.trans hg')
  obtain rfl := Option.some.inj (hty.symm.trans ht')
  unfold Lib.TabIs
  rw [hvar, ← Lib.cells_of_tab ht he hce hct hd]
theorem iface_give {P : Program} {w : World} {l : List (String × DataW Unit)} {ps : List MemPlace} (h : DataW.LaidVars P w l ps) {i : Nat} {name nm : String} {d : DataW Unit} (hi : l[i]? = some (name, .iface nm d)) {g : Nat} {t : TypeId} {ms : Array (String × TypeId)}
    (hg : P.globalNamed name = some g) (hty : (P.globals[g]?).map (·.type) = some t) (ht : P.underlying t = some (.interface ms)) : IfaceAt w g := by
  obtain ⟨g', t', cs, fuel, p, hg', ht', hvar, hd⟩ := laid_at h i _ _ hi
  obtain rfl := Option.some.inj (hg.symm.trans hg')
  obtain rfl := Option.some.inj (hty.symm.trans ht')
  obtain ⟨_, u, v, hcs, _, _⟩ := iface_of_trod ht hd
  have := World.var?_cell hg hvar 0
  refine ⟨.iface u v, ?_, .inr ⟨u, v, rfl⟩⟩
  rw [this, ← Array.getElem?_toList, hcs]; rfl
theorem vars_give {l : List (String × DataW Unit)} {W : World} (hsh : W.ShapedOpen Tryz.prog) (hl : laidMetH Tryz.prog l W) (hp : (l.all fun x => x.2.handleName?.isNone) = true) (i : Nat) (hi : l[i]? = some ("internal/strconv.uint64pow10", Lib.tabData .u64 Lib.pow10Tab))
    (j : Nat) {n1 : String} {d1 : DataW Unit} (hj : l[j]? = some ("strconv.ErrSyntax", .iface n1 d1)) (k : Nat) {n2 : String} {d2 : DataW Unit} (hk : l[k]? = some ("strconv.ErrRange", .iface n2 d2)) : VarsAt W := by
  rw [MakeChecks.laidMetH_plain _ _ _ hp] at hl
  obtain ⟨ps, h, _, _⟩ := hl
  refine ⟨tab_give h hi (g := 3) (by kernel_rfl) (by kernel_rfl) Tryz.underlying253 (by kernel_rfl) (by kernel_rfl) (by kernel_rfl), ?_, ?_, Tryz.laysM145.s1_3 W hsh⟩
  · exact iface_give h hj (by kernel_rfl) (by kernel_rfl) Tryz.underlying97
  · exact iface_give h hk (by kernel_rfl) (by kernel_rfl) Tryz.underlying97
def dbTab : List Int := [0, 1, 56, 2, 57, 49, 28, 3, 61, 58, 42, 50, 38, 29, 17, 4, 62, 47, 59, 36, 45, 43, 51, 22, 53, 39, 33, 30, 24, 18, 12, 5, 63, 55, 48, 27, 60, 41, 37, 16, 46, 35, 44, 21, 52, 32, 23, 11, 54, 26, 40, 15, 34, 20, 31, 10, 25, 14, 19, 9, 13, 8, 7, 6]
theorem db_give {l : List (String × DataW Unit)} {W : World} (hl : laidMetH Tryz.prog l W) (hp : (l.all fun x => x.2.handleName?.isNone) = true) (i : Nat) (hi : l[i]? = some ("math/bits.deBruijn64tab", Lib.tabData .u8 dbTab)) : DbAt W := by
  rw [MakeChecks.laidMetH_plain _ _ _ hp] at hl
  obtain ⟨ps, h, _, _⟩ := hl
  have ht : Lib.TabIs Tryz.prog W "math/bits.deBruijn64tab" .u8 dbTab := tab_give h hi (g := 7) (by kernel_rfl) (by kernel_rfl) Tryz.underlying288 (by kernel_rfl) (by kernel_rfl) (by kernel_rfl)
  have := ht.cell (g := 7) (by kernel_rfl) 15 (by decide)
  exact this
end
end Go.Proofs.YtoeplomdcannlaaGreatDoor
