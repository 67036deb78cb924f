/- The law AdmissionWithin, walked. -/
import Derived.Test.YtohglcbakepejaaAdmH
import Derived.Test.YtohglcbakepejaaAdmI
import Derived.Test.YtohglcbakepejaaAdmJ
set_option linter.unusedSimpArgs false
set_option linter.unusedVariables false
namespace Go.Proofs.Ytohglcbakepejaa
open Go.RowKit
theorem imp_bool {p q r : Prop} [Decidable p] [Decidable q] [Decidable r] (h : p → q → r) : (!(decide p && decide q) || decide r) = true := by
  by_cases hp : p <;> by_cases hq : q <;> simp [hp, hq]
  exact h hp hq
set_option maxHeartbeats 4000000 in
theorem within_walk (a : Option Addr) (n cap : Nat) (zs : List Int) (w : World) (hr : IsRow .i64 w a n cap zs) :
    Calls Try.prog 3 #[.slice a n cap] w fun e w' => e = .returned (.bool true) ∧ Below w.heap.size w w' := by
  by_cases hn : n ≤ 400
  · have hd : decide (n ≤ 400) = true := by simpa using hn
    have HR := Lib.hid hr; clear hr
    go_enter Try.func3, Try.ntmps3
    go_wp2_with fail
    refine (awake_any _).mono ?_; rintro e w1 ⟨rfl, hb1⟩
    go_wp2_with fail
    refine (few_any a n cap _).mono ?_; rintro e w' ⟨rfl, rfl⟩
    go_wp2_with fail
    refine (new_any a n cap _).mono ?_; rintro e w' ⟨rfl, rfl⟩
    have Hdk := Lib.hid (deck_law2 (cap := cap) hn HR.out hb1)
    have HB1 := Lib.hid (hb1.alloc hb1.size (.cells #[.slice a n cap, .int .i64 0, .int .u64 11400714819323198485] 40))
    have zB1 := hb1.size
    clear hb1 HR hd
    go_wp2_with fail
    refine (next_any _ _ _ Hdk.out (by omega) (by omega)).mono ?_; rintro e w2 ⟨r, rfl, r0, r1, mv⟩
    have M2 := Lib.hid mv; clear mv Hdk
    go_wp2_with fail
    refine (expos_int _ _ _ M2.out.deck (by omega) (by omega)).mono ?_; rintro e w3 ⟨va, la, rfl, ra, na, da, mv⟩
    have CA := Lib.hid (dealt_chk (by omega) (by omega) da)
    have RA := Lib.hid (ra.past mv); have M3 := Lib.hid (M2.out.trans mv); have MM := Lib.hid mv; have NA := Lib.hid na
    clear mv ra M2 MM na da
    go_wp2_with fail
    refine (expos_int _ _ _ M3.out.deck (by omega) (by omega)).mono ?_; rintro e w4 ⟨vb, lb, rfl, rb, nb, db, mv⟩
    have CB := Lib.hid (dealt_chk (by omega) (by omega) db)
    have RB := Lib.hid (rb.past mv); have RA4 := Lib.hid (RA.out.moved mv); have M4 := Lib.hid (M3.out.trans mv); have NB := Lib.hid nb
    clear mv rb M3 RA nb db
    go_wp2_with fail
    refine (expos_int _ _ _ M4.out.deck (by omega) (by omega)).mono ?_; rintro e w5 ⟨vc, lc, rfl, rc, nc, dc, mv⟩
    have CC := Lib.hid (dealt_chk (by omega) (by omega) dc)
    have RC5 := Lib.hid (rc.all); have RA5 := Lib.hid ((RA4.out.moved mv).all); have RB5 := Lib.hid ((RB.out.moved mv).all); have M5 := Lib.hid (M4.out.trans mv); have NC := Lib.hid nc
    have HB5 := Lib.hid (M5.out.base HB1.out zB1)
    clear mv rc M4 RA4 RB nc dc M5 HB1
    have LAB := Lib.hid (show la.length = lb.length by rw [NA.out, NB.out])
    have LBC := Lib.hid (show lb.length = lc.length by rw [NB.out, NC.out])
    have na6 : la.length ≤ 6 := by rw [NA.out]; omega
    have nb6 : lb.length ≤ 6 := by rw [NB.out]; omega
    have nc6 : lc.length ≤ 6 := by rw [NC.out]; omega
    clear NA NB NC
    go_wp2_with fail
    refine (refEnter_any _ _ _ _ _ RA5.out RB5.out CA.out CB.out LAB.out).mono ?_; rintro e w6 ⟨⟨vu, rfl, ru⟩, hb⟩
    have CU := Lib.hid (chk_max CA.out CB.out LAB.out)
    have LU := Lib.hid (maxAll_len la 0 lb LAB.out)
    have GU := Lib.hid (le_left LAB.out)
    generalize maxAll 0 la lb = lu at *
    have RU6 := Lib.hid ru.all; have RA6 := Lib.hid (RA5.out.below hb); have RB6 := Lib.hid (RB5.out.below hb); have RC6 := Lib.hid (RC5.out.below hb); have HB6 := Lib.hid (HB5.out.trans (hb.mono HB5.out.size))
    clear ru hb RA5 RB5 RC5 HB5
    have LUC := Lib.hid (show lu.length = lc.length by rw [LU.out, LAB.out, LBC.out])
    go_wp2_with fail
    refine (refEnter_any _ _ _ _ _ RU6.out RC6.out CU.out CC.out LUC.out).mono ?_; rintro e w7 ⟨⟨vt, rfl, rt⟩, hb⟩
    have CT := Lib.hid (chk_max CU.out CC.out LUC.out)
    have LT := Lib.hid (maxAll_len lu 0 lc LUC.out)
    have GT := Lib.hid (le_left LUC.out)
    generalize maxAll 0 lu lc = lt at *
    have RT7 := Lib.hid rt.all; have RU7 := Lib.hid (RU6.out.below hb); have RA7 := Lib.hid (RA6.out.below hb); have RB7 := Lib.hid (RB6.out.below hb); have RC7 := Lib.hid (RC6.out.below hb); have HB7 := Lib.hid (HB6.out.trans (hb.mono HB6.out.size))
    clear rt hb RU6 RA6 RB6 RC6 HB6
    have nu6 : lu.length ≤ 6 := by rw [LU.out]; omega
    have nt6 : lt.length ≤ 6 := by rw [LT.out, LU.out]; omega
    have K1 := fun w h => Lib.hid (within_any va va la la w h h (by omega) (by omega))
    have K2 := fun w h1 h2 => Lib.hid (within_any vu va lu la w h1 h2 (by omega) (by omega))
    have K3 := fun w h1 h2 => Lib.hid (within_any vt va lt la w h1 h2 (by omega) (by omega))
    have K4 := fun w h1 h2 => Lib.hid (within_any vt vu lt lu w h1 h2 (by omega) (by omega))
    have K5 := fun w h1 h2 => Lib.hid (within_any vb va lb la w h1 h2 (by omega) (by omega))
    have K6 := fun w h1 h2 => Lib.hid (within_any vc vb lc lb w h1 h2 (by omega) (by omega))
    have K7 := fun w h1 h2 => Lib.hid (within_any vc va lc la w h1 h2 (by omega) (by omega))
    simp only [admit_le CA.out CA.out rfl, le_refl_all, decide_true] at K1
    simp only [admit_le CU.out CA.out LU.out, GU.out, decide_true] at K2
    simp only [admit_le CT.out CA.out (LT.out.trans LU.out), le_trans_all LU.out.symm GU.out GT.out, decide_true] at K3
    simp only [admit_le CT.out CU.out LT.out, GT.out, decide_true] at K4
    have I7 := Lib.hid (imp_bool (p := leAll la lb) (q := leAll lb lc) (r := leAll la lc) (le_trans_all LAB.out))
    simp only [admit_le CB.out CA.out LAB.out.symm] at K5
    simp only [admit_le CC.out CB.out LBC.out.symm] at K6
    simp only [admit_le CC.out CA.out (LAB.out.trans LBC.out).symm] at K7
    generalize decide (leAll la lb) = b5 at *
    generalize decide (leAll lb lc) = b6 at *
    generalize decide (leAll la lc) = b7 at *
    go_wp2_with fail
    refine (K1 _ RA7.out).out.mono ?_; rintro e w8 ⟨rfl, hb⟩
    have RT8 := Lib.hid (RT7.out.below hb); have RU8 := Lib.hid (RU7.out.below hb); have RA8 := Lib.hid (RA7.out.below hb); have RB8 := Lib.hid (RB7.out.below hb); have RC8 := Lib.hid (RC7.out.below hb); have HB8 := Lib.hid (HB7.out.trans (hb.mono HB7.out.size)); clear hb RT7 RU7 RA7 RB7 RC7 HB7
    go_wp2_with fail
    refine (K2 _ RU8.out RA8.out).out.mono ?_; rintro e w9 ⟨rfl, hb⟩
    have RT9 := Lib.hid (RT8.out.below hb); have RU9 := Lib.hid (RU8.out.below hb); have RA9 := Lib.hid (RA8.out.below hb); have RB9 := Lib.hid (RB8.out.below hb); have RC9 := Lib.hid (RC8.out.below hb); have HB9 := Lib.hid (HB8.out.trans (hb.mono HB8.out.size)); clear hb RT8 RU8 RA8 RB8 RC8 HB8
    go_wp2_with fail
    refine (K3 _ RT9.out RA9.out).out.mono ?_; rintro e w10 ⟨rfl, hb⟩
    have RT10 := Lib.hid (RT9.out.below hb); have RU10 := Lib.hid (RU9.out.below hb); have RA10 := Lib.hid (RA9.out.below hb); have RB10 := Lib.hid (RB9.out.below hb); have RC10 := Lib.hid (RC9.out.below hb); have HB10 := Lib.hid (HB9.out.trans (hb.mono HB9.out.size)); clear hb RT9 RU9 RA9 RB9 RC9 HB9
    go_wp2_with fail
    refine (K4 _ RT10.out RU10.out).out.mono ?_; rintro e w11 ⟨rfl, hb⟩
    have RA11 := Lib.hid (RA10.out.below hb); have RB11 := Lib.hid (RB10.out.below hb); have RC11 := Lib.hid (RC10.out.below hb); have HB11 := Lib.hid (HB10.out.trans (hb.mono HB10.out.size)); clear hb RT10 RU10 RA10 RB10 RC10 HB10
    go_wp2_with fail
    refine (K5 _ RB11.out RA11.out).out.mono ?_; rintro e w12 ⟨rfl, hb⟩
    have RA12 := Lib.hid (RA11.out.below hb); have RB12 := Lib.hid (RB11.out.below hb); have RC12 := Lib.hid (RC11.out.below hb); have HB12 := Lib.hid (HB11.out.trans (hb.mono HB11.out.size)); clear hb RA11 RB11 RC11 HB11
    cases b5
    · go_wp2_with fail
      go_ret
      exact ⟨rfl, HB12.out⟩
    · go_wp2_with fail
      refine (K6 _ RC12.out RB12.out).out.mono ?_; rintro e w13 ⟨rfl, hb⟩
      have RA13 := Lib.hid (RA12.out.below hb); have RC13 := Lib.hid (RC12.out.below hb); have HB13 := Lib.hid (HB12.out.trans (hb.mono HB12.out.size)); clear hb RA12 RB12 RC12 HB12
      cases b6
      · go_wp2_with fail
        go_ret
        exact ⟨rfl, HB13.out⟩
      · have e7 : b7 = true := by simpa using I7.out
        subst e7
        go_wp2_with fail
        refine (K7 _ RC13.out RA13.out).out.mono ?_; rintro e w14 ⟨rfl, hb⟩
        have HB14 := Lib.hid (HB13.out.trans (hb.mono HB13.out.size)); clear hb
        go_wp2_with fail
        go_ret
        exact ⟨rfl, HB14.out⟩
  · have hd : decide (n ≤ 400) = false := by simpa using hn
    clear hr hn
    go_enter Try.func3, Try.ntmps3
    go_wp2_with fail
    refine (awake_any _).mono ?_; rintro e w1 ⟨rfl, hb1⟩
    go_wp2_with fail
    refine (few_any a n cap _).mono ?_; rintro e w' ⟨rfl, rfl⟩
    go_wp2_with fail
    refine (awake_any _).mono ?_; rintro e w2 ⟨rfl, hb2⟩
    go_wp2_with fail
    go_ret
    exact ⟨rfl, hb1.trans (hb2.mono hb1.size)⟩
end Go.Proofs.Ytohglcbakepejaa
