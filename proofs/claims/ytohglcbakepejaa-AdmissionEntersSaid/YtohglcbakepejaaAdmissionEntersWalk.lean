/- The law AdmissionEnters, walked. -/
import Derived.Test.YtohglcbakepejaaAdmM
import Derived.BigQuiet
set_option linter.unusedSimpArgs false
set_option linter.unusedVariables false
namespace Go.Proofs.Ytohglcbakepejaa
open Go.RowKit
theorem enters_plain {la lb lc lx ly lz lv lq ls : List Ex} (hab : la.length = lb.length) (hbc : lb.length = lc.length) (cz : chkE lz = 0) (nx : lx.length = la.length) (nz : lz.length = la.length) (ex : lx = maxAll 0 la lb) (ey : ly = maxAll 0 lb la) (ez : lz = maxAll 0 lx lc) (ev : lv = maxAll 0 lb lc) (eq : lq = maxAll 0 la lv) (es : ls = maxAll 0 lz lb) :
    ly = lx ∧ lq = lz ∧ ls = lz ∧ leAll la lz ∧ leAll lb lz ∧ leAll lc lz := by
  have g0 : leAll lx lz := by rw [ez]; exact le_left (by omega)
  have g1 : leAll la lz := le_trans_all nx.symm (by rw [ex]; exact le_left hab) g0
  have g2 : leAll lb lz := le_trans_all (by omega) (by rw [ex]; exact le_right hab) g0
  have g3 : leAll lc lz := by rw [ez]; exact le_right (by omega)
  refine ⟨by rw [ey, ex, max_comm hab], ?_, ?_, g1, g2, g3⟩
  · rw [eq, ev, ez, ex, max_assoc hab hbc]
  · rw [es, max_comm (by omega), max_absorb (by omega) cz g2]
theorem reg_append {P : Program} {id : Nat} {l1 l2 l : List Oper} {b : Bool} {Q : Exit → Act → World → Prop} {a : Act} {w : World} (h : l1.append l2 = l) (H : (Code.region id l.toArray b).wp P Q a w) : (Code.region id (l1.append l2).toArray b).wp P Q a w := h ▸ H
theorem drewN_below {B : Nat} {a w : World} (h : Below B a w) (n : Nat) : Below B a (w.drewN n) := ⟨h.os, h.tape, h.output, h.size, h.block⟩
set_option maxRecDepth 100000 in
set_option maxHeartbeats 8000000 in
theorem enters_walk (a : Option Addr) (n cap : Nat) (zs : List Int) (w : World) (hr : IsRow .i64 w a n cap zs) :
    Calls Try.prog 4 #[.slice a n cap] w fun e w' => e = .returned (.bool true) ∧ Below w.heap.size w w' := by
  by_cases hn : n ≤ 400
  · have hd : decide (n ≤ 400) = true := by simpa using hn
    have HR := Lib.hid hr; clear hr
    go_enter Try.func4, Try.ntmps4
    go_wp2_with fail
    refine (awake_any _).mono ?_; rintro e w1 ⟨rfl, hb1⟩
    go_wp2_with fail
    refine (few_any a n cap _).mono ?_; rintro e w' ⟨rfl, rfl⟩
    go_wp2_with fail
    refine (new_any a n cap _).mono ?_; rintro e w' ⟨rfl, rfl⟩
    have Hdk := Lib.hid (deck_law2 (cap := cap) hn HR.out hb1)
    have HB1 := Lib.hid (hb1.alloc hb1.size (.cells #[.slice a n cap, .int .i64 0, .int .u64 11400714819323198485] 40))
    have zB1 := hb1.size
    clear hb1 HR hd
    go_wp2_with fail
    refine (next_any _ _ _ Hdk.out (by omega) (by omega)).mono ?_; rintro e w2 ⟨r, rfl, r0, r1, mv⟩
    have M2 := Lib.hid mv; clear mv Hdk
    go_wp2_with fail
    refine (expos_int _ _ _ M2.out.deck (by omega) (by omega)).mono ?_; rintro e w3 ⟨va, la, rfl, ra, na, da, mv⟩
    have CA := Lib.hid (dealt_chk (by omega) (by omega) da)
    have RA := Lib.hid (ra.past mv); have M3 := Lib.hid (M2.out.trans mv); have MM := Lib.hid mv; have NA := Lib.hid na
    clear mv ra M2 MM na da
    go_wp2_with fail
    refine (expos_int _ _ _ M3.out.deck (by omega) (by omega)).mono ?_; rintro e w4 ⟨vb, lb, rfl, rb, nb, db, mv⟩
    have CB := Lib.hid (dealt_chk (by omega) (by omega) db)
    have RB := Lib.hid (rb.past mv); have RA4 := Lib.hid (RA.out.moved mv); have M4 := Lib.hid (M3.out.trans mv); have NB := Lib.hid nb
    clear mv rb M3 RA nb db
    go_wp2_with fail
    refine (expos_int _ _ _ M4.out.deck (by omega) (by omega)).mono ?_; rintro e w5 ⟨vc, lc, rfl, rc, nc, dc, mv⟩
    have CC := Lib.hid (dealt_chk (by omega) (by omega) dc)
    have RC5 := Lib.hid (rc.all); have RA5 := Lib.hid ((RA4.out.moved mv).all); have RB5 := Lib.hid ((RB.out.moved mv).all); have M5 := Lib.hid (M4.out.trans mv); have NC := Lib.hid nc
    have HB5 := Lib.hid (M5.out.base HB1.out zB1)
    clear mv rc M4 RA4 RB nc dc M5 HB1
    have LAB := Lib.hid (show la.length = lb.length by rw [NA.out, NB.out])
    have LBC := Lib.hid (show lb.length = lc.length by rw [NB.out, NC.out])
    have na6 : la.length ≤ 6 := by rw [NA.out]; omega
    have nb6 : lb.length ≤ 6 := by rw [NB.out]; omega
    have nc6 : lc.length ≤ 6 := by rw [NC.out]; omega
    have n1 : (la.length : Int) ≤ 1 + r := by rw [NA.out]; omega
    have n2 : 1 + r ≤ (la.length : Int) := by rw [NA.out]; omega
    clear NA NB NC
    go_wp2_with fail
    refine (enter_val _ _ _ _ _ RA5.out RB5.out CA.out CB.out (rfl.trans (Eq.symm LAB.out.symm))).mono ?_; rintro e w6 ⟨⟨vx, rfl, rx⟩, hb⟩
    have RA6 := Lib.hid (RA5.out.below hb); clear RA5
    have RB6 := Lib.hid (RB5.out.below hb); clear RB5
    have RC6 := Lib.hid (RC5.out.below hb); clear RC5
    have HB6 := Lib.hid (HB5.out.trans (hb.mono HB5.out.size)); clear HB5
    have RX6 := Lib.hid rx.all; clear rx hb
    have CX := Lib.hid (chk_max CA.out CB.out (rfl.trans (Eq.symm LAB.out.symm)))
    have NX := Lib.hid ((maxAll_len _ 0 _ (rfl.trans (Eq.symm LAB.out.symm))).trans rfl)
    obtain ⟨lx, EX⟩ : ∃ l, Hid (l = maxAll 0 la lb) := ⟨_, Lib.hid rfl⟩
    rw [← EX.out] at CX NX RX6
    go_wp2_with fail
    refine (enter_val _ _ _ _ _ RB6.out RA6.out CB.out CA.out (LAB.out.symm.trans (Eq.symm rfl))).mono ?_; rintro e w7 ⟨⟨vy, rfl, ry⟩, hb⟩
    have RA7 := Lib.hid (RA6.out.below hb); clear RA6
    have RB7 := Lib.hid (RB6.out.below hb); clear RB6
    have RC7 := Lib.hid (RC6.out.below hb); clear RC6
    have RX7 := Lib.hid (RX6.out.below hb); clear RX6
    have HB7 := Lib.hid (HB6.out.trans (hb.mono HB6.out.size)); clear HB6
    have RY7 := Lib.hid ry.all; clear ry hb
    have CY := Lib.hid (chk_max CB.out CA.out (LAB.out.symm.trans (Eq.symm rfl)))
    have NY := Lib.hid ((maxAll_len _ 0 _ (LAB.out.symm.trans (Eq.symm rfl))).trans LAB.out.symm)
    obtain ⟨ly, EY⟩ : ∃ l, Hid (l = maxAll 0 lb la) := ⟨_, Lib.hid rfl⟩
    rw [← EY.out] at CY NY RY7
    go_wp2_with fail
    refine (enter_val _ _ _ _ _ RX7.out RC7.out CX.out CC.out (NX.out.trans (Eq.symm (LAB.out.trans LBC.out).symm))).mono ?_; rintro e w8 ⟨⟨vz, rfl, rz⟩, hb⟩
    have RA8 := Lib.hid (RA7.out.below hb); clear RA7
    have RB8 := Lib.hid (RB7.out.below hb); clear RB7
    have RC8 := Lib.hid (RC7.out.below hb); clear RC7
    have RX8 := Lib.hid (RX7.out.below hb); clear RX7
    have RY8 := Lib.hid (RY7.out.below hb); clear RY7
    have HB8 := Lib.hid (HB7.out.trans (hb.mono HB7.out.size)); clear HB7
    have RZ8 := Lib.hid rz.all; clear rz hb
    have CZ := Lib.hid (chk_max CX.out CC.out (NX.out.trans (Eq.symm (LAB.out.trans LBC.out).symm)))
    have NZ := Lib.hid ((maxAll_len _ 0 _ (NX.out.trans (Eq.symm (LAB.out.trans LBC.out).symm))).trans NX.out)
    obtain ⟨lz, EZ⟩ : ∃ l, Hid (l = maxAll 0 lx lc) := ⟨_, Lib.hid rfl⟩
    rw [← EZ.out] at CZ NZ RZ8
    go_wp2_with fail
    refine (enter_val _ _ _ _ _ RB8.out RC8.out CB.out CC.out (LAB.out.symm.trans (Eq.symm (LAB.out.trans LBC.out).symm))).mono ?_; rintro e w9 ⟨⟨vv, rfl, rv⟩, hb⟩
    have RA9 := Lib.hid (RA8.out.below hb); clear RA8
    have RB9 := Lib.hid (RB8.out.below hb); clear RB8
    have RC9 := Lib.hid (RC8.out.below hb); clear RC8
    have RX9 := Lib.hid (RX8.out.below hb); clear RX8
    have RY9 := Lib.hid (RY8.out.below hb); clear RY8
    have RZ9 := Lib.hid (RZ8.out.below hb); clear RZ8
    have HB9 := Lib.hid (HB8.out.trans (hb.mono HB8.out.size)); clear HB8
    have RV9 := Lib.hid rv.all; clear rv hb
    have CV := Lib.hid (chk_max CB.out CC.out (LAB.out.symm.trans (Eq.symm (LAB.out.trans LBC.out).symm)))
    have NV := Lib.hid ((maxAll_len _ 0 _ (LAB.out.symm.trans (Eq.symm (LAB.out.trans LBC.out).symm))).trans LAB.out.symm)
    obtain ⟨lv, EV⟩ : ∃ l, Hid (l = maxAll 0 lb lc) := ⟨_, Lib.hid rfl⟩
    rw [← EV.out] at CV NV RV9
    go_wp2_with fail
    refine (enter_val _ _ _ _ _ RA9.out RV9.out CA.out CV.out (rfl.trans (Eq.symm NV.out))).mono ?_; rintro e w10 ⟨⟨vq, rfl, rq⟩, hb⟩
    have RA10 := Lib.hid (RA9.out.below hb); clear RA9
    have RB10 := Lib.hid (RB9.out.below hb); clear RB9
    have RC10 := Lib.hid (RC9.out.below hb); clear RC9
    have RX10 := Lib.hid (RX9.out.below hb); clear RX9
    have RY10 := Lib.hid (RY9.out.below hb); clear RY9
    have RZ10 := Lib.hid (RZ9.out.below hb); clear RZ9
    have RV10 := Lib.hid (RV9.out.below hb); clear RV9
    have HB10 := Lib.hid (HB9.out.trans (hb.mono HB9.out.size)); clear HB9
    have RQ10 := Lib.hid rq.all; clear rq hb
    have CQ := Lib.hid (chk_max CA.out CV.out (rfl.trans (Eq.symm NV.out)))
    have NQ := Lib.hid ((maxAll_len _ 0 _ (rfl.trans (Eq.symm NV.out))).trans rfl)
    obtain ⟨lq, EQ⟩ : ∃ l, Hid (l = maxAll 0 la lv) := ⟨_, Lib.hid rfl⟩
    rw [← EQ.out] at CQ NQ RQ10
    go_wp2_with fail
    refine (enter_val _ _ _ _ _ RZ10.out RB10.out CZ.out CB.out (NZ.out.trans (Eq.symm LAB.out.symm))).mono ?_; rintro e w11 ⟨⟨vs, rfl, rs⟩, hb⟩
    have RA11 := Lib.hid (RA10.out.below hb); clear RA10
    have RB11 := Lib.hid (RB10.out.below hb); clear RB10
    have RC11 := Lib.hid (RC10.out.below hb); clear RC10
    have RX11 := Lib.hid (RX10.out.below hb); clear RX10
    have RY11 := Lib.hid (RY10.out.below hb); clear RY10
    have RZ11 := Lib.hid (RZ10.out.below hb); clear RZ10
    have RV11 := Lib.hid (RV10.out.below hb); clear RV10
    have RQ11 := Lib.hid (RQ10.out.below hb); clear RQ10
    have HB11 := Lib.hid (HB10.out.trans (hb.mono HB10.out.size)); clear HB10
    have RS11 := Lib.hid rs.all; clear rs hb
    have CS := Lib.hid (chk_max CZ.out CB.out (NZ.out.trans (Eq.symm LAB.out.symm)))
    have NS := Lib.hid ((maxAll_len _ 0 _ (NZ.out.trans (Eq.symm LAB.out.symm))).trans NZ.out)
    obtain ⟨ls, ES⟩ : ∃ l, Hid (l = maxAll 0 lz lb) := ⟨_, Lib.hid rfl⟩
    rw [← ES.out] at CS NS RS11
    go_wp2_with fail
    refine (enter_none _ _ _ RA11.out CA.out).mono ?_; rintro e w12 ⟨⟨vt, rfl, rt⟩, hb⟩
    have RA12 := Lib.hid (RA11.out.below hb); clear RA11
    have RB12 := Lib.hid (RB11.out.below hb); clear RB11
    have RC12 := Lib.hid (RC11.out.below hb); clear RC11
    have RX12 := Lib.hid (RX11.out.below hb); clear RX11
    have RY12 := Lib.hid (RY11.out.below hb); clear RY11
    have RZ12 := Lib.hid (RZ11.out.below hb); clear RZ11
    have RV12 := Lib.hid (RV11.out.below hb); clear RV11
    have RQ12 := Lib.hid (RQ11.out.below hb); clear RQ11
    have RS12 := Lib.hid (RS11.out.below hb); clear RS11
    have HB12 := Lib.hid (HB11.out.trans (hb.mono HB11.out.size)); clear HB11
    have RT12 := Lib.hid rt.all; clear rt hb
    obtain ⟨e1, e2, e3, g1, g2, g3⟩ := enters_plain LAB.out LBC.out CZ.out NX.out NZ.out EX.out EY.out EZ.out EV.out EQ.out ES.out
    rw [e1] at RY12; rw [e2] at RQ12; rw [e3] at RS12
    have G1 := Lib.hid g1; have G2 := Lib.hid g2; have G3 := Lib.hid g3
    have nx6 : lx.length ≤ 6 := by rw [NX.out]; omega
    have nz6 : lz.length ≤ 6 := by rw [NZ.out]; omega
    clear e1 e2 e3 g1 g2 g3 EY EZ EV EQ ES NY NV NQ NS CY CV CQ CS CX RV12
    obtain ⟨ax, cx, rfl⟩ := RX12.out.val
    obtain ⟨aa, ca, rfl⟩ := RA12.out.val
    obtain ⟨ab, cb, rfl⟩ := RB12.out.val
    have tn : ((lx.length : Int) != 1 + r) = false := by have := NX.out; simp; omega
    have tn' : ((lx.length : Int) == 1 + r) = true := by have := NX.out; simp; omega
    go_wp2_with fail
    clear tn tn'
    go_loopw [22] (fun i wr => ∃ k : Nat, k ≤ la.length ∧ i = .int .i64 k ∧ Below w12.heap.size w12 wr) (fun i _ => la.length - (intOf i).toNat)
    case atStart => exact ⟨0, by omega, rfl, Below.refl _ _⟩
    case round =>
      obtain ⟨k, hk, rfl, hb⟩ := hrel
      by_cases hlt : k < la.length
      · have hla := hlt
        have hlb : k < lb.length := by have := LAB.out; omega
        have hlx : k < lx.length := by have := NX.out; omega
        have hq : decide ((k : Int) < 1 + r) = true := by simp; omega
        have hcx : (k : Int) < (lx.length : Int) := by omega
        have hca : (k : Int) < (la.length : Int) := by omega
        have hcb : (k : Int) < (lb.length : Int) := by omega
        obtain ⟨bx, ox, rfl, zx, x0, x1, x2, x3, x4⟩ := RX12.out.get k hlx
        obtain ⟨ba, oa, rfl, za, a0, a1, a2, a3, a4⟩ := RA12.out.get k hla
        obtain ⟨bb, ob, rfl, zb, b0, b1, b2, b3, b4⟩ := RB12.out.get k hlb
        have hx : lx[k] = Ex.max2 (k : Int) la[k] lb[k] := by have := EX.out; subst this; rw [maxAll_get la 0 lb LAB.out k hlt hlb hlx, Nat.zero_add]
        rw [hx] at x0 x1 x2 x3 x4
        simp only [Ex.max2] at x0 x1 x2 x3 x4
        clear hx
        generalize la[k] = xa at *
        generalize lb[k] = xb at *
        have x1' := (hb.cell (p := ⟨bx, ox + k * 5 + 1, none⟩) zx).trans x1
        have x2' := (hb.cell (p := ⟨bx, ox + k * 5 + 2, none⟩) zx).trans x2
        have x4' := (hb.cell (p := ⟨bx, ox + k * 5 + 4, none⟩) zx).trans x4
        have a1' := (hb.cell (p := ⟨ba, oa + k * 5 + 1, none⟩) za).trans a1
        have a2' := (hb.cell (p := ⟨ba, oa + k * 5 + 2, none⟩) za).trans a2
        have a4' := (hb.cell (p := ⟨ba, oa + k * 5 + 4, none⟩) za).trans a4
        have b1' := (hb.cell (p := ⟨bb, ob + k * 5 + 1, none⟩) zb).trans b1
        have b2' := (hb.cell (p := ⟨bb, ob + k * 5 + 2, none⟩) zb).trans b2
        have b4' := (hb.cell (p := ⟨bb, ob + k * 5 + 4, none⟩) zb).trans b4
        clear x0 x1 x2 x3 x4 a0 a1 a2 a3 a4 b0 b1 b2 b3 b4
        have su : (max xa.u xb.u = xa.u) ∨ (max xa.u xb.u ≠ xa.u ∧ max xa.u xb.u = xb.u) := by omega
        generalize max xa.u xb.u = mu at *
        have su : ((mu != xa.u) = false ∧ (mu == xa.u) = true) ∨ ((mu != xa.u) = true ∧ (mu == xa.u) = false ∧ (mu != xb.u) = false ∧ (mu == xb.u) = true) := by simp; omega
        have sh : (max xa.h xb.h = xa.h) ∨ (max xa.h xb.h ≠ xa.h ∧ max xa.h xb.h = xb.h) := by omega
        generalize max xa.h xb.h = mh at *
        have sh : ((mh != xa.h) = false ∧ (mh == xa.h) = true) ∨ ((mh != xa.h) = true ∧ (mh == xa.h) = false ∧ (mh != xb.h) = false ∧ (mh == xb.h) = true) := by simp; omega
        have si : (max xa.i xb.i = xa.i) ∨ (max xa.i xb.i ≠ xa.i ∧ max xa.i xb.i = xb.i) := by omega
        generalize max xa.i xb.i = mi at *
        have si : ((mi != xa.i) = false ∧ (mi == xa.i) = true) ∨ ((mi != xa.i) = true ∧ (mi == xa.i) = false ∧ (mi != xb.i) = false ∧ (mi == xb.i) = true) := by simp; omega
        have HBx := Lib.hid hb; clear hb
        go_wp2_with fail
        refine reg_append (l := ?_) ?_ ?_
        rotate_left 1
        · dsimp only [List.append]; rfl
        refine wp_region_quiet_lit (by kernel_rfl) (by kernel_rfl) ?_
        rcases su with ⟨u1, u2⟩ | ⟨u1, u2, u3, u4⟩ <;> rcases sh with ⟨h1, h2⟩ | ⟨h1, h2, h3, h4⟩ <;> rcases si with ⟨i1, i2⟩ | ⟨i1, i2, i3, i4⟩
        all_goals
          repeat (go_big_quiet_step (fail))
          refine wpQuiet_nil ?_
          intro _ hw'
          obtain ⟨nq, hw''⟩ := hw'
          subst hw''
          go_wp2_with fail
          go_roundw
          case rel => exact ⟨k + 1, by omega, by go_num, drewN_below HBx.out nq⟩
          case measure => simp [intOf]; omega
      · have hq : decide ((k : Int) < 1 + r) = false := by simp; omega
        have RA13 := Lib.hid (RA12.out.below hb); clear RA12
        have RB13 := Lib.hid (RB12.out.below hb); clear RB12
        have RC13 := Lib.hid (RC12.out.below hb); clear RC12
        have RX13 := Lib.hid (RX12.out.below hb); clear RX12
        have RY13 := Lib.hid (RY12.out.below hb); clear RY12
        have RZ13 := Lib.hid (RZ12.out.below hb); clear RZ12
        have RQ13 := Lib.hid (RQ12.out.below hb); clear RQ12
        have RS13 := Lib.hid (RS12.out.below hb); clear RS12
        have RT13 := Lib.hid (RT12.out.below hb); clear RT12
        have HB13 := Lib.hid (HB12.out.trans (hb.mono HB12.out.size)); clear HB12 hb
        go_wp2_with fail
        refine (same_any _ _ _ _ RX13.out RY13.out (by omega)).mono ?_; rintro e w14 ⟨rfl, hb⟩
        have RA14 := Lib.hid (RA13.out.below hb); clear RA13
        have RB14 := Lib.hid (RB13.out.below hb); clear RB13
        have RC14 := Lib.hid (RC13.out.below hb); clear RC13
        have RX14 := Lib.hid (RX13.out.below hb); clear RX13
        have RY14 := Lib.hid (RY13.out.below hb); clear RY13
        have RZ14 := Lib.hid (RZ13.out.below hb); clear RZ13
        have RQ14 := Lib.hid (RQ13.out.below hb); clear RQ13
        have RS14 := Lib.hid (RS13.out.below hb); clear RS13
        have RT14 := Lib.hid (RT13.out.below hb); clear RT13
        have HB14 := Lib.hid (HB13.out.trans (hb.mono HB13.out.size)); clear HB13 hb
        go_wp2_with fail
        refine (same_any _ _ _ _ RZ14.out RQ14.out (by omega)).mono ?_; rintro e w15 ⟨rfl, hb⟩
        have RA15 := Lib.hid (RA14.out.below hb); clear RA14
        have RB15 := Lib.hid (RB14.out.below hb); clear RB14
        have RC15 := Lib.hid (RC14.out.below hb); clear RC14
        have RX15 := Lib.hid (RX14.out.below hb); clear RX14
        have RY15 := Lib.hid (RY14.out.below hb); clear RY14
        have RZ15 := Lib.hid (RZ14.out.below hb); clear RZ14
        have RQ15 := Lib.hid (RQ14.out.below hb); clear RQ14
        have RS15 := Lib.hid (RS14.out.below hb); clear RS14
        have RT15 := Lib.hid (RT14.out.below hb); clear RT14
        have HB15 := Lib.hid (HB14.out.trans (hb.mono HB14.out.size)); clear HB14 hb
        go_wp2_with fail
        refine (same_any _ _ _ _ RS15.out RZ15.out (by omega)).mono ?_; rintro e w16 ⟨rfl, hb⟩
        have RA16 := Lib.hid (RA15.out.below hb); clear RA15
        have RB16 := Lib.hid (RB15.out.below hb); clear RB15
        have RC16 := Lib.hid (RC15.out.below hb); clear RC15
        have RX16 := Lib.hid (RX15.out.below hb); clear RX15
        have RY16 := Lib.hid (RY15.out.below hb); clear RY15
        have RZ16 := Lib.hid (RZ15.out.below hb); clear RZ15
        have RQ16 := Lib.hid (RQ15.out.below hb); clear RQ15
        have RS16 := Lib.hid (RS15.out.below hb); clear RS15
        have RT16 := Lib.hid (RT15.out.below hb); clear RT15
        have HB16 := Lib.hid (HB15.out.trans (hb.mono HB15.out.size)); clear HB15 hb
        go_wp2_with fail
        refine (same_any _ _ _ _ RT16.out RA16.out (by omega)).mono ?_; rintro e w17 ⟨rfl, hb⟩
        have RA17 := Lib.hid (RA16.out.below hb); clear RA16
        have RB17 := Lib.hid (RB16.out.below hb); clear RB16
        have RC17 := Lib.hid (RC16.out.below hb); clear RC16
        have RX17 := Lib.hid (RX16.out.below hb); clear RX16
        have RY17 := Lib.hid (RY16.out.below hb); clear RY16
        have RZ17 := Lib.hid (RZ16.out.below hb); clear RZ16
        have RQ17 := Lib.hid (RQ16.out.below hb); clear RQ16
        have RS17 := Lib.hid (RS16.out.below hb); clear RS16
        have RT17 := Lib.hid (RT16.out.below hb); clear RT16
        have HB17 := Lib.hid (HB16.out.trans (hb.mono HB16.out.size)); clear HB16 hb
        go_wp2_with fail
        have hw := within_any _ _ lz la _ RZ17.out RA17.out (by omega) (by omega)
        rw [admit_le CZ.out CA.out (NZ.out), decide_eq_true G1.out] at hw
        refine hw.mono ?_; rintro e w18 ⟨rfl, hb⟩
        clear hw
        have RA18 := Lib.hid (RA17.out.below hb); clear RA17
        have RB18 := Lib.hid (RB17.out.below hb); clear RB17
        have RC18 := Lib.hid (RC17.out.below hb); clear RC17
        have RX18 := Lib.hid (RX17.out.below hb); clear RX17
        have RY18 := Lib.hid (RY17.out.below hb); clear RY17
        have RZ18 := Lib.hid (RZ17.out.below hb); clear RZ17
        have RQ18 := Lib.hid (RQ17.out.below hb); clear RQ17
        have RS18 := Lib.hid (RS17.out.below hb); clear RS17
        have RT18 := Lib.hid (RT17.out.below hb); clear RT17
        have HB18 := Lib.hid (HB17.out.trans (hb.mono HB17.out.size)); clear HB17 hb
        go_wp2_with fail
        have hw := within_any _ _ lz lb _ RZ18.out RB18.out (by omega) (by omega)
        rw [admit_le CZ.out CB.out (NZ.out.trans LAB.out), decide_eq_true G2.out] at hw
        refine hw.mono ?_; rintro e w19 ⟨rfl, hb⟩
        clear hw
        have RA19 := Lib.hid (RA18.out.below hb); clear RA18
        have RB19 := Lib.hid (RB18.out.below hb); clear RB18
        have RC19 := Lib.hid (RC18.out.below hb); clear RC18
        have RX19 := Lib.hid (RX18.out.below hb); clear RX18
        have RY19 := Lib.hid (RY18.out.below hb); clear RY18
        have RZ19 := Lib.hid (RZ18.out.below hb); clear RZ18
        have RQ19 := Lib.hid (RQ18.out.below hb); clear RQ18
        have RS19 := Lib.hid (RS18.out.below hb); clear RS18
        have RT19 := Lib.hid (RT18.out.below hb); clear RT18
        have HB19 := Lib.hid (HB18.out.trans (hb.mono HB18.out.size)); clear HB18 hb
        go_wp2_with fail
        have hw := within_any _ _ lz lc _ RZ19.out RC19.out (by omega) (by omega)
        rw [admit_le CZ.out CC.out (NZ.out.trans (LAB.out.trans LBC.out)), decide_eq_true G3.out] at hw
        refine hw.mono ?_; rintro e w20 ⟨rfl, hb⟩
        clear hw
        have RA20 := Lib.hid (RA19.out.below hb); clear RA19
        have RB20 := Lib.hid (RB19.out.below hb); clear RB19
        have RC20 := Lib.hid (RC19.out.below hb); clear RC19
        have RX20 := Lib.hid (RX19.out.below hb); clear RX19
        have RY20 := Lib.hid (RY19.out.below hb); clear RY19
        have RZ20 := Lib.hid (RZ19.out.below hb); clear RZ19
        have RQ20 := Lib.hid (RQ19.out.below hb); clear RQ19
        have RS20 := Lib.hid (RS19.out.below hb); clear RS19
        have RT20 := Lib.hid (RT19.out.below hb); clear RT19
        have HB20 := Lib.hid (HB19.out.trans (hb.mono HB19.out.size)); clear HB19 hb
        go_wp2_with fail
        go_ret
        exact ⟨rfl, HB20.out⟩
  · have hd : decide (n ≤ 400) = false := by simpa using hn
    clear hr hn
    go_enter Try.func4, Try.ntmps4
    go_wp2_with fail
    refine (awake_any _).mono ?_; rintro e w1 ⟨rfl, hb1⟩
    go_wp2_with fail
    refine (few_any a n cap _).mono ?_; rintro e w' ⟨rfl, rfl⟩
    go_wp2_with fail
    refine (awake_any _).mono ?_; rintro e w2 ⟨rfl, hb2⟩
    go_wp2_with fail
    go_ret
    exact ⟨rfl, hb1.trans (hb2.mono hb1.size)⟩
end Go.Proofs.Ytohglcbakepejaa
