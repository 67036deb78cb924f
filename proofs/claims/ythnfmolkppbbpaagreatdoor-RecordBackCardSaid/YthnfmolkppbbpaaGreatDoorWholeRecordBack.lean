/-
  For every input the law RecordBack returns true, and its arguments read afterwards as they read before; no condition.
-/
import Derived.Test.YthnfmolkppbbpaaGreatDoorPartRb10
import Derived.Test.YthnfmolkppbbpaaGreatDoorRows
import Derived.ProofKit
import Derived.JoinedOf
import Derived.WalkKit
import Derived.OpenShut
import Derived.ShutString
import Derived.ChangeOld
import Derived.Below
import Derived.Lib.SmallJoins
import Derived.Test.YthnfmolkppbbpaaGreatDoorCards
import Derived.Test.YthnfmolkppbbpaaGreatDoorTie
import Derived.LaidMore
import Derived.Lay
import Derived.SevenTiedAt
import Derived.Stop.Joined
section
/-
  The closed facts of the row of RecordBack, each a lemma of its own (so that the kernel gives its memory back behind each).
-/
namespace Go.Proofs.YthnfmolkppbbpaaGreatDoor.recordBack
theorem and_tt {a b : Bool} (h : a = true) (h' : b = true) : (a && b) = true := by rw [h, h']; rfl
set_option maxRecDepth 100000 in
set_option maxHeartbeats 100000000 in
theorem closed : joinedFacts Tryz.pinned.checked.prog 3 Tryz.f3 Rows.recordBackSpec Rows.recordBackRow = true := by
  unfold joinedFacts
  repeat' (with_reducible refine and_tt ?_ ?_)
  · as_aux_lemma => kernel_rfl
  · as_aux_lemma => kernel_rfl
  · as_aux_lemma => kernel_rfl
  · as_aux_lemma => kernel_rfl
  · as_aux_lemma => kernel_rfl
  · as_aux_lemma => kernel_rfl
  · as_aux_lemma => kernel_rfl
  · as_aux_lemma => kernel_rfl
  · as_aux_lemma => kernel_rfl
  · as_aux_lemma => kernel_rfl
  · as_aux_lemma => kernel_rfl
  · as_aux_lemma => kernel_rfl
  · as_aux_lemma => kernel_rfl
  · as_aux_lemma => kernel_rfl
  · as_aux_lemma => kernel_rfl
  · as_aux_lemma => kernel_rfl
  · as_aux_lemma => kernel_rfl
  · as_aux_lemma => kernel_rfl
  · as_aux_lemma => kernel_rfl
  · as_aux_lemma => kernel_rfl
  · as_aux_lemma => kernel_rfl
  · as_aux_lemma => kernel_rfl
  · as_aux_lemma => kernel_rfl
  · as_aux_lemma => kernel_rfl
  · as_aux_lemma => kernel_rfl
  · as_aux_lemma => kernel_rfl
  · as_aux_lemma => kernel_rfl
  · as_aux_lemma => kernel_rfl
  · as_aux_lemma => kernel_rfl
  · as_aux_lemma => kernel_rfl
  · as_aux_lemma => kernel_rfl
  · as_aux_lemma => kernel_rfl
end Go.Proofs.YthnfmolkppbbpaaGreatDoor.recordBack
end
section
/- The law RecordBack, walked: for every list of numbers it returns true and leaves what was there. -/
set_option linter.unusedSimpArgs false
set_option linter.unusedVariables false
set_option maxRecDepth 100000
namespace Go.Proofs.YthnfmolkppbbpaaGreatDoor
open Go.RowKit Cal
attribute [local go_sem] toList_mk mk_size bytes_append
theorem file_len {s : SchemaL} {R : List RecL} (h : allN s R = 0) (h5 : s.fields.length ≤ 5) : (fileR R).length ≤ 50000 := by
  obtain ⟨hc, hl64, _⟩ := allN_ok h
  have h1 := follows_len h h5 R.length
  rw [List.take_length] at h1
  have h2 : (Lib.decDigits R.length).length ≤ 7 := dec_most (k := 7) (by decide) (by omega)
  have h3 : fileR R = rowsT (R.map rowR) ++ ([101, 110, 100, 32] ++ Lib.decDigits R.length ++ [10]) := by unfold fileR; rw [rowsT_append, rowsT_one]; rfl
  rw [h3]
  simp only [List.length_append, List.length_cons, List.length_nil]
  omega
set_option maxHeartbeats 16000000 in
theorem rback_walk (a : Option Addr) (n cap : Nat) (zs : List Int) (w : World) (hr : IsRow .i64 w a n cap zs) (hM : VarsAt w) (hDb : DbAt w) :
    Calls Tryz.prog 3 #[.slice a n cap] w fun e w' => e = .returned (.bool true) ∧ Below w.heap.size w w' := by
  have HVar := Lib.hid hM; have HDb := Lib.hid hDb; clear hDb; replace hM := hM.m
  by_cases hn : n ≤ 400
  · have HMx := Lib.hid hM; clear hM
    have hd : decide (n ≤ 400) = true := by simpa using hn
    have HR := Lib.hid hr; clear hr
    go_enter Tryz.func3, Tryz.ntmps3
    go_wp2_with fail
    refine (awake_r _ HMx.out).mono ?_; rintro e w1 ⟨rfl, hb1⟩
    go_wp2_with fail
    refine (few_any a n cap _).mono ?_; rintro e w' ⟨rfl, rfl⟩
    go_wp2_with fail
    refine (new_any a n cap _).mono ?_; rintro e w' ⟨rfl, rfl⟩
    have Hdk := Lib.hid (deck_law (cap := cap) hn HR.out hb1)
    have HB1 := Lib.hid (hb1.alloc hb1.size (.cells #[.slice a n cap, .int .i64 0, .int .u64 11400714819323198485] 65))
    have zB1 := hb1.size
    clear hb1 HR hd
    go_wp2_with fail
    refine (schema_deal _ _ Hdk.out).mono ?_
    rintro e w2 ⟨vf, vt, vn, vs, s, rfl, hs, hsd, mv⟩
    obtain ⟨Wd, hWd⟩ : ∃ Wd : World, w1.alloc (.cells #[.slice a n cap, .int .i64 0, .int .u64 11400714819323198485] 65) = Wd := ⟨_, rfl⟩
    rw [hWd] at mv hs HB1
    obtain ⟨D, hD⟩ : ∃ D, w1.heap.size = D := ⟨_, rfl⟩
    have zWd : Wd.heap.size = D + 1 := by rw [← hWd, ← hD]; simp
    rw [hD] at mv zB1 ⊢
    obtain ⟨af, cf, rfl⟩ := hs.1.slice
    obtain ⟨at', ct, rfl⟩ := hs.2.1.slice
    obtain ⟨an, cn, rfl⟩ := hs.2.2.1.slice
    obtain ⟨as', cs, rfl⟩ := hs.2.2.2.slice
    have zD := mv.deck.lt
    have hlen5 := (check_fields hsd.check).1.2
    have hlen1 := hsd.some
    have hlen1000 : s.fields.length ≤ 1000 := by omega
    have HL1000 := Lib.hid hlen1000
    obtain ⟨N, hN⟩ : ∃ N, s.fields.length = N := ⟨_, rfl⟩
    rw [hN] at hlen5 hlen1 hs ⊢
    have M2 := Lib.hid mv; have HS := Lib.hid hs; have HSD := Lib.hid hsd; have HNN := Lib.hid hN
    clear mv hs hsd hWd hD Hdk hN hlen1000
    go_wp2_with fail
    refine wp_calls_world (fun W3 hW3 => ?_)
    have hb3 : Below w2.heap.size w2 W3 := by rw [hW3]; exact (Below.refl w2.heap.size w2).alloc (Nat.le_refl _) _
    have hs3 : W3.heap[w2.heap.size]? = some (.cells #[.slice af N cf, .slice at' s.rules.titles.length ct, .slice an s.rules.nicks.length cn, .slice as' s.rules.streets.length cs] 33 (0, 0)) := by rw [hW3]; exact blk_new rfl
    have M3 := Lib.hid (M2.out.below hb3); have HS3 := Lib.hid hs3; have HSA := Lib.hid (HS.out.below hb3)
    have z23 := M2.out.size
    have hSne : ∀ b, Wd.heap.size ≤ b → b ≠ D := fun b h => by omega
    have HNe := Lib.hid hSne
    clear hb3 hs3 HS hW3 M2 hSne
    have hrd := records_deal D (fun b => Wd.heap.size ≤ b) (.slice af N cf) (.slice at' s.rules.titles.length ct) (.slice an s.rules.nicks.length cn) (.slice as' s.rules.streets.length cs) s 6 W3 M3.out.deck HSA.out HNe.out HSD.out (by decide)
    refine hrd.mono ?_
    rintro e w4 ⟨rv, R, rfl, hrv, hok, hR5, hasc, mv⟩
    obtain ⟨ar, cr, rfl⟩ := hrv.slice
    have K4 := Lib.hid (show OsAt D Wd w2.heap.size (fun b => Wd.heap.size ≤ b) (.slice af N cf) (.slice at' s.rules.titles.length ct) (.slice an s.rules.nicks.length cn) (.slice as' s.rules.streets.length cs) s w4 from
      ⟨M3.out.trans mv, mv.blk (k := w2.heap.size) (by omega) HS3.out, HSA.out.moved HNe.out mv, HNe.out, by omega⟩)
    have HRV := Lib.hid (hrv.move (T := fun b => Wd.heap.size ≤ b) (w' := w4) (Nat.le_refl _) fun b hb hs => ⟨rfl, by have h1 := M3.out.size; have hs' : W3.heap.size ≤ b := hs; show Wd.heap.size ≤ b; omega⟩)
    have HOk := Lib.hid hok; have HAsc := Lib.hid hasc; have HSm := Lib.hid (recs_small hok HL1000.out)
    clear hrv hok hasc mv M3 HS3 HSA hrd
    obtain ⟨p0, p1, p2, p3⟩ := cellsS K4.out.b
    have hbw4 : Below w.heap.size w w4 := K4.out.m.base HB1.out (by omega)
    have HBw4 := Lib.hid hbw4
    have HV4 := Lib.hid (HVar.out.old hbw4); have HD4 := Lib.hid (HDb.out.old hbw4)
    have hcs : checkS s = 0 := HSD.out.check
    have HCs := Lib.hid hcs
    have hfl := file_len HOk.out.1 (check_fields hcs).1.2
    have hread := read_file HOk.out.1
    have hfile := rfile_yes (fun b => Wd.heap.size ≤ b) (fun b => Wd.heap.size ≤ b) _ _ _ _ _ s R w4 K4.out.s HRV.out HOk.out.1 HV4.out HD4.out
    obtain ⟨T, hT⟩ : ∃ T, fileR R = T := ⟨_, rfl⟩
    rw [hT] at hfl hread hfile
    obtain ⟨nT, hnT⟩ : ∃ nT, T.length = nT := ⟨_, rfl⟩
    have HRd := Lib.hid hread
    have dLL : ((T.length : Int) != (T.length : Int)) = false := by simp
    have d00 : ((0 : Int) != 0) = false := rfl
    clear hbw4 hcs hread hT hnT
    go_wp2_with fail
    refine hfile.mono ?_
    clear hfile
    rintro e w5 ⟨rfl, hb⟩
    have K5 := Lib.hid (K4.out.below hb); have HRV5 := Lib.hid (HRV.out.below hb); have HB5 := Lib.hid (HBw4.out.trans (hb.mono HBw4.out.size))
    clear hb p0 p1 p2 p3 K4 HRV
    obtain ⟨p0, p1, p2, p3⟩ := cellsS K5.out.b
    have HV5 := Lib.hid (HVar.out.old HB5.out); have HD5 := Lib.hid (HDb.out.old HB5.out)
    go_wp2_with fail
    refine (precread_any (fun b => Wd.heap.size ≤ b) _ _ _ _ s T w5 HV5.out HD5.out K5.out.s HCs.out hfl).mono ?_
    rw [HRd.out]
    rintro e w6 ⟨xv, rfl, hxv, hb⟩
    dsimp only at hxv ⊢
    obtain ⟨ax, cx, rfl⟩ := hxv.slice
    have K6 := Lib.hid (K5.out.below hb); have HRV6 := Lib.hid (HRV5.out.below hb); have HB6 := Lib.hid (HB5.out.trans (hb.mono HB5.out.size))
    have HX6 := Lib.hid hxv
    clear hb p0 p1 p2 p3 K5 HRV5 HV5 HD5 hxv
    go_wp2_with fail
    refine (rsameall_any _ (fun b => Wd.heap.size ≤ b) _ _ R R w6 HX6.out HRV6.out (by omega) HSm.out.2 HSm.out.2).mono ?_
    rw [sameRs_self]
    rintro e w7 ⟨rfl, hb⟩
    have K7 := Lib.hid (K6.out.below hb); have HRV7 := Lib.hid (HRV6.out.below hb); have HB7 := Lib.hid (HB6.out.trans (hb.mono HB6.out.size))
    clear hb K6 HRV6 HX6
    go_wp2_with fail
    go_loopw [65] (fun t wr => ∃ j : Nat, t = .int .i64 j ∧ j ≤ R.length ∧ Below w7.heap.size w7 wr) (fun t _ => R.length - (intOf t).toNat)
    case atStart => exact ⟨0, rfl, by omega, Below.refl _ _⟩
    case round =>
      obtain ⟨j, rfl, hj, hbw⟩ := hrel
      obtain ⟨wu, hwu⟩ : ∃ u, u = wr := ⟨_, rfl⟩
      subst hwu
      have HBw := Lib.hid hbw
      by_cases hlt : j < R.length
      · have hq : decide ((j : Int) < (R.length : Int)) = true := by simp; omega
        have hji : (j : Int) < (R.length : Int) := by omega
        obtain ⟨bb, oo, id, ver, aa, nn, cc, vals, eb, lb, c0, c1, c2, hRj, hvv⟩ := (HRV7.out.below hbw).at j hlt
        cases eb
        have hck : checkN s ⟨id, ver, vals⟩ = 0 := by rw [← hRj]; exact (allN_ok HOk.out.1).2.2 _ (List.getElem_mem _)
        have hckI : checkI s ⟨id, ver, vals⟩ = 0 := by unfold checkN at hck; rwa [if_pos HCs.out] at hck
        have hlen := lineR_len hckI (check_fields HCs.out).1.2
        have hps := parse_lineR hckI
        have hvl : vals.length ≤ 1000000 := by have := (checkI_ok hckI).2.1; dsimp only at this; have := (check_fields HCs.out).1.2; omega
        have hsame : sameR ⟨id, ver, vals⟩ ⟨id, ver, vals⟩ = true := sameR_self _ _ rfl rfl rfl
        have Ku := Lib.hid (K7.out.below hbw); have HBu := Lib.hid (HB7.out.trans (hbw.mono HB7.out.size))
        have HVV := Lib.hid hvv.any; have HCk := Lib.hid hck
        obtain ⟨an', cn', ean⟩ := hvv.slice
        cases ean
        obtain ⟨p0, p1, p2, p3⟩ := cellsS Ku.out.b
        have ly := lt_of_blk Ku.out.b
        clear hbw hRj hvv hck hckI
        go_wp2_with fail
        refine wp_calls_world (fun W3 hW3 => ?_)
        have hb3 : Below wu.heap.size wu W3 := by rw [hW3]; exact (Below.refl wu.heap.size wu).alloc (Nat.le_refl _) _
        have hx3 : W3.heap[wu.heap.size]? = some (.cells #[.int .i64 id, .int .i64 ver, .slice aa vals.length cc] 44 (0, 0)) := by rw [hW3]; exact blk_new rfl
        have HB3 := Lib.hid (HBu.out.trans (hb3.mono HBu.out.size)); have K3 := Lib.hid (Ku.out.below hb3); have HVV3 := Lib.hid (HVV.out.below hb3)
        have Hb3 := Lib.hid hb3
        clear hW3
        refine (rLineV_yes (fun b => Wd.heap.size ≤ b) _ _ _ _ s ⟨id, ver, vals⟩ _ W3 K3.out.s HVV3.out HCk.out HCs.out (HVar.out.old HB3.out)).mono ?_
        obtain ⟨L, hL⟩ : ∃ L, lineR ⟨id, ver, vals⟩ = L := ⟨_, rfl⟩
        rw [hL] at hlen hps ⊢
        have HPs := Lib.hid hps
        rintro e w8 ⟨rfl, hb⟩
        have hx8 := blk_below hb (lt_of_blk hx3) hx3
        have HB8 := Lib.hid (HB3.out.trans (hb.mono HB3.out.size)); have K8 := Lib.hid (K3.out.below hb); have HVV8 := Lib.hid (HVV3.out.below hb); have HX8 := Lib.hid hx8
        have Hb8 := Lib.hid (hb3.trans (hb.mono hb3.size))
        clear hb hb3 hx3 hx8 p0 p1 p2 p3 c0 c1 c2 hL hps Ku HVV
        obtain ⟨p0, p1, p2, p3⟩ := cellsS K8.out.b
        go_wp2_with fail
        refine (rParse_any (fun b => Wd.heap.size ≤ b) _ _ _ _ s L w8 K8.out.s HCs.out (HVar.out.old HB8.out) (by omega)).mono ?_
        rw [HPs.out]
        rintro e w9 ⟨_, rfl, ⟨sv, rfl, hvv⟩, hb⟩
        dsimp only at hvv ⊢
        obtain ⟨as9, cs9, rfl⟩ := hvv.slice
        have HB9 := Lib.hid (HB8.out.trans (hb.mono HB8.out.size)); have Hb9 := Lib.hid (Hb8.out.trans (hb.mono Hb8.out.size)); have HVV9 := Lib.hid (HVV8.out.below hb); have HX9 := Lib.hid (blk_below hb (lt_of_blk HX8.out) HX8.out)
        have HY9 := Lib.hid hvv.any
        obtain ⟨x0, x1, x2⟩ := cells3 HX9.out
        have lx := lt_of_blk HX9.out
        have d00 : ((0 : Int) != 0) = false := rfl
        clear hb hvv p0 p1 p2 p3 K8 HX8 HVV8 HPs
        go_wp2_with fail
        refine wp_calls_world (fun W4 hW4 => ?_)
        have hb4 : Below w9.heap.size w9 W4 := by rw [hW4]; exact (Below.refl w9.heap.size w9).alloc (Nat.le_refl _) _
        clear hW4
        refine (psame_any _ _ _ _ ⟨id, ver, vals⟩ ⟨id, ver, vals⟩ W4 (HY9.out.below hb4) (HVV9.out.below hb4) hvl hvl).mono ?_
        rw [hsame]
        rintro e w10 ⟨rfl, hb⟩
        have HB10 := Lib.hid (HBw.out.trans (((Hb9.out.trans (hb4.mono Hb9.out.size)).trans (hb.mono (Nat.le_trans Hb9.out.size hb4.size))).mono HBw.out.size))
        clear hb hb4 x0 x1 x2
        go_wp2_with fail
        go_roundw
        case rel => exact ⟨j + 1, by go_num, by omega, HB10.out⟩
        case measure => simp [intOf]; omega
      · have hq : decide ((j : Int) < (R.length : Int)) = false := by simp; omega
        have HBx := Lib.hid (HB7.out.trans (hbw.mono HB7.out.size))
        clear hbw HBw
        go_wp2_with fail
        go_ret
        exact ⟨rfl, HBx.out⟩
  · have HMx := Lib.hid hM; clear hM
    have hd : decide (n ≤ 400) = false := by simpa using hn
    clear hr hn
    go_enter Tryz.func3, Tryz.ntmps3
    go_wp2_with fail
    refine (awake_r _ HMx.out).mono ?_; rintro e w1 ⟨rfl, hb1⟩
    go_wp2_with fail
    refine (few_any a n cap _).mono ?_; rintro e w' ⟨rfl, rfl⟩
    go_wp2_with fail
    refine (awake_r _ (HMx.out.old hb1)).mono ?_; rintro e w2 ⟨rfl, hb2⟩
    go_wp2_with fail
    go_ret
    exact ⟨rfl, hb1.trans (hb2.mono hb1.size)⟩
end Go.Proofs.YthnfmolkppbbpaaGreatDoor
end
section
namespace Go.Proofs.YthnfmolkppbbpaaGreatDoor.recordBack
open Go.ChangeShapes Go.WideShapes Go.ChangeAt Go.RowKit Go.Joins
open Go.ChangeMaps (open_string shut_string)
set_option linter.unusedVariables false

theorem own : ownKnob Tryz.prog.godebug = none := by kernel_rfl
theorem laidOut : laidOutB Tryz.prog = true := by kernel_rfl

set_option maxRecDepth 100000 in
theorem lifted (os : Os) (started : os.Started) (H : Type) (enc : TypeId × Value → H) :
    ReturnsInHanded {} Tryz.checked os 3 .any (fun w args => (Rows.recordBackSpec.pre enc Tryz.prog Tryz.f3 Rows.recordBackRow.domain false w args ∧ laidMetH Tryz.prog Rows.recordBackRow.laid w) ∧ sizedMet enc Tryz.prog Tryz.f3 (OpenSpec.ofChange Rows.recordBackSpec) false w args) (Rows.recordBackSpec.post enc Tryz.prog Tryz.f3 false true false false) := by
  refine handed_shaped (C := Tryz.checked) (X := fun w _ => laidMetH Tryz.prog Rows.recordBackRow.laid w) (fun _ _ _ hh h => h.of_heap hh) own started (by kernel_rfl) Tryz.func3
    (ChangeSpec.witness_shaped (enc := enc) (C := Tryz.checked) (os := os) (X := fun w _ => laidMetH Tryz.prog Rows.recordBackRow.laid w) false (World.laidAll Tryz.prog os Rows.recordBackRow.laid) #[.slice none 0 0] 8 (World.laidAll_os _ _ _)
      (World.shaped_of_ZipB (by kernel_rfl) (by kernel_rfl)) (by kernel_rfl) (by kernel_rfl) (by kernel_rfl)
      (by rw [MakeChecks.laidMetH_plain _ _ _ (by kernel_rfl)]; exact laidMet_laidAll _ (by kernel_rfl) (by kernel_rfl))) ?_
  intro W base args ds gs before hval0 hW hLaid hsh
  have hval : ∀ (j : Nat) t v, Tryz.f3.params[j]? = some t → args[j]? = some v → Value.okWide Tryz.prog W .any base t v := hval0
  have hW' := hW
  obtain ⟨p, q, hA0, hV, rfl, hfz, hnd⟩ := hW
  have hA : DataW.TrodAll enc Tryz.prog W 0 (fun _ => true) true Tryz.f3.params.toList args.toList ds p := hA0
  rw [Tryz.params3] at hA hval
  obtain ⟨v0, vs0, d0, ds0, p0, q0, hargs, rfl, rfl, h0, r0⟩ := trodAll_cons hA
  obtain ⟨rfl, rfl, rfl⟩ := trodAll_nil r0
  obtain rfl : args = #[v0] := by cases args; simp_all
  obtain ⟨rfl, rfl⟩ := trodVars_none hV
  obtain ⟨a0, len0, cap0, rfl⟩ := okWide_slice Tryz.underlying22 (hval 0 22 v0 rfl rfl)
  have k0 := h0
  have lt0 : ∀ x ∈ p0, x.block < W.heap.size := by obtain ⟨m, hm⟩ := k0; exact DataW.trod_lt m _ _ _ hm
  obtain ⟨z0, w0⟩ : ∃ zs, IsRow .i64 W a0 len0 cap0 zs := by
    obtain ⟨fuel, hf⟩ := h0
    rcases open_ints Tryz.underlying22 Tryz.underlying3 (by kernel_rfl) hf with ⟨hcs, _⟩ | ⟨x, l, c, zs, hcs, _, hl, hm, hz, _, hcell, hwz⟩
    · simp [Value.cells] at hcs
      obtain ⟨rfl, rfl, rfl⟩ := hcs
      exact ⟨[], .inl ⟨rfl, rfl, rfl, rfl⟩⟩
    · simp [Value.cells] at hcs
      obtain ⟨rfl, rfl, rfl⟩ := hcs
      exact ⟨zs, .inr ⟨_, rfl, hl, hm, by simpa using hz, hcell, hwz⟩⟩
  clear hA0 hval0
  refine (rback_walk a0 len0 cap0 z0 W w0 (vars_give (l := Rows.recordBackRow.laid) hsh hLaid (by kernel_rfl) 2 (by kernel_rfl) 5 rfl 4 rfl) (db_give (l := Rows.recordBackRow.laid) hLaid (by kernel_rfl) 1 (by kernel_rfl))).mono fun e W' ⟨he, bel⟩ => ?_
  subst he
  exact ⟨_, rfl, _, _, _, [], _, [], hW', trodAll_mk1 (shut_bool Tryz.underlying4 _), (trodAll_cons_mk (Below.trod laidOut (by kernel_rfl) (of_decide_eq_true (by kernel_rfl)) k0 bel lt0) trodAll_mk0), rfl, bel.frame _, fun h => by cases h⟩

set_option maxRecDepth 100000 in
set_option maxHeartbeats 100000000 in
theorem over : Rows.recordBackRow.holds Tryz.pinned (OpenSpec.ofChange Rows.recordBackSpec) :=
  OpenClaim.holds_of_wide 3 Tryz.f3 rfl rfl rfl rfl rfl rfl rfl ⟨rfl, rfl, rfl, rfl, rfl⟩ rfl rfl rfl rfl rfl (by as_aux_lemma => kernel_rfl) Tryz.func3 closed
    (of_decide_eq_true (by as_aux_lemma => kernel_rfl)) (by unfold Func.isWrapper; first | (rw [if_pos (by decide +kernel)]; kernel_rfl) | (rw [if_neg (by decide +kernel)]; exact ⟨rfl, rfl⟩))
    (fun os started H enc _ => lifted os started H enc)

set_option maxRecDepth 100000 in
set_option maxHeartbeats 100000000 in
/-- THE STATEMENT -/
theorem proved : Rows.RecordBackCardSaid :=
  Claim7.holds_tied_plain_at .later [] [.data, .data, .data, .data, .sentinel, .sentinel, .pinned] true (true, "b5818e6b72f097d754fe0beb9587222376a858f0223aedf64dd4d11e6839c360") true
    over (fun _ h => by cases h) (by as_aux_lemma => kernel_rfl) (fun _ h => by cases h) recordBack_row_tie rfl ⟨rfl, rfl⟩ (by as_aux_lemma => kernel_rfl) rfl
    (fun f fn hf hfn => by
      obtain rfl : f = 3 := Option.some.inj ((show Tryz.prog.funcNamed Rows.recordBackRow.func = some 3 by kernel_rfl).symm.trans hf) |>.symm
      obtain rfl : fn = Tryz.f3 := (Option.some.inj (Tryz.func3.symm.trans hfn)).symm
      exact ⟨by kernel_rfl, fun j t ht => by
        rw [Tryz.params3] at ht
        have hm : t ∈ [22] := by simpa using Array.mem_of_getElem? ht
        have hall : ([22].all fun u => !Tryz.prog.wantsStandIn u) = true := by kernel_rfl
        exact (show Tryz.prog.wantsStandIn t = false by simpa using List.all_eq_true.1 hall t hm)⟩)
    (by as_aux_lemma => kernel_rfl)
#print axioms proved
end Go.Proofs.YthnfmolkppbbpaaGreatDoor.recordBack
end
