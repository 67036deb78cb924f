/-
  For every input the law RecordTorn returns true, and its arguments read afterwards as they read before; no condition.
-/
import Derived.Test.YtoeplomdcannlaaGreatDoorPartRt10
import Derived.Test.YtoeplomdcannlaaGreatDoorRows
import Derived.ProofKit
import Derived.JoinedOf
import Derived.WalkKit
import Derived.OpenShut
import Derived.ShutString
import Derived.ChangeOld
import Derived.Below
import Derived.Lib.SmallJoins
import Derived.Test.YtoeplomdcannlaaGreatDoorCards
import Derived.Test.YtoeplomdcannlaaGreatDoorTie
import Derived.LaidMore
import Derived.Lay
import Derived.SevenTiedAt
import Derived.Stop.Joined
section
/-
  The closed facts of the row of RecordTorn, each a lemma of its own (so that the kernel gives its memory back behind each).
-/
namespace Go.Proofs.YtoeplomdcannlaaGreatDoor.recordTorn
theorem and_tt {a b : Bool} (h : a = true) (h' : b = true) : (a && b) = true := by rw [h, h']; rfl
set_option maxRecDepth 100000 in
set_option maxHeartbeats 100000000 in
theorem closed : joinedFacts Tryz.pinned.checked.prog 4 Tryz.f4 Rows.recordTornSpec Rows.recordTornRow = true := by
  unfold joinedFacts
  repeat' (with_reducible refine and_tt ?_ ?_)
  · as_aux_lemma => kernel_rfl
  · as_aux_lemma => kernel_rfl
  · as_aux_lemma => kernel_rfl
  · as_aux_lemma => kernel_rfl
  · as_aux_lemma => kernel_rfl
  · as_aux_lemma => kernel_rfl
  · as_aux_lemma => kernel_rfl
  · as_aux_lemma => kernel_rfl
  · as_aux_lemma => kernel_rfl
  · as_aux_lemma => kernel_rfl
  · as_aux_lemma => kernel_rfl
  · as_aux_lemma => kernel_rfl
  · as_aux_lemma => kernel_rfl
  · as_aux_lemma => kernel_rfl
  · as_aux_lemma => kernel_rfl
  · as_aux_lemma => kernel_rfl
  · as_aux_lemma => kernel_rfl
  · as_aux_lemma => kernel_rfl
  · as_aux_lemma => kernel_rfl
  · as_aux_lemma => kernel_rfl
  · as_aux_lemma => kernel_rfl
  · as_aux_lemma => kernel_rfl
  · as_aux_lemma => kernel_rfl
  · as_aux_lemma => kernel_rfl
  · as_aux_lemma => kernel_rfl
  · as_aux_lemma => kernel_rfl
  · as_aux_lemma => kernel_rfl
  · as_aux_lemma => kernel_rfl
  · as_aux_lemma => kernel_rfl
  · as_aux_lemma => kernel_rfl
  · as_aux_lemma => kernel_rfl
  · as_aux_lemma => kernel_rfl
end Go.Proofs.YtoeplomdcannlaaGreatDoor.recordTorn
end
section
/- The law RecordTorn, walked: for every list of numbers and place it returns true and leaves what was there. -/
set_option linter.unusedSimpArgs false
set_option linter.unusedVariables false
set_option maxRecDepth 100000
namespace Go.Proofs.YtoeplomdcannlaaGreatDoor
open Go.RowKit Cal
attribute [local go_sem] toList_mk mk_size bytes_append
theorem file_some (R : List RecL) : 1 ≤ (fileR R).length := by
  unfold fileR
  rw [rowsT_append, rowsT_one]
  simp
  omega
theorem count_more {T : List UInt8} {i : Nat} (h : i < T.length) : (T.take (i + 1)).count 10 = (T.take i).count 10 + if T[i] = 10 then 1 else 0 := by
  rw [List.take_succ_eq_append_getElem h, List.count_append, List.count_cons, List.count_nil]
  simp
set_option maxHeartbeats 16000000 in
theorem rtorn_walk (a : Option Addr) (n cap : Nat) (zs : List Int) (x0_ : Int) (w : World) (hr : IsRow .i64 w a n cap zs) (hx : (Lit.int .i64 x0_).wf = true) (hM : VarsAt w) (hDb : DbAt w) :
    Calls Tryz.prog 4 #[.slice a n cap, .int .i64 x0_] w fun e w' => e = .returned (.bool true) ∧ Below w.heap.size w w' := by
  have hx1 : -9223372036854775808 ≤ x0_ ∧ x0_ ≤ 9223372036854775807 := by simpa [Lit.wf, IntKind.min, IntKind.max, IntKind.signed, IntKind.bits] using hx
  clear hx
  have HVar := Lib.hid hM; have HDb := Lib.hid hDb; clear hDb; replace hM := hM.m
  by_cases hn : n ≤ 400
  · have HMx := Lib.hid hM; clear hM
    have hd : decide (n ≤ 400) = true := by simpa using hn
    have HR := Lib.hid hr; clear hr
    go_enter Tryz.func4, Tryz.ntmps4
    go_wp2_with fail
    refine (awake_r _ HMx.out).mono ?_; rintro e w1 ⟨rfl, hb1⟩
    go_wp2_with fail
    refine (few_any a n cap _).mono ?_; rintro e w' ⟨rfl, rfl⟩
    go_wp2_with fail
    refine (new_any a n cap _).mono ?_; rintro e w' ⟨rfl, rfl⟩
    have Hdk := Lib.hid (deck_law (cap := cap) hn HR.out hb1)
    have HB1 := Lib.hid (hb1.alloc hb1.size (.cells #[.slice a n cap, .int .i64 0, .int .u64 11400714819323198485] 87))
    have zB1 := hb1.size
    clear hb1 HR hd
    go_wp2_with fail
    refine (schema_deal _ _ Hdk.out).mono ?_
    rintro e w2 ⟨vf, vt, vn, vs, s, rfl, hs, hsd, mv⟩
    obtain ⟨Wd, hWd⟩ : ∃ Wd : World, w1.alloc (.cells #[.slice a n cap, .int .i64 0, .int .u64 11400714819323198485] 87) = Wd := ⟨_, rfl⟩
    rw [hWd] at mv hs HB1
    obtain ⟨D, hD⟩ : ∃ D, w1.heap.size = D := ⟨_, rfl⟩
    have zWd : Wd.heap.size = D + 1 := by rw [← hWd, ← hD]; simp
    rw [hD] at mv zB1 ⊢
    obtain ⟨af, cf, rfl⟩ := hs.1.slice
    obtain ⟨at', ct, rfl⟩ := hs.2.1.slice
    obtain ⟨an, cn, rfl⟩ := hs.2.2.1.slice
    obtain ⟨as', cs, rfl⟩ := hs.2.2.2.slice
    have zD := mv.deck.lt
    have hlen5 := (check_fields hsd.check).1.2
    have hlen1 := hsd.some
    have hlen1000 : s.fields.length ≤ 1000 := by omega
    have HL1000 := Lib.hid hlen1000
    obtain ⟨N, hN⟩ : ∃ N, s.fields.length = N := ⟨_, rfl⟩
    rw [hN] at hlen5 hlen1 hs ⊢
    have M2 := Lib.hid mv; have HS := Lib.hid hs; have HSD := Lib.hid hsd; have HNN := Lib.hid hN
    clear mv hs hsd hWd hD Hdk hN hlen1000
    go_wp2_with fail
    refine wp_calls_world (fun W3 hW3 => ?_)
    have hb3 : Below w2.heap.size w2 W3 := by rw [hW3]; exact (Below.refl w2.heap.size w2).alloc (Nat.le_refl _) _
    have hs3 : W3.heap[w2.heap.size]? = some (.cells #[.slice af N cf, .slice at' s.rules.titles.length ct, .slice an s.rules.nicks.length cn, .slice as' s.rules.streets.length cs] 33 (0, 0)) := by rw [hW3]; exact blk_new rfl
    have M3 := Lib.hid (M2.out.below hb3); have HS3 := Lib.hid hs3; have HSA := Lib.hid (HS.out.below hb3)
    have z23 := M2.out.size
    have hSne : ∀ b, Wd.heap.size ≤ b → b ≠ D := fun b h => by omega
    have HNe := Lib.hid hSne
    clear hb3 hs3 HS hW3 M2 hSne
    have hrd := records_deal D (fun b => Wd.heap.size ≤ b) (.slice af N cf) (.slice at' s.rules.titles.length ct) (.slice an s.rules.nicks.length cn) (.slice as' s.rules.streets.length cs) s 6 W3 M3.out.deck HSA.out HNe.out HSD.out (by decide)
    refine hrd.mono ?_
    rintro e w4 ⟨rv, R, rfl, hrv, hok, hR5, hasc, mv⟩
    obtain ⟨ar, cr, rfl⟩ := hrv.slice
    have K4 := Lib.hid (show OsAt D Wd w2.heap.size (fun b => Wd.heap.size ≤ b) (.slice af N cf) (.slice at' s.rules.titles.length ct) (.slice an s.rules.nicks.length cn) (.slice as' s.rules.streets.length cs) s w4 from
      ⟨M3.out.trans mv, mv.blk (k := w2.heap.size) (by omega) HS3.out, HSA.out.moved HNe.out mv, HNe.out, by omega⟩)
    have HRV := Lib.hid (hrv.move (T := fun b => Wd.heap.size ≤ b) (w' := w4) (Nat.le_refl _) fun b hb hs => ⟨rfl, by have h1 := M3.out.size; have hs' : W3.heap.size ≤ b := hs; show Wd.heap.size ≤ b; omega⟩)
    have HOk := Lib.hid hok; have HAsc := Lib.hid hasc; have HSm := Lib.hid (recs_small hok HL1000.out)
    clear hrv hok hasc mv M3 HS3 HSA hrd
    obtain ⟨p0, p1, p2, p3⟩ := cellsS K4.out.b
    have hbw4 : Below w.heap.size w w4 := K4.out.m.base HB1.out (by omega)
    have HBw4 := Lib.hid hbw4
    have hcs : checkS s = 0 := HSD.out.check
    have HCs := Lib.hid hcs
    have hfl := file_len HOk.out.1 (check_fields hcs).1.2
    have hfs := file_some R
    have htorn := fun k hk => read_torn HOk.out.1 (k := k) hk
    have hfile := rrfile_yes (fun b => Wd.heap.size ≤ b) (fun b => Wd.heap.size ≤ b) _ _ _ _ _ s R w4 K4.out.s HRV.out HOk.out.1
    obtain ⟨T, hT⟩ : ∃ T, fileR R = T := ⟨_, rfl⟩
    rw [hT] at hfl hfs htorn hfile
    have HTo := Lib.hid htorn
    have d00 : ((0 : Int) != 0) = false := rfl
    have dT : ((T.length : Int) == 0) = false := beq_eq_false_iff_ne.2 (by omega)
    clear hbw4 hcs htorn hT
    go_wp2_with fail
    refine hfile.mono ?_
    clear hfile
    rintro e w5 ⟨rfl, hb⟩
    have K5 := Lib.hid (K4.out.below hb); have HRV5 := Lib.hid (HRV.out.below hb); have HB5 := Lib.hid (HBw4.out.trans (hb.mono HBw4.out.size))
    clear hb p0 p1 p2 p3 K4 HRV
    obtain ⟨p0, p1, p2, p3⟩ := cellsS K5.out.b
    have ly := lt_of_blk K5.out.b
    have HV5 := Lib.hid (HVar.out.old HB5.out); have HD5 := Lib.hid (HDb.out.old HB5.out)
    go_wp2_with fail
    refine (mod_some x0_ T.length _ hx1.1 hx1.2 (by omega) (by omega)).mono ?_
    rintro e w' ⟨k, rfl, hk, rfl⟩
    have hk' : k < T.length := by omega
    obtain ⟨nr, hnk, hmc, hrd⟩ := HTo.out k hk'
    obtain ⟨m, hm⟩ : ∃ m, (T.take k).count 10 = m := ⟨_, rfl⟩
    rw [hm] at hmc hrd
    have HM := Lib.hid hm
    have hUl : (T.take k).length ≤ 50000 := by rw [List.length_take]; omega
    obtain ⟨U, hU⟩ : ∃ U, T.take k = U := ⟨_, rfl⟩
    have hext : (⟨T.toArray⟩ : ByteArray).extract 0 k = ⟨U.toArray⟩ := by rw [← hU]; exact extract_take T k
    rw [hU] at hrd hUl
    have HRd := Lib.hid hrd
    have hkT : (k : Int) ≤ (T.length : Int) := by omega
    have hk0 : k ≤ T.length := by omega
    have bD : Below w5.heap.size w5 w5.drew := (Below.refl _ _).drew
    clear hm hrd hU dT hfs
    go_wp2_with fail
    go_cut [11, 12, 13] (fun s11 s12 s13 wx => ∃ (ax : Option Addr) (cx : Nat), s11 = .slice ax m cx ∧ s12 = .int .i64 nr ∧ s13 = .int .i64 15 ∧ RecsVec wx Any1 (.slice ax m cx) (R.take m) ∧ Below w5.heap.size w5 wx)
    case first =>
      refine wp_region_noPanic ?_
      refine wp_region_held_drew (S := (fun w' => w'.cell? ⟨w2.heap.size, 0, none⟩ = some (.slice af N cf) ∧ w'.cell? ⟨w2.heap.size, 1, none⟩ = some (.slice at' s.rules.titles.length ct) ∧ w'.cell? ⟨w2.heap.size, 2, none⟩ = some (.slice an s.rules.nicks.length cn) ∧ w'.cell? ⟨w2.heap.size, 3, none⟩ = some (.slice as' s.rules.streets.length cs))) (by kernel_rfl) (⟨p0, p1, p2, p3⟩) (fun hHeld => ?_)
      refine tH 0 (h := ?_)
      try simp only [List.getElem_toArray, List.getElem_cons_zero, List.getElem_cons_succ, Act.put, List.setIfInBounds_toArray, List.set_cons_zero, List.set_cons_succ]
      refine tH 1 (h := ?_)
      try simp only [List.getElem_toArray, List.getElem_cons_zero, List.getElem_cons_succ, Act.put, List.setIfInBounds_toArray, List.set_cons_zero, List.set_cons_succ]
      refine tH 2 (h := ?_)
      try simp only [List.getElem_toArray, List.getElem_cons_zero, List.getElem_cons_succ, Act.put, List.setIfInBounds_toArray, List.set_cons_zero, List.set_cons_succ]
      refine tH 3 (h := ?_)
      try simp only [List.getElem_toArray, List.getElem_cons_zero, List.getElem_cons_succ, Act.put, List.setIfInBounds_toArray, List.set_cons_zero, List.set_cons_succ]
      refine wpAnyH_ready (rs := [4]) (by kernel_rfl) (by simp) ?_
      refine AllReadyH.cons rfl (fun K hK => ?_) AllReadyH.nil
      go_simp
      refine (precread_any (fun b => Wd.heap.size ≤ b) _ _ _ _ s U _ (HV5.out.old bD) (HD5.out.old bD) (K5.out.s.below bD) HCs.out hUl).mono ?_; rw [HRd.out]; rintro e w6 ⟨xv, rfl, hxv, hb⟩; dsimp only at hxv ⊢; have hxv := hxv.any; obtain ⟨ax, cx, ex⟩ := hxv.slice; rw [show (R.take m).length = m by rw [List.length_take]; omega] at ex; subst ex; have b6 := bD.trans (hb.mono bD.size); clear hb
      refine hK.out _ _ (⟨(b6.cell (p := ⟨w2.heap.size, 0, none⟩) ly).trans p0, (b6.cell (p := ⟨w2.heap.size, 1, none⟩) ly).trans p1, (b6.cell (p := ⟨w2.heap.size, 2, none⟩) ly).trans p2, (b6.cell (p := ⟨w2.heap.size, 3, none⟩) ly).trans p3⟩) (fun hHeld => ?_)
      clear hK K
      try simp only [List.getElem_toArray, List.getElem_cons_zero, List.getElem_cons_succ, Act.put, List.setIfInBounds_toArray, List.set_cons_zero, List.set_cons_succ]
      refine tH 5 (h := ?_)
      try simp only [List.getElem_toArray, List.getElem_cons_zero, List.getElem_cons_succ, Act.put, List.setIfInBounds_toArray, List.set_cons_zero, List.set_cons_succ]
      refine tH 6 (h := ?_)
      try simp only [List.getElem_toArray, List.getElem_cons_zero, List.getElem_cons_succ, Act.put, List.setIfInBounds_toArray, List.set_cons_zero, List.set_cons_succ]
      refine tH 7 (h := ?_)
      try simp only [List.getElem_toArray, List.getElem_cons_zero, List.getElem_cons_succ, Act.put, List.setIfInBounds_toArray, List.set_cons_zero, List.set_cons_succ]
      refine tH 8 (h := ?_)
      try simp only [List.getElem_toArray, List.getElem_cons_zero, List.getElem_cons_succ, Act.put, List.setIfInBounds_toArray, List.set_cons_zero, List.set_cons_succ]
      refine tH 9 (h := ?_)
      try simp only [List.getElem_toArray, List.getElem_cons_zero, List.getElem_cons_succ, Act.put, List.setIfInBounds_toArray, List.set_cons_zero, List.set_cons_succ]
      refine tH 10 (h := ?_)
      try simp only [List.getElem_toArray, List.getElem_cons_zero, List.getElem_cons_succ, Act.put, List.setIfInBounds_toArray, List.set_cons_zero, List.set_cons_succ]
      refine tH 11 (h := ?_)
      try simp only [List.getElem_toArray, List.getElem_cons_zero, List.getElem_cons_succ, Act.put, List.setIfInBounds_toArray, List.set_cons_zero, List.set_cons_succ]
      refine wpAnyH_done (by kernel_rfl) ?_ _
      refine NoPanic.normal ?_
      go_wp2_with fail
      go_meet
      exact ⟨ax, cx, rfl, rfl, rfl, hxv, b6⟩
    case rest =>
      obtain ⟨w6, hw6⟩ : ∃ u, u = wc := ⟨_, rfl⟩
      subst hw6
      obtain ⟨ax, cx, rfl, rfl, rfl, hxv, b6⟩ := hcut
      have HX := Lib.hid hxv; have HRV6 := Lib.hid (HRV5.out.below b6); have HB6 := Lib.hid (HB5.out.trans (b6.mono HB5.out.size))
      have d15 : ((15 : Int) != 15) = false := rfl
      have dnk : decide ((k : Int) < (nr : Int)) = false := by simp; omega
      have dmR : decide ((R.length : Int) < (m : Int)) = false := by simp; omega
      have hcap : m ≤ cr := by
        obtain ⟨C', h1, h2, _⟩ := HRV6.out
        have := h1.len
        have h3 : C'.length = R.length := by rw [← h2, List.length_map]
        omega
      clear hxv b6 p0 p1 p2 p3 K5 HRV5 bD
      go_wp2_with fail
      clear d15 dnk dmR
      go_loopw [14, 15] (fun c t wr => ∃ i : Nat, i ≤ k ∧ t = .int .i64 i ∧ c = .int .i64 ((T.take i).count 10 : Nat) ∧ wr = w6) (fun _ t _ => k - (intOf t).toNat)
      case atStart => exact ⟨0, by omega, rfl, rfl, rfl⟩
      case round =>
        obtain ⟨i, hi, rfl, rfl, rfl⟩ := hrel
        by_cases hlt : i < k
        · have hq : decide ((i : Int) < (k : Int)) = true := by simp; omega
          have hiT : i < T.length := by omega
          have hiT2 : (i : Int) < (T.length : Int) := by omega
          have hmore := count_more hiT
          have hcl : (T.take i).count 10 ≤ 50000 := Nat.le_trans List.count_le_length (by rw [List.length_take]; omega)
          obtain ⟨cc, hcc⟩ : ∃ cc, (T.take i).count 10 = cc := ⟨_, rfl⟩
          rw [hcc] at hmore hcl ⊢
          obtain ⟨ch, hch⟩ : ∃ ch, T[i] = ch := ⟨_, rfl⟩
          rw [hch] at hmore
          have hget : ∀ h : i < (⟨T.toArray⟩ : ByteArray).size, (⟨T.toArray⟩ : ByteArray)[i]'h = ch := fun h => hch
          by_cases h10 : ch = 10
          · have dc : ((ch.toNat : Int) == 10) = true := by rw [h10]; rfl
            rw [if_pos h10] at hmore
            have HMo := Lib.hid hmore
            have hwr : IntKind.i64.wrap ((cc : Int) + 1) = (cc : Int) + 1 := by rw [IntKind.wrap_i64]; omega
            clear hmore hcc hch h10
            go_wp2_with fail
            go_roundw
            case rel => exact ⟨i + 1, by omega, by go_num, by rw [HMo.out]; go_num, trivial⟩
            case measure => simp [intOf]; omega
          · have dc : ((ch.toNat : Int) == 10) = false := by
              refine beq_eq_false_iff_ne.2 fun e => h10 ?_
              apply UInt8.toNat_inj.1
              show ch.toNat = 10
              omega
            rw [if_neg h10] at hmore
            have HMo := Lib.hid hmore
            clear hmore hcc hch h10
            go_wp2_with fail
            go_roundw
            case rel => exact ⟨i + 1, by omega, by go_num, by rw [HMo.out]; rfl, trivial⟩
            case measure => simp [intOf]; omega
        · have hq : decide ((i : Int) < (k : Int)) = false := by simp; omega
          obtain rfl : i = k := by omega
          have hm := HM.out
          rw [hm]
          have dmm : ((m : Int) == (m : Int)) = true := by simp
          have hmcr : (m : Int) ≤ (cr : Int) := by omega
          have htk := HRV6.out.take m hmc
          have HTk := Lib.hid htk
          have HSk := Lib.hid (fun r (hr : r ∈ R.take m) => HSm.out.2 r (List.mem_of_mem_take hr))
          have hlk : (R.take m).length ≤ 1000000 := by rw [List.length_take]; omega
          clear hm htk
          go_wp2_with fail
          refine (rsameall_any Any1 (fun b => Wd.heap.size ≤ b) _ _ (R.take m) (R.take m) _ HX.out HTk.out hlk HSk.out HSk.out).mono ?_
          rw [sameRs_self]
          rintro e w7 ⟨rfl, hb⟩
          have HB7 := Lib.hid (HB6.out.trans (hb.mono HB6.out.size))
          clear hb
          go_wp2_with fail
          go_ret
          exact ⟨rfl, HB7.out⟩
  · have HMx := Lib.hid hM; clear hM
    have hd : decide (n ≤ 400) = false := by simpa using hn
    clear hr hn
    go_enter Tryz.func4, Tryz.ntmps4
    go_wp2_with fail
    refine (awake_r _ HMx.out).mono ?_; rintro e w1 ⟨rfl, hb1⟩
    go_wp2_with fail
    refine (few_any a n cap _).mono ?_; rintro e w' ⟨rfl, rfl⟩
    go_wp2_with fail
    refine (awake_r _ (HMx.out.old hb1)).mono ?_; rintro e w2 ⟨rfl, hb2⟩
    go_wp2_with fail
    go_ret
    exact ⟨rfl, hb1.trans (hb2.mono hb1.size)⟩
end Go.Proofs.YtoeplomdcannlaaGreatDoor
end
section
namespace Go.Proofs.YtoeplomdcannlaaGreatDoor.recordTorn
open Go.ChangeShapes Go.WideShapes Go.ChangeAt Go.RowKit Go.Joins
open Go.ChangeMaps (open_string shut_string)
set_option linter.unusedVariables false

theorem own : ownKnob Tryz.prog.godebug = none := by kernel_rfl
theorem laidOut : laidOutB Tryz.prog = true := by kernel_rfl

set_option maxRecDepth 100000 in
theorem lifted (os : Os) (started : os.Started) (H : Type) (enc : TypeId × Value → H) :
    ReturnsInHanded {} Tryz.checked os 4 .any (fun w args => (Rows.recordTornSpec.pre enc Tryz.prog Tryz.f4 Rows.recordTornRow.domain false w args ∧ laidMetH Tryz.prog Rows.recordTornRow.laid w) ∧ sizedMet enc Tryz.prog Tryz.f4 (OpenSpec.ofChange Rows.recordTornSpec) false w args) (Rows.recordTornSpec.post enc Tryz.prog Tryz.f4 false true false false) := by
  refine handed_shaped (C := Tryz.checked) (X := fun w _ => laidMetH Tryz.prog Rows.recordTornRow.laid w) (fun _ _ _ hh h => h.of_heap hh) own started (by kernel_rfl) Tryz.func4
    (ChangeSpec.witness_shaped (enc := enc) (C := Tryz.checked) (os := os) (X := fun w _ => laidMetH Tryz.prog Rows.recordTornRow.laid w) false (World.laidAll Tryz.prog os Rows.recordTornRow.laid) #[.slice none 0 0, .int .i64 0] 8 (World.laidAll_os _ _ _)
      (World.shaped_of_ZipB (by kernel_rfl) (by kernel_rfl)) (by kernel_rfl) (by kernel_rfl) (by kernel_rfl)
      (by rw [MakeChecks.laidMetH_plain _ _ _ (by kernel_rfl)]; exact laidMet_laidAll _ (by kernel_rfl) (by kernel_rfl))) ?_
  intro W base args ds gs before hval0 hW hLaid hsh
  have hval : ∀ (j : Nat) t v, Tryz.f4.params[j]? = some t → args[j]? = some v → Value.okWide Tryz.prog W .any base t v := hval0
  have hW' := hW
  obtain ⟨p, q, hA0, hV, rfl, hfz, hnd⟩ := hW
  have hA : DataW.TrodAll enc Tryz.prog W 0 (fun _ => true) true Tryz.f4.params.toList args.toList ds p := hA0
  rw [Tryz.params4] at hA hval
  obtain ⟨v0, vs0, d0, ds0, p0, q0, hargs, rfl, rfl, h0, r0⟩ := trodAll_cons hA
  obtain ⟨v1, vs1, d1, ds1, p1, q1, rfl, rfl, rfl, h1, r1⟩ := trodAll_cons r0
  obtain ⟨rfl, rfl, rfl⟩ := trodAll_nil r1
  obtain rfl : args = #[v0, v1] := by cases args; simp_all
  obtain ⟨rfl, rfl⟩ := trodVars_none hV
  obtain ⟨a0, len0, cap0, rfl⟩ := okWide_slice Tryz.underlying22 (hval 0 22 v0 rfl rfl)
  have k0 := h0
  have lt0 : ∀ x ∈ p0, x.block < W.heap.size := by obtain ⟨m, hm⟩ := k0; exact DataW.trod_lt m _ _ _ hm
  obtain ⟨z0, w0⟩ : ∃ zs, IsRow .i64 W a0 len0 cap0 zs := by
    obtain ⟨fuel, hf⟩ := h0
    rcases open_ints Tryz.underlying22 Tryz.underlying3 (by kernel_rfl) hf with ⟨hcs, _⟩ | ⟨x, l, c, zs, hcs, _, hl, hm, hz, _, hcell, hwz⟩
    · simp [Value.cells] at hcs
      obtain ⟨rfl, rfl, rfl⟩ := hcs
      exact ⟨[], .inl ⟨rfl, rfl, rfl, rfl⟩⟩
    · simp [Value.cells] at hcs
      obtain ⟨rfl, rfl, rfl⟩ := hcs
      exact ⟨zs, .inr ⟨_, rfl, hl, hm, by simpa using hz, hcell, hwz⟩⟩
  have k1 := h1
  have lt1 : ∀ x ∈ p1, x.block < W.heap.size := by obtain ⟨m, hm⟩ := k1; exact DataW.trod_lt m _ _ _ hm
  obtain ⟨x1, rfl, hd1, hp1, w1⟩ := open_int Tryz.underlying3 (hval 1 3 v1 rfl rfl) h1
  clear hA0 hval0
  refine (rtorn_walk a0 len0 cap0 z0 x1 W w0 w1 (vars_give (l := Rows.recordTornRow.laid) hsh hLaid (by kernel_rfl) 2 (by kernel_rfl) 5 rfl 4 rfl) (db_give (l := Rows.recordTornRow.laid) hLaid (by kernel_rfl) 1 (by kernel_rfl))).mono fun e W' ⟨he, bel⟩ => ?_
  subst he
  exact ⟨_, rfl, _, _, _, [], _, [], hW', trodAll_mk1 (shut_bool Tryz.underlying4 _), (trodAll_cons_mk (Below.trod laidOut (by kernel_rfl) (of_decide_eq_true (by kernel_rfl)) k0 bel lt0) (trodAll_cons_mk (Below.trod laidOut (by kernel_rfl) (of_decide_eq_true (by kernel_rfl)) k1 bel lt1) trodAll_mk0)), rfl, bel.frame _, fun h => by cases h⟩

set_option maxRecDepth 100000 in
set_option maxHeartbeats 100000000 in
theorem over : Rows.recordTornRow.holds Tryz.pinned (OpenSpec.ofChange Rows.recordTornSpec) :=
  OpenClaim.holds_of_wide 4 Tryz.f4 rfl rfl rfl rfl rfl rfl rfl ⟨rfl, rfl, rfl, rfl, rfl⟩ rfl rfl rfl rfl rfl (by as_aux_lemma => kernel_rfl) Tryz.func4 closed
    (of_decide_eq_true (by as_aux_lemma => kernel_rfl)) (by unfold Func.isWrapper; first | (rw [if_pos (by decide +kernel)]; kernel_rfl) | (rw [if_neg (by decide +kernel)]; exact ⟨rfl, rfl⟩))
    (fun os started H enc _ => lifted os started H enc)

set_option maxRecDepth 100000 in
set_option maxHeartbeats 100000000 in
/-- THE STATEMENT -/
theorem proved : Rows.RecordTornCardSaid :=
  Claim7.holds_tied_plain_at .later [] [.data, .data, .data, .data, .sentinel, .sentinel, .pinned] true (true, "fd06e8d9efbdfaf3e6a848822f18b97bf9147dcfd9576da2af8147015376fd6a") true
    over (fun _ h => by cases h) (by as_aux_lemma => kernel_rfl) (fun _ h => by cases h) recordTorn_row_tie rfl ⟨rfl, rfl⟩ (by as_aux_lemma => kernel_rfl) rfl
    (fun f fn hf hfn => by
      obtain rfl : f = 4 := Option.some.inj ((show Tryz.prog.funcNamed Rows.recordTornRow.func = some 4 by kernel_rfl).symm.trans hf) |>.symm
      obtain rfl : fn = Tryz.f4 := (Option.some.inj (Tryz.func4.symm.trans hfn)).symm
      exact ⟨by kernel_rfl, fun j t ht => by
        rw [Tryz.params4] at ht
        have hm : t ∈ [22, 3] := by simpa using Array.mem_of_getElem? ht
        have hall : ([22, 3].all fun u => !Tryz.prog.wantsStandIn u) = true := by kernel_rfl
        exact (show Tryz.prog.wantsStandIn t = false by simpa using List.all_eq_true.1 hall t hm)⟩)
    (by as_aux_lemma => kernel_rfl)
#print axioms proved
end Go.Proofs.YtoeplomdcannlaaGreatDoor.recordTorn
end
