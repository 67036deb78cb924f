/-
  For every input the law RecordDamage returns true, and its arguments read afterwards as they read before; no condition.
-/
import Derived.Test.YtoeplomdcannlaaGreatDoorPartRd10
import Derived.Test.YtoeplomdcannlaaGreatDoorRows
import Derived.ProofKit
import Derived.JoinedOf
import Derived.WalkKit
import Derived.OpenShut
import Derived.ShutString
import Derived.ChangeOld
import Derived.Below
import Derived.Lib.SmallJoins
import Derived.Test.YtoeplomdcannlaaGreatDoorCards
import Derived.Test.YtoeplomdcannlaaGreatDoorTie
import Derived.LaidMore
import Derived.Lay
import Derived.SevenTiedAt
import Derived.Stop.Joined
section
/-
  The closed facts of the row of RecordDamage, each a lemma of its own (so that the kernel gives its memory back behind each).
-/
namespace Go.Proofs.YtoeplomdcannlaaGreatDoor.recordDamage
theorem and_tt {a b : Bool} (h : a = true) (h' : b = true) : (a && b) = true := by rw [h, h']; rfl
set_option maxRecDepth 100000 in
set_option maxHeartbeats 100000000 in
theorem closed : joinedFacts Tryz.pinned.checked.prog 5 Tryz.f5 Rows.recordDamageSpec Rows.recordDamageRow = true := by
  unfold joinedFacts
  repeat' (with_reducible refine and_tt ?_ ?_)
  · as_aux_lemma => kernel_rfl
  · as_aux_lemma => kernel_rfl
  · as_aux_lemma => kernel_rfl
  · as_aux_lemma => kernel_rfl
  · as_aux_lemma => kernel_rfl
  · as_aux_lemma => kernel_rfl
  · as_aux_lemma => kernel_rfl
  · as_aux_lemma => kernel_rfl
  · as_aux_lemma => kernel_rfl
  · as_aux_lemma => kernel_rfl
  · as_aux_lemma => kernel_rfl
  · as_aux_lemma => kernel_rfl
  · as_aux_lemma => kernel_rfl
  · as_aux_lemma => kernel_rfl
  · as_aux_lemma => kernel_rfl
  · as_aux_lemma => kernel_rfl
  · as_aux_lemma => kernel_rfl
  · as_aux_lemma => kernel_rfl
  · as_aux_lemma => kernel_rfl
  · as_aux_lemma => kernel_rfl
  · as_aux_lemma => kernel_rfl
  · as_aux_lemma => kernel_rfl
  · as_aux_lemma => kernel_rfl
  · as_aux_lemma => kernel_rfl
  · as_aux_lemma => kernel_rfl
  · as_aux_lemma => kernel_rfl
  · as_aux_lemma => kernel_rfl
  · as_aux_lemma => kernel_rfl
  · as_aux_lemma => kernel_rfl
  · as_aux_lemma => kernel_rfl
  · as_aux_lemma => kernel_rfl
  · as_aux_lemma => kernel_rfl
end Go.Proofs.YtoeplomdcannlaaGreatDoor.recordDamage
end
section
/- The law RecordDamage, walked: for every list of numbers, place and byte it returns true and leaves what was there. -/
set_option linter.unusedSimpArgs false
set_option linter.unusedVariables false
set_option maxRecDepth 100000
namespace Go.Proofs.YtoeplomdcannlaaGreatDoor
open Go.RowKit Cal
attribute [local go_sem] toList_mk mk_size bytes_append
set_option maxHeartbeats 16000000 in
theorem rhurt_walk (a : Option Addr) (n cap : Nat) (zs : List Int) (x0_ y : Int) (w : World) (hr : IsRow .i64 w a n cap zs) (hx : (Lit.int .i64 x0_).wf = true) (hy : (Lit.int .u8 y).wf = true) (hM : VarsAt w) (hDb : DbAt w) :
    Calls Tryz.prog 5 #[.slice a n cap, .int .i64 x0_, .int .u8 y] w fun e w' => e = .returned (.bool true) ∧ Below w.heap.size w w' := by
  have hx1 : -9223372036854775808 ≤ x0_ ∧ x0_ ≤ 9223372036854775807 := by simpa [Lit.wf, IntKind.min, IntKind.max, IntKind.signed, IntKind.bits] using hx
  clear hx hy
  have HVar := Lib.hid hM; have HDb := Lib.hid hDb; clear hDb; replace hM := hM.m
  by_cases hn : n ≤ 400
  · have HMx := Lib.hid hM; clear hM
    have hd : decide (n ≤ 400) = true := by simpa using hn
    have HR := Lib.hid hr; clear hr
    go_enter Tryz.func5, Tryz.ntmps5
    go_wp2_with fail
    refine (awake_r _ HMx.out).mono ?_; rintro e w1 ⟨rfl, hb1⟩
    go_wp2_with fail
    refine (few_any a n cap _).mono ?_; rintro e w' ⟨rfl, rfl⟩
    go_wp2_with fail
    refine (new_any a n cap _).mono ?_; rintro e w' ⟨rfl, rfl⟩
    have Hdk := Lib.hid (deck_law (cap := cap) hn HR.out hb1)
    have HB1 := Lib.hid (hb1.alloc hb1.size (.cells #[.slice a n cap, .int .i64 0, .int .u64 11400714819323198485] 87))
    have zB1 := hb1.size
    clear hb1 HR hd
    go_wp2_with fail
    refine (schema_deal _ _ Hdk.out).mono ?_
    rintro e w2 ⟨vf, vt, vn, vs, s, rfl, hs, hsd, mv⟩
    obtain ⟨Wd, hWd⟩ : ∃ Wd : World, w1.alloc (.cells #[.slice a n cap, .int .i64 0, .int .u64 11400714819323198485] 87) = Wd := ⟨_, rfl⟩
    rw [hWd] at mv hs HB1
    obtain ⟨D, hD⟩ : ∃ D, w1.heap.size = D := ⟨_, rfl⟩
    have zWd : Wd.heap.size = D + 1 := by rw [← hWd, ← hD]; simp
    rw [hD] at mv zB1 ⊢
    obtain ⟨af, cf, rfl⟩ := hs.1.slice
    obtain ⟨at', ct, rfl⟩ := hs.2.1.slice
    obtain ⟨an, cn, rfl⟩ := hs.2.2.1.slice
    obtain ⟨as', cs, rfl⟩ := hs.2.2.2.slice
    have zD := mv.deck.lt
    have hlen5 := (check_fields hsd.check).1.2
    have hlen1 := hsd.some
    have hlen1000 : s.fields.length ≤ 1000 := by omega
    have HL1000 := Lib.hid hlen1000
    obtain ⟨N, hN⟩ : ∃ N, s.fields.length = N := ⟨_, rfl⟩
    rw [hN] at hlen5 hlen1 hs ⊢
    have M2 := Lib.hid mv; have HS := Lib.hid hs; have HSD := Lib.hid hsd; have HNN := Lib.hid hN
    clear mv hs hsd hWd hD Hdk hN hlen1000
    go_wp2_with fail
    refine wp_calls_world (fun W3 hW3 => ?_)
    have hb3 : Below w2.heap.size w2 W3 := by rw [hW3]; exact (Below.refl w2.heap.size w2).alloc (Nat.le_refl _) _
    have hs3 : W3.heap[w2.heap.size]? = some (.cells #[.slice af N cf, .slice at' s.rules.titles.length ct, .slice an s.rules.nicks.length cn, .slice as' s.rules.streets.length cs] 33 (0, 0)) := by rw [hW3]; exact blk_new rfl
    have M3 := Lib.hid (M2.out.below hb3); have HS3 := Lib.hid hs3; have HSA := Lib.hid (HS.out.below hb3)
    have z23 := M2.out.size
    have hSne : ∀ b, Wd.heap.size ≤ b → b ≠ D := fun b h => by omega
    have HNe := Lib.hid hSne
    clear hb3 hs3 HS hW3 M2 hSne
    have hrd := records_deal D (fun b => Wd.heap.size ≤ b) (.slice af N cf) (.slice at' s.rules.titles.length ct) (.slice an s.rules.nicks.length cn) (.slice as' s.rules.streets.length cs) s 6 W3 M3.out.deck HSA.out HNe.out HSD.out (by decide)
    refine hrd.mono ?_
    rintro e w4 ⟨rv, R, rfl, hrv, hok, hR5, hasc, mv⟩
    obtain ⟨ar, cr, rfl⟩ := hrv.slice
    have K4 := Lib.hid (show OsAt D Wd w2.heap.size (fun b => Wd.heap.size ≤ b) (.slice af N cf) (.slice at' s.rules.titles.length ct) (.slice an s.rules.nicks.length cn) (.slice as' s.rules.streets.length cs) s w4 from
      ⟨M3.out.trans mv, mv.blk (k := w2.heap.size) (by omega) HS3.out, HSA.out.moved HNe.out mv, HNe.out, by omega⟩)
    have HRV := Lib.hid (hrv.move (T := fun b => Wd.heap.size ≤ b) (w' := w4) (Nat.le_refl _) fun b hb hs => ⟨rfl, by have h1 := M3.out.size; have hs' : W3.heap.size ≤ b := hs; show Wd.heap.size ≤ b; omega⟩)
    have HOk := Lib.hid hok; have HAsc := Lib.hid hasc; have HSm := Lib.hid (recs_small hok HL1000.out)
    clear hrv hok hasc mv M3 HS3 HSA hrd
    obtain ⟨p0, p1, p2, p3⟩ := cellsS K4.out.b
    have hbw4 : Below w.heap.size w w4 := K4.out.m.base HB1.out (by omega)
    have HBw4 := Lib.hid hbw4
    have hcs : checkS s = 0 := HSD.out.check
    have HCs := Lib.hid hcs
    have hfl := file_len HOk.out.1 (check_fields hcs).1.2
    have hfs := file_some R
    have hhurt := fun k hk u => read_hurt HOk.out.1 (k := k) hk u
    have hfile := rrfile_yes (fun b => Wd.heap.size ≤ b) (fun b => Wd.heap.size ≤ b) _ _ _ _ _ s R w4 K4.out.s HRV.out HOk.out.1
    obtain ⟨T, hT⟩ : ∃ T, fileR R = T := ⟨_, rfl⟩
    rw [hT] at hfl hfs hhurt hfile
    have HHu := Lib.hid hhurt
    have d00 : ((0 : Int) != 0) = false := rfl
    have dT : ((T.length : Int) == 0) = false := beq_eq_false_iff_ne.2 (by omega)
    clear hbw4 hcs hhurt hT
    go_wp2_with fail
    refine hfile.mono ?_
    clear hfile
    rintro e w5 ⟨rfl, hb⟩
    have K5 := Lib.hid (K4.out.below hb); have HRV5 := Lib.hid (HRV.out.below hb); have HB5 := Lib.hid (HBw4.out.trans (hb.mono HBw4.out.size))
    clear hb p0 p1 p2 p3 K4 HRV
    go_wp2_with fail
    refine (mod_some x0_ T.length _ hx1.1 hx1.2 (by omega) (by omega)).mono ?_
    rintro e w' ⟨k, rfl, hk, rfl⟩
    have hk' : k < T.length := by omega
    obtain ⟨cap2, wN, hcv, hBt, hbN, zN⟩ := bytes_conv w5 T
    obtain ⟨Kb, hK⟩ : ∃ Kb, w5.heap.size = Kb := ⟨_, rfl⟩
    have hzd := K5.out.m.size
    have hzs := lt_of_blk K5.out.b
    rw [hK] at hcv hBt zN hzs
    have HBt := Lib.hid hBt
    have HBN := Lib.hid (HB5.out.trans (hbN.mono HB5.out.size))
    have hzK : w.heap.size ≤ Kb := by rw [← hK]; exact HB5.out.size
    have hdK : Wd.heap.size ≤ Kb := by rw [← hK]; exact hzd
    have hDK : D ≠ Kb := by omega
    obtain ⟨nb, hnb⟩ := xor_byte (T[k].toNat : Int) y
    obtain ⟨cb, cfz⟩ := HBt.out.cell k hk'
    unfold byteV at cb
    have hBM := HBt.out.set k nb
    rw [set_cut hk' nb] at hBM
    obtain ⟨mm, hread, hcle⟩ := HHu.out k hk' (nb :: T.drop (k + 1))
    obtain ⟨l2, hl2⟩ : ∃ l2, T.take k ++ nb :: T.drop (k + 1) = l2 := ⟨_, rfl⟩
    have hl2l : l2.length = T.length := by rw [← hl2, ← set_cut hk' nb]; simp
    rw [hl2] at hBM hread
    obtain ⟨c, hc⟩ : ∃ c, (T.take k).count 10 = c := ⟨_, rfl⟩
    rw [hc] at hread hcle
    have HCnt := Lib.hid hc
    obtain ⟨hok2, hle2⟩ := freadN_ok (s := s) l2
    obtain ⟨⟨X, m, er⟩, hX⟩ : ∃ P, freadN s l2 = P := ⟨_, rfl⟩
    rw [hX] at hread hok2 hle2
    dsimp only at hread hok2 hle2
    have HXr := Lib.hid hX
    have hXt : X.take c = R.take c := by
      rw [hread, List.take_append_of_le_length (by rw [List.length_take]; omega), List.take_of_length_le (by rw [List.length_take]; omega)]
    have hXl : c ≤ X.length := by rw [hread, List.length_append, List.length_take]; omega
    have HXt := Lib.hid hXt
    have hvX : ∀ r ∈ X, r.vals.length ≤ 1000000 := fun r hr => by have := (checkI_ok (hok2 r hr)).2.1; have := (check_fields HCs.out).1.2; omega
    have HVX := Lib.hid hvX
    unfold byteV at hBM
    have hbM : Below w5.heap.size w5 (wN.setCell ⟨Kb, k, none⟩ (.int .u8 nb.toNat)) := hbN.setCell (p := ⟨Kb, k, none⟩) (by show w5.heap.size ≤ Kb; omega) _
    have K6 := Lib.hid (K5.out.below hbM); have HRV6 := Lib.hid (HRV5.out.below hbM)
    have bM : Below w.heap.size w (wN.setCell ⟨Kb, k, none⟩ (.int .u8 nb.toNat)) := HBN.out.setCell hzK _
    have HMB := Lib.hid hBM; have HBM := Lib.hid bM; have HL2 := Lib.hid hl2l
    have hkT : (k : Int) < (T.length : Int) := by omega
    clear hbN hbM hBt hK K5 HRV5 hBM bM hl2 hl2l hread hc hX hXt hok2 dT hfs hvX
    go_wp2_with fail
    refine wp_world (fun wM hwM => ?_)
    have hM0 := HMB.out; have hM1 := HBM.out; have hM2 := K6.out; have hM3 := HRV6.out
    rw [← hwM] at hM0 hM1 hM2 hM3
    have HMBw := Lib.hid hM0; have HBMw := Lib.hid hM1; have K6w := Lib.hid hM2; have HRV6w := Lib.hid hM3
    clear HMB HBM K6 HRV6
    clear hM0 hM1 hM2 hM3 hwM hcv cb cfz
    go_loopw [14, 15] (fun cn t wr => ∃ i : Nat, i ≤ k ∧ t = .int .i64 i ∧ cn = .int .i64 ((T.take i).count 10 : Nat) ∧ wr = wM) (fun _ t _ => k - (intOf t).toNat)
    case atStart => exact ⟨0, by omega, rfl, rfl, rfl⟩
    case round =>
      obtain ⟨i, hi, rfl, rfl, rfl⟩ := hrel
      by_cases hlt : i < k
      · have hq : decide ((i : Int) < (k : Int)) = true := by simp; omega
        have hiT : i < T.length := by omega
        have hiT2 : (i : Int) < (T.length : Int) := by omega
        have hmore := count_more hiT
        have hcl : (T.take i).count 10 ≤ 50000 := Nat.le_trans List.count_le_length (by rw [List.length_take]; omega)
        obtain ⟨cc, hcc⟩ : ∃ cc, (T.take i).count 10 = cc := ⟨_, rfl⟩
        rw [hcc] at hmore hcl ⊢
        obtain ⟨ch, hch⟩ : ∃ ch, T[i] = ch := ⟨_, rfl⟩
        rw [hch] at hmore
        have hget : ∀ h : i < (⟨T.toArray⟩ : ByteArray).size, (⟨T.toArray⟩ : ByteArray)[i]'h = ch := fun h => hch
        by_cases h10 : ch = 10
        · have dc : ((ch.toNat : Int) == 10) = true := by rw [h10]; rfl
          rw [if_pos h10] at hmore
          have HMo := Lib.hid hmore
          have hwr : IntKind.i64.wrap ((cc : Int) + 1) = (cc : Int) + 1 := by rw [IntKind.wrap_i64]; omega
          clear hmore hcc hch h10
          go_wp2_with fail
          go_roundw
          case rel => exact ⟨i + 1, by omega, by go_num, by rw [HMo.out]; go_num, trivial⟩
          case measure => simp [intOf]; omega
        · have dc : ((ch.toNat : Int) == 10) = false := by
            refine beq_eq_false_iff_ne.2 fun e => h10 ?_
            apply UInt8.toNat_inj.1
            show ch.toNat = 10
            omega
          rw [if_neg h10] at hmore
          have HMo := Lib.hid hmore
          clear hmore hcc hch h10
          go_wp2_with fail
          go_roundw
          case rel => exact ⟨i + 1, by omega, by go_num, by rw [HMo.out]; rfl, trivial⟩
          case measure => simp [intOf]; omega
      · have hq : decide ((i : Int) < (k : Int)) = false := by simp; omega
        obtain rfl : i = k := by omega
        have hm := HCnt.out
        rw [hm]
        have hmin : min (c : Int) (R.length : Int) = (c : Int) := by omega
        have hdm : decide ((c : Int) ≤ (R.length : Int)) = true := by simp; omega
        have hdm2 : decide ((R.length : Int) < (c : Int)) = false := by simp; omega
        have hcv := bytes_back wr Kb l2 cap2 HMBw.out
        rw [HL2.out] at hcv
        have hrdp := precread_any (fun b => Wd.heap.size ≤ b) _ _ _ _ s l2 wr (HVar.out.old HBMw.out) (HDb.out.old HBMw.out) K6w.out.s HCs.out (by rw [HL2.out]; exact hfl)
        rw [HXr.out] at hrdp
        obtain ⟨p0, p1, p2, p3⟩ := cellsS K6w.out.b
        clear hm
        go_wp2_with fail
        refine hrdp.mono ?_
        clear hrdp hcv
        rintro e w6 ⟨xv, rfl, hxv, hb⟩
        dsimp only at hxv ⊢
        obtain ⟨ax, cx, rfl⟩ := hxv.slice
        have hMB7 := HMBw.out.below hb
        have K7 := Lib.hid (K6w.out.below hb); have HRV7 := Lib.hid (HRV6w.out.below hb); have HB7 := Lib.hid (HBMw.out.trans (hb.mono HBMw.out.size)); have HX7 := Lib.hid hxv.any
        clear hb hxv p0 p1 p2 p3 K6w HRV6w
        obtain ⟨p0, p1, p2, p3⟩ := cellsS K7.out.b
        have hcv := bytes_back w6 Kb l2 cap2 hMB7
        rw [HL2.out] at hcv
        have hrdp := rrread_any (fun b => Wd.heap.size ≤ b) _ _ _ _ s l2 w6 K7.out.s HCs.out (by rw [HL2.out]; exact hfl)
        rw [HXr.out] at hrdp
        clear hMB7
        go_wp2_with fail
        refine hrdp.mono ?_
        clear hrdp hcv
        rintro e w7 ⟨yv, rfl, hyv, hb⟩
        dsimp only at hyv ⊢
        obtain ⟨ay, cy, rfl⟩ := hyv.slice
        have HRV8 := Lib.hid (HRV7.out.below hb); have HB8 := Lib.hid (HB7.out.trans (hb.mono HB7.out.size)); have HX8 := Lib.hid (HX7.out.below hb); have HY8 := Lib.hid hyv.any
        clear hb hyv p0 p1 p2 p3 K7 HRV7 HX7
        have dmm : ((m : Int) == (m : Int)) = true := by simp
        have der : (er == er) = true := by simp
        have dxc : decide ((c : Int) ≤ (X.length : Int)) = true := by simp; omega
        have hcapx : c ≤ cx := by
          obtain ⟨C', h1, h2, _⟩ := HX8.out
          have := h1.len
          have h3 : C'.length = X.length := by rw [← h2, List.length_map]
          omega
        have hcapr : c ≤ cr := by
          obtain ⟨C', h1, h2, _⟩ := HRV8.out
          have := h1.len
          have h3 : C'.length = R.length := by rw [← h2, List.length_map]
          omega
        have hcx : (c : Int) ≤ (cx : Int) := by omega
        have hcr : (c : Int) ≤ (cr : Int) := by omega
        have HTx := Lib.hid (HX8.out.take c hXl)
        have HTr := Lib.hid (HRV8.out.take c hcle)
        have hRk : ∀ r ∈ R.take c, r.vals.length ≤ 1000000 := fun r hr => HSm.out.2 r (List.mem_of_mem_take hr)
        have HRk := Lib.hid hRk
        have hlk : (R.take c).length ≤ 1000000 := by rw [List.length_take]; omega
        have hlX : X.length ≤ 1000000 := by omega
        have bD : Below w7.heap.size w7 w7.drew := (Below.refl _ _).drew
        clear hRk hmin hdm hdm2
        go_wp2_with fail
        refine wp_region_noPanic ?_
        refine wp_region_held_drew (S := (fun w' => True)) (by kernel_rfl) (trivial) (fun hHeld => ?_)
        refine tH 0 (h := ?_)
        try simp only [List.getElem_toArray, List.getElem_cons_zero, List.getElem_cons_succ, Act.put, List.setIfInBounds_toArray, List.set_cons_zero, List.set_cons_succ]
        refine tH 1 (h := ?_)
        try simp only [List.getElem_toArray, List.getElem_cons_zero, List.getElem_cons_succ, Act.put, List.setIfInBounds_toArray, List.set_cons_zero, List.set_cons_succ]
        refine tH 2 (h := ?_)
        try simp only [List.getElem_toArray, List.getElem_cons_zero, List.getElem_cons_succ, Act.put, List.setIfInBounds_toArray, List.set_cons_zero, List.set_cons_succ]
        refine tH 3 (h := ?_)
        try simp only [List.getElem_toArray, List.getElem_cons_zero, List.getElem_cons_succ, Act.put, List.setIfInBounds_toArray, List.set_cons_zero, List.set_cons_succ]
        refine tH 4 (h := ?_)
        try simp only [List.getElem_toArray, List.getElem_cons_zero, List.getElem_cons_succ, Act.put, List.setIfInBounds_toArray, List.set_cons_zero, List.set_cons_succ]
        refine tH 5 (h := ?_)
        try simp only [List.getElem_toArray, List.getElem_cons_zero, List.getElem_cons_succ, Act.put, List.setIfInBounds_toArray, List.set_cons_zero, List.set_cons_succ]
        refine tH 6 (h := ?_)
        try simp only [List.getElem_toArray, List.getElem_cons_zero, List.getElem_cons_succ, Act.put, List.setIfInBounds_toArray, List.set_cons_zero, List.set_cons_succ]
        refine tH 7 (h := ?_)
        try simp only [List.getElem_toArray, List.getElem_cons_zero, List.getElem_cons_succ, Act.put, List.setIfInBounds_toArray, List.set_cons_zero, List.set_cons_succ]
        refine tH 8 (h := ?_)
        try simp only [List.getElem_toArray, List.getElem_cons_zero, List.getElem_cons_succ, Act.put, List.setIfInBounds_toArray, List.set_cons_zero, List.set_cons_succ]
        refine tH 9 (h := ?_)
        try simp only [List.getElem_toArray, List.getElem_cons_zero, List.getElem_cons_succ, Act.put, List.setIfInBounds_toArray, List.set_cons_zero, List.set_cons_succ]
        refine tH 10 (h := ?_)
        try simp only [List.getElem_toArray, List.getElem_cons_zero, List.getElem_cons_succ, Act.put, List.setIfInBounds_toArray, List.set_cons_zero, List.set_cons_succ]
        refine tH 11 (h := ?_)
        try simp only [List.getElem_toArray, List.getElem_cons_zero, List.getElem_cons_succ, Act.put, List.setIfInBounds_toArray, List.set_cons_zero, List.set_cons_succ]
        refine tH 12 (h := ?_)
        try simp only [List.getElem_toArray, List.getElem_cons_zero, List.getElem_cons_succ, Act.put, List.setIfInBounds_toArray, List.set_cons_zero, List.set_cons_succ]
        refine tH 13 (h := ?_)
        try simp only [List.getElem_toArray, List.getElem_cons_zero, List.getElem_cons_succ, Act.put, List.setIfInBounds_toArray, List.set_cons_zero, List.set_cons_succ]
        refine tH 14 (h := ?_)
        try simp only [List.getElem_toArray, List.getElem_cons_zero, List.getElem_cons_succ, Act.put, List.setIfInBounds_toArray, List.set_cons_zero, List.set_cons_succ]
        refine tH 15 (h := ?_)
        try simp only [List.getElem_toArray, List.getElem_cons_zero, List.getElem_cons_succ, Act.put, List.setIfInBounds_toArray, List.set_cons_zero, List.set_cons_succ]
        refine tH 16 (h := ?_)
        try simp only [List.getElem_toArray, List.getElem_cons_zero, List.getElem_cons_succ, Act.put, List.setIfInBounds_toArray, List.set_cons_zero, List.set_cons_succ]
        refine wpAnyH_ready (rs := [17]) (by kernel_rfl) (by simp) ?_
        refine AllReadyH.cons rfl (fun K hK => ?_) AllReadyH.nil
        go_simp
        refine (rsameall_any Any1 Any1 _ _ X X _ (HX8.out.below bD) (HY8.out.below bD) hlX HVX.out HVX.out).mono ?_; rw [sameRs_self]; rintro e x1 ⟨rfl, hb⟩; have b1 := bD.trans (hb.mono bD.size); clear hb
        refine hK.out _ _ (trivial) (fun hHeld => ?_)
        clear hK K
        try simp only [List.getElem_toArray, List.getElem_cons_zero, List.getElem_cons_succ, Act.put, List.setIfInBounds_toArray, List.set_cons_zero, List.set_cons_succ]
        refine tH 18 (h := ?_)
        try simp only [List.getElem_toArray, List.getElem_cons_zero, List.getElem_cons_succ, Act.put, List.setIfInBounds_toArray, List.set_cons_zero, List.set_cons_succ]
        refine tH 19 (h := ?_)
        try simp only [List.getElem_toArray, List.getElem_cons_zero, List.getElem_cons_succ, Act.put, List.setIfInBounds_toArray, List.set_cons_zero, List.set_cons_succ]
        refine tH 20 (h := ?_)
        try simp only [List.getElem_toArray, List.getElem_cons_zero, List.getElem_cons_succ, Act.put, List.setIfInBounds_toArray, List.set_cons_zero, List.set_cons_succ]
        refine tH 21 (h := ?_)
        try simp only [List.getElem_toArray, List.getElem_cons_zero, List.getElem_cons_succ, Act.put, List.setIfInBounds_toArray, List.set_cons_zero, List.set_cons_succ]
        refine tH 22 (h := ?_)
        try simp only [List.getElem_toArray, List.getElem_cons_zero, List.getElem_cons_succ, Act.put, List.setIfInBounds_toArray, List.set_cons_zero, List.set_cons_succ]
        refine tH 23 (h := ?_)
        try simp only [List.getElem_toArray, List.getElem_cons_zero, List.getElem_cons_succ, Act.put, List.setIfInBounds_toArray, List.set_cons_zero, List.set_cons_succ]
        refine tH 24 (h := ?_)
        try simp only [List.getElem_toArray, List.getElem_cons_zero, List.getElem_cons_succ, Act.put, List.setIfInBounds_toArray, List.set_cons_zero, List.set_cons_succ]
        refine tH 25 (h := ?_)
        try simp only [List.getElem_toArray, List.getElem_cons_zero, List.getElem_cons_succ, Act.put, List.setIfInBounds_toArray, List.set_cons_zero, List.set_cons_succ]
        refine wpAnyH_ready (rs := [26]) (by kernel_rfl) (by simp) ?_
        refine AllReadyH.cons rfl (fun K hK => ?_) AllReadyH.nil
        go_simp
        refine (rsameall_any Any1 (fun b => Wd.heap.size ≤ b) _ _ (R.take c) (R.take c) _ (by have h := HTx.out.below b1; rw [HXt.out] at h; exact h) (HTr.out.below b1) hlk HRk.out HRk.out).mono ?_; rw [sameRs_self]; rintro e x2 ⟨rfl, hb⟩; have b2 := b1.trans (hb.mono b1.size); clear hb
        refine hK.out _ _ (trivial) (fun hHeld => ?_)
        clear hK K
        try simp only [List.getElem_toArray, List.getElem_cons_zero, List.getElem_cons_succ, Act.put, List.setIfInBounds_toArray, List.set_cons_zero, List.set_cons_succ]
        refine tH 27 (h := ?_)
        try simp only [List.getElem_toArray, List.getElem_cons_zero, List.getElem_cons_succ, Act.put, List.setIfInBounds_toArray, List.set_cons_zero, List.set_cons_succ]
        refine tH 28 (h := ?_)
        try simp only [List.getElem_toArray, List.getElem_cons_zero, List.getElem_cons_succ, Act.put, List.setIfInBounds_toArray, List.set_cons_zero, List.set_cons_succ]
        refine wpAnyH_done (by kernel_rfl) ?_ _
        refine NoPanic.normal ?_
        go_wp2_with fail
        go_ret
        exact ⟨rfl, HB8.out.trans (b2.mono HB8.out.size)⟩
  · have HMx := Lib.hid hM; clear hM
    have hd : decide (n ≤ 400) = false := by simpa using hn
    clear hr hn
    go_enter Tryz.func5, Tryz.ntmps5
    go_wp2_with fail
    refine (awake_r _ HMx.out).mono ?_; rintro e w1 ⟨rfl, hb1⟩
    go_wp2_with fail
    refine (few_any a n cap _).mono ?_; rintro e w' ⟨rfl, rfl⟩
    go_wp2_with fail
    refine (awake_r _ (HMx.out.old hb1)).mono ?_; rintro e w2 ⟨rfl, hb2⟩
    go_wp2_with fail
    go_ret
    exact ⟨rfl, hb1.trans (hb2.mono hb1.size)⟩
end Go.Proofs.YtoeplomdcannlaaGreatDoor
end
section
namespace Go.Proofs.YtoeplomdcannlaaGreatDoor.recordDamage
open Go.ChangeShapes Go.WideShapes Go.ChangeAt Go.RowKit Go.Joins
open Go.ChangeMaps (open_string shut_string)
set_option linter.unusedVariables false

theorem own : ownKnob Tryz.prog.godebug = none := by kernel_rfl
theorem laidOut : laidOutB Tryz.prog = true := by kernel_rfl

set_option maxRecDepth 100000 in
theorem lifted (os : Os) (started : os.Started) (H : Type) (enc : TypeId × Value → H) :
    ReturnsInHanded {} Tryz.checked os 5 .any (fun w args => (Rows.recordDamageSpec.pre enc Tryz.prog Tryz.f5 Rows.recordDamageRow.domain false w args ∧ laidMetH Tryz.prog Rows.recordDamageRow.laid w) ∧ sizedMet enc Tryz.prog Tryz.f5 (OpenSpec.ofChange Rows.recordDamageSpec) false w args) (Rows.recordDamageSpec.post enc Tryz.prog Tryz.f5 false true false false) := by
  refine handed_shaped (C := Tryz.checked) (X := fun w _ => laidMetH Tryz.prog Rows.recordDamageRow.laid w) (fun _ _ _ hh h => h.of_heap hh) own started (by kernel_rfl) Tryz.func5
    (ChangeSpec.witness_shaped (enc := enc) (C := Tryz.checked) (os := os) (X := fun w _ => laidMetH Tryz.prog Rows.recordDamageRow.laid w) false (World.laidAll Tryz.prog os Rows.recordDamageRow.laid) #[.slice none 0 0, .int .i64 0, .int .u8 0] 8 (World.laidAll_os _ _ _)
      (World.shaped_of_ZipB (by kernel_rfl) (by kernel_rfl)) (by kernel_rfl) (by kernel_rfl) (by kernel_rfl)
      (by rw [MakeChecks.laidMetH_plain _ _ _ (by kernel_rfl)]; exact laidMet_laidAll _ (by kernel_rfl) (by kernel_rfl))) ?_
  intro W base args ds gs before hval0 hW hLaid hsh
  have hval : ∀ (j : Nat) t v, Tryz.f5.params[j]? = some t → args[j]? = some v → Value.okWide Tryz.prog W .any base t v := hval0
  have hW' := hW
  obtain ⟨p, q, hA0, hV, rfl, hfz, hnd⟩ := hW
  have hA : DataW.TrodAll enc Tryz.prog W 0 (fun _ => true) true Tryz.f5.params.toList args.toList ds p := hA0
  rw [Tryz.params5] at hA hval
  obtain ⟨v0, vs0, d0, ds0, p0, q0, hargs, rfl, rfl, h0, r0⟩ := trodAll_cons hA
  obtain ⟨v1, vs1, d1, ds1, p1, q1, rfl, rfl, rfl, h1, r1⟩ := trodAll_cons r0
  obtain ⟨v2, vs2, d2, ds2, p2, q2, rfl, rfl, rfl, h2, r2⟩ := trodAll_cons r1
  obtain ⟨rfl, rfl, rfl⟩ := trodAll_nil r2
  obtain rfl : args = #[v0, v1, v2] := by cases args; simp_all
  obtain ⟨rfl, rfl⟩ := trodVars_none hV
  obtain ⟨a0, len0, cap0, rfl⟩ := okWide_slice Tryz.underlying22 (hval 0 22 v0 rfl rfl)
  have k0 := h0
  have lt0 : ∀ x ∈ p0, x.block < W.heap.size := by obtain ⟨m, hm⟩ := k0; exact DataW.trod_lt m _ _ _ hm
  obtain ⟨z0, w0⟩ : ∃ zs, IsRow .i64 W a0 len0 cap0 zs := by
    obtain ⟨fuel, hf⟩ := h0
    rcases open_ints Tryz.underlying22 Tryz.underlying3 (by kernel_rfl) hf with ⟨hcs, _⟩ | ⟨x, l, c, zs, hcs, _, hl, hm, hz, _, hcell, hwz⟩
    · simp [Value.cells] at hcs
      obtain ⟨rfl, rfl, rfl⟩ := hcs
      exact ⟨[], .inl ⟨rfl, rfl, rfl, rfl⟩⟩
    · simp [Value.cells] at hcs
      obtain ⟨rfl, rfl, rfl⟩ := hcs
      exact ⟨zs, .inr ⟨_, rfl, hl, hm, by simpa using hz, hcell, hwz⟩⟩
  have k1 := h1
  have lt1 : ∀ x ∈ p1, x.block < W.heap.size := by obtain ⟨m, hm⟩ := k1; exact DataW.trod_lt m _ _ _ hm
  obtain ⟨x1, rfl, hd1, hp1, w1⟩ := open_int Tryz.underlying3 (hval 1 3 v1 rfl rfl) h1
  have k2 := h2
  have lt2 : ∀ x ∈ p2, x.block < W.heap.size := by obtain ⟨m, hm⟩ := k2; exact DataW.trod_lt m _ _ _ hm
  obtain ⟨x2, rfl, hd2, hp2, w2⟩ := open_int Tryz.underlying5 (hval 2 5 v2 rfl rfl) h2
  clear hA0 hval0
  refine (rhurt_walk a0 len0 cap0 z0 x1 x2 W w0 w1 w2 (vars_give (l := Rows.recordDamageRow.laid) hsh hLaid (by kernel_rfl) 2 (by kernel_rfl) 5 rfl 4 rfl) (db_give (l := Rows.recordDamageRow.laid) hLaid (by kernel_rfl) 1 (by kernel_rfl))).mono fun e W' ⟨he, bel⟩ => ?_
  subst he
  exact ⟨_, rfl, _, _, _, [], _, [], hW', trodAll_mk1 (shut_bool Tryz.underlying4 _), (trodAll_cons_mk (Below.trod laidOut (by kernel_rfl) (of_decide_eq_true (by kernel_rfl)) k0 bel lt0) (trodAll_cons_mk (Below.trod laidOut (by kernel_rfl) (of_decide_eq_true (by kernel_rfl)) k1 bel lt1) (trodAll_cons_mk (Below.trod laidOut (by kernel_rfl) (of_decide_eq_true (by kernel_rfl)) k2 bel lt2) trodAll_mk0))), rfl, bel.frame _, fun h => by cases h⟩

set_option maxRecDepth 100000 in
set_option maxHeartbeats 100000000 in
theorem over : Rows.recordDamageRow.holds Tryz.pinned (OpenSpec.ofChange Rows.recordDamageSpec) :=
  OpenClaim.holds_of_wide 5 Tryz.f5 rfl rfl rfl rfl rfl rfl rfl ⟨rfl, rfl, rfl, rfl, rfl⟩ rfl rfl rfl rfl rfl (by as_aux_lemma => kernel_rfl) Tryz.func5 closed
    (of_decide_eq_true (by as_aux_lemma => kernel_rfl)) (by unfold Func.isWrapper; first | (rw [if_pos (by decide +kernel)]; kernel_rfl) | (rw [if_neg (by decide +kernel)]; exact ⟨rfl, rfl⟩))
    (fun os started H enc _ => lifted os started H enc)

set_option maxRecDepth 100000 in
set_option maxHeartbeats 100000000 in
/-- THE STATEMENT -/
theorem proved : Rows.RecordDamageCardSaid :=
  Claim7.holds_tied_plain_at .later [] [.data, .data, .data, .data, .sentinel, .sentinel, .pinned] true (true, "fd06e8d9efbdfaf3e6a848822f18b97bf9147dcfd9576da2af8147015376fd6a") true
    over (fun _ h => by cases h) (by as_aux_lemma => kernel_rfl) (fun _ h => by cases h) recordDamage_row_tie rfl ⟨rfl, rfl⟩ (by as_aux_lemma => kernel_rfl) rfl
    (fun f fn hf hfn => by
      obtain rfl : f = 5 := Option.some.inj ((show Tryz.prog.funcNamed Rows.recordDamageRow.func = some 5 by kernel_rfl).symm.trans hf) |>.symm
      obtain rfl : fn = Tryz.f5 := (Option.some.inj (Tryz.func5.symm.trans hfn)).symm
      exact ⟨by kernel_rfl, fun j t ht => by
        rw [Tryz.params5] at ht
        have hm : t ∈ [22, 3, 5] := by simpa using Array.mem_of_getElem? ht
        have hall : ([22, 3, 5].all fun u => !Tryz.prog.wantsStandIn u) = true := by kernel_rfl
        exact (show Tryz.prog.wantsStandIn t = false by simpa using List.all_eq_true.1 hall t hm)⟩)
    (by as_aux_lemma => kernel_rfl)
#print axioms proved
end Go.Proofs.YtoeplomdcannlaaGreatDoor.recordDamage
end
