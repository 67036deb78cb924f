/-
 For every input the law RecordExact returns true, and its arguments read afterwards as they read before; no condition.
-/
import Derived.Test.YthnfmolkppbbpaaGreatDoorPartRe10
import Derived.Test.YthnfmolkppbbpaaGreatDoorRows
import Derived.ProofKit
import Derived.JoinedOf
import Derived.Deep.DeepCutAuto
import Derived.WalkKit
import Derived.OpenShut
import Derived.ShutString
import Derived.ChangeOld
import Derived.Below
import Derived.Lib.SmallJoins
import Derived.Test.YthnfmolkppbbpaaGreatDoorCards
import Derived.Test.YthnfmolkppbbpaaGreatDoorTie
import Derived.LaidMore
import Derived.Lay
import Derived.SevenTiedAt
import Derived.Stop.Joined
section
/-
 The closed facts of the row of RecordExact, each a lemma of its own (so that the kernel gives its memory back behind each).
-/
namespace Go.Proofs.YthnfmolkppbbpaaGreatDoor.recordExact
theorem and_tt {a b : Bool} (h : a = true) (h' : b = true) : (a && b) = true := by rw [h, h']; rfl
set_option maxRecDepth 100000 in
set_option maxHeartbeats 100000000 in
theorem closed : joinedFacts Tryz.pinned.checked.prog 4 Tryz.f4 Rows.recordExactSpec Rows.recordExactRow = true := by
 unfold joinedFacts
 repeat' (with_reducible refine and_tt ?_ ?_)
 ·as_aux_lemma => kernel_rfl
 ·as_aux_lemma => kernel_rfl
 ·as_aux_lemma => kernel_rfl
 ·as_aux_lemma => kernel_rfl
 ·as_aux_lemma => kernel_rfl
 ·as_aux_lemma => kernel_rfl
 ·as_aux_lemma => kernel_rfl
 ·as_aux_lemma => kernel_rfl
 ·as_aux_lemma => kernel_rfl
 ·as_aux_lemma => kernel_rfl
 ·as_aux_lemma => kernel_rfl
 ·as_aux_lemma => kernel_rfl
 ·as_aux_lemma => kernel_rfl
 ·as_aux_lemma => kernel_rfl
 ·as_aux_lemma => kernel_rfl
 ·as_aux_lemma => kernel_rfl
 ·as_aux_lemma => kernel_rfl
 ·as_aux_lemma => kernel_rfl
 ·as_aux_lemma => kernel_rfl
 ·as_aux_lemma => kernel_rfl
 ·as_aux_lemma => kernel_rfl
 ·as_aux_lemma => kernel_rfl
 ·as_aux_lemma => kernel_rfl
 ·as_aux_lemma => kernel_rfl
 ·as_aux_lemma => kernel_rfl
 ·as_aux_lemma => kernel_rfl
 ·as_aux_lemma => kernel_rfl
 ·as_aux_lemma => kernel_rfl
 ·as_aux_lemma => kernel_rfl
 ·as_aux_lemma => kernel_rfl
 ·as_aux_lemma => kernel_rfl
 ·as_aux_lemma => kernel_rfl
end Go.Proofs.YthnfmolkppbbpaaGreatDoor.recordExact
end
section
/- The law RecordExact, walked: for every list of numbers, record, list of records, values, text and place it returns true and leaves what was there. -/
set_option linter.unusedSimpArgs false
set_option linter.unusedVariables false
set_option maxRecDepth 100000
namespace Go.Proofs.YthnfmolkppbbpaaGreatDoor
open Go.RowKit Cal
attribute [local go_sem] toList_mk mk_size bytes_append str_append
set_option maxHeartbeats 16000000 in
theorem rexact_walk (a : Option Addr) (n cap : Nat) (zs : List Int) (id0 ver0 : Int) (sv0 : Value) (vals0 : List (List UInt8)) (lv : Value) (Rs : List RecL) (vv : Value) (Vs : List (List UInt8)) (text : ByteArray) (cut : Int) (w : World)
  (hr : IsRow .i64 w a n cap zs) (hraw : Vec w Any1 1 encS sv0 vals0) (hlist : RecsVec w Any1 lv Rs) (hvals : Vec w Any1 1 encS vv Vs) (ht : text.size ≤ maxLen) (hcut : (Lit.int .i64 cut).wf = true) (hM : VarsAt w) (hDb : DbAt w) :
  Calls Tryz.prog 4 #[.slice a n cap, .agg #[.int .i64 id0, .int .i64 ver0, sv0], lv, vv, .string text, .int .i64 cut] w fun e w' => e = .returned (.bool true) ∧ Below w.heap.size w w' := by
 obtain ⟨t0, rfl⟩ : ∃ l : List UInt8, text = ⟨l.toArray⟩ := ⟨text.data.toList, by simp⟩
 have htl : t0.length ≤ 9223372036854775807 := by rw [mk_size] at ht; unfold maxLen at ht; omega
 have hcw : -9223372036854775808 ≤ cut ∧ cut ≤ 9223372036854775807 := by simpa [Lit.wf, IntKind.min, IntKind.max, IntKind.signed, IntKind.bits] using hcut
 obtain ⟨ra, rc, rfl⟩ := hraw.slice
 obtain ⟨la, lc, rfl⟩ := hlist.slice
 obtain ⟨va, vc, rfl⟩ := hvals.slice
 have HVar := Lib.hid hM; have HDb := Lib.hid hDb; have HR := Lib.hid hr; have HRaw := Lib.hid hraw; have HList := Lib.hid hlist; have HVals := Lib.hid hvals; have HCw := Lib.hid hcw
 clear hM hDb hr hraw hlist hvals ht hcut hcw
 go_enter Tryz.func4, Tryz.ntmps4
 go_wp2_with fail
 refine wp_calls_world (fun W0 hW0 => ?_)
 have hb0 : Below w.heap.size w W0 := by rw [hW0]; exact (Below.refl w.heap.size w).alloc (Nat.le_refl _) _
 have hx0 : W0.heap[w.heap.size]? = some (.cells #[.int .i64 id0, .int .i64 ver0, .slice ra vals0.length rc] 44 (0, 0)) := by rw [hW0]; exact blk_new rfl
 clear hW0
 refine (awake_r _ (HVar.out.m.old hb0)).mono ?_; rintro e w1 ⟨rfl, hb1⟩
 have HX1 := Lib.hid (blk_below hb1 (lt_of_blk hx0) hx0); have HB1 := Lib.hid (hb0.trans (hb1.mono hb0.size))
 have zX1 := lt_of_blk HX1.out
 obtain ⟨x0, x1, x2⟩ := cells3 HX1.out
 clear hb0 hx0 hb1
 by_cases hn : n ≤ 400
 rotate_left
 ·have hd : decide (n ≤ 400) = false := by simpa using hn
  go_wp2_with fail
  refine (few_any a n cap _).mono ?_; rintro e w' ⟨rfl, rfl⟩
  go_wp2_with fail
  refine (awake_r _ (HVar.out.m.old HB1.out)).mono ?_; rintro e w4 ⟨rfl, hb4⟩
  go_wp2_with fail
  go_ret
  exact ⟨rfl, HB1.out.trans (hb4.mono HB1.out.size)⟩
 have hd : decide (n ≤ 400) = true := by simpa using hn
 by_cases hn1 : vals0.length ≤ 20
 rotate_left
 ·have d1 : decide ((20 : Int) < vals0.length) = true := by simp; omega
  go_wp2_with fail
  refine (few_any a n cap _).mono ?_; rintro e w' ⟨rfl, rfl⟩
  go_wp2_with fail
  refine (awake_r _ (HVar.out.m.old HB1.out)).mono ?_; rintro e w4 ⟨rfl, hb4⟩
  go_wp2_with fail
  go_ret
  exact ⟨rfl, HB1.out.trans (hb4.mono HB1.out.size)⟩
 have d1 : decide ((20 : Int) < vals0.length) = false := by simp; omega
 by_cases hn2 : Rs.length ≤ 80
 rotate_left
 ·have d2 : decide ((80 : Int) < Rs.length) = true := by simp; omega
  go_wp2_with fail
  refine (few_any a n cap _).mono ?_; rintro e w' ⟨rfl, rfl⟩
  go_wp2_with fail
  refine (awake_r _ (HVar.out.m.old HB1.out)).mono ?_; rintro e w4 ⟨rfl, hb4⟩
  go_wp2_with fail
  go_ret
  exact ⟨rfl, HB1.out.trans (hb4.mono HB1.out.size)⟩
 have d2 : decide ((80 : Int) < Rs.length) = false := by simp; omega
 by_cases hn3 : Vs.length ≤ 20
 rotate_left
 ·have d3 : decide ((20 : Int) < Vs.length) = true := by simp; omega
  go_wp2_with fail
  refine (few_any a n cap _).mono ?_; rintro e w' ⟨rfl, rfl⟩
  go_wp2_with fail
  refine (awake_r _ (HVar.out.m.old HB1.out)).mono ?_; rintro e w4 ⟨rfl, hb4⟩
  go_wp2_with fail
  go_ret
  exact ⟨rfl, HB1.out.trans (hb4.mono HB1.out.size)⟩
 have d3 : decide ((20 : Int) < Vs.length) = false := by simp; omega
 go_wp2_with fail
 refine (few_any a n cap _).mono ?_; rintro e w' ⟨rfl, rfl⟩
 go_wp2_with fail
 refine (eshort_any Any1 _ Vs _ (HVals.out.below HB1.out) (by omega)).mono ?_
 rintro e w2 ⟨rfl, hb⟩
 have HX2 := Lib.hid (blk_below hb zX1 HX1.out); have HB2 := Lib.hid (HB1.out.trans (hb.mono HB1.out.size))
 have zX2 := lt_of_blk HX2.out
 clear hb x0 x1 x2 zX1 HX1 HB1
 obtain ⟨x0, x1, x2⟩ := cells3 HX2.out
 by_cases hv : (Vs.all fun x => decide (x.length ≤ 200)) = true
 rotate_left
 ·rw [Bool.eq_false_iff.2 hv]
  go_wp2_with fail
  refine (awake_r _ (HVar.out.m.old HB2.out)).mono ?_; rintro e w4 ⟨rfl, hb4⟩
  go_wp2_with fail
  go_ret
  exact ⟨rfl, HB2.out.trans (hb4.mono HB2.out.size)⟩
 rw [hv]
 go_wp2_with fail
 refine (eshort_any Any1 _ vals0 _ (HRaw.out.below HB2.out) (by omega)).mono ?_
 rintro e w3 ⟨rfl, hb⟩
 have HX3 := Lib.hid (blk_below hb zX2 HX2.out); have HB3 := Lib.hid (HB2.out.trans (hb.mono HB2.out.size))
 have zX3 := lt_of_blk HX3.out
 clear hb x0 x1 x2 zX2 HX2 HB2
 obtain ⟨x0, x1, x2⟩ := cells3 HX3.out
 by_cases hs : (vals0.all fun x => decide (x.length ≤ 200)) = true
 rotate_left
 ·rw [Bool.eq_false_iff.2 hs]
  go_wp2_with fail
  refine (awake_r _ (HVar.out.m.old HB3.out)).mono ?_; rintro e w4 ⟨rfl, hb4⟩
  go_wp2_with fail
  go_ret
  exact ⟨rfl, HB3.out.trans (hb4.mono HB3.out.size)⟩
 rw [hs]
 by_cases ht : t0.length ≤ 600
 rotate_left
 ·have d4 : decide ((600 : Int) < t0.length) = true := by simp; omega
  go_wp2_with fail
  refine (awake_r _ (HVar.out.m.old HB3.out)).mono ?_; rintro e w4 ⟨rfl, hb4⟩
  go_wp2_with fail
  go_ret
  exact ⟨rfl, HB3.out.trans (hb4.mono HB3.out.size)⟩
 have d4 : decide ((600 : Int) < t0.length) = false := by simp; omega
 have HV200 := Lib.hid (show ∀ x ∈ Vs, x.length ≤ 200 by intro x hx; simpa using List.all_eq_true.1 hv x hx)
 have HS200 := Lib.hid (show ∀ x ∈ vals0, x.length ≤ 200 by intro x hx; simpa using List.all_eq_true.1 hs x hx)
 clear hv hs htl
 go_wp2_with fail
 clear d1 d2 d3 d4 hd x0 x1 x2
 go_loopw [100] (fun i wr => ∃ k : Nat, k ≤ Rs.length ∧ i = .int .i64 k ∧ Below w3.heap.size w3 wr ∧ Hid (∀ j, j < k → RawOk (Rs.getD j noRec))) (fun i _ => Rs.length - (intOf i).toNat)
 case atStart => exact ⟨0, by omega, rfl, Below.refl _ _, Lib.hid fun j hj => by omega⟩
 case round =>
  obtain ⟨k, hk, rfl, hbw, HA⟩ := hrel
  have HW := Lib.hid hbw
  by_cases hlt : k < Rs.length
  ·have hq : decide ((k : Int) < Rs.length) = true := by simp; omega
   have hki : (k : Int) < (Rs.length : Int) := by omega
   have HBk := Lib.hid (HB3.out.trans (hbw.mono HB3.out.size))
   obtain ⟨b, off, id, ver, aa, nn, cc, vals, rfl, lb, c0, c1, c2, hRk, hvv⟩ := (HList.out.below HBk.out).at k hlt
   have hnn := hvv.len.1
   subst hnn
   have HVV := Lib.hid hvv; have HRk := Lib.hid hRk
   clear hbw hvv hRk
   by_cases h20 : vals.length ≤ 20
   rotate_left
   ·have e1 : decide ((20 : Int) < vals.length) = true := by simp; omega
    go_wp2_with fail
    go_ret
    exact ⟨rfl, HBk.out⟩
   have e1 : decide ((20 : Int) < vals.length) = false := by simp; omega
   go_wp2_with fail
   refine (eshort_any Any1 _ vals _ HVV.out (by omega)).mono ?_
   rintro e w4 ⟨rfl, hb⟩
   have HB4 := Lib.hid (HW.out.trans (hb.mono HW.out.size))
   clear hb c0 c1 c2
   by_cases hvs : (vals.all fun x => decide (x.length ≤ 200)) = true
   rotate_left
   ·rw [Bool.eq_false_iff.2 hvs]
    go_wp2_with fail
    go_ret
    exact ⟨rfl, HB3.out.trans (HB4.out.mono HB3.out.size)⟩
   rw [hvs]
   have HOk := Lib.hid (show RawOk (Rs.getD k noRec) by
    rw [getD_at _ _ hlt, HRk.out]
    exact ⟨h20, fun x hx => by simpa using List.all_eq_true.1 hvs x hx⟩)
   clear hvs
   go_wp2_with fail
   go_roundw
   case rel => exact ⟨k + 1, by omega, by go_num, HB4.out, Lib.hid fun j hj => by
    by_cases e : j = k
    ·subst e; exact HOk.out
    ·exact HA.out j (by omega)⟩
   case measure => simp [intOf]; omega
  have hq : decide ((k : Int) < Rs.length) = false := by simp; omega
  obtain rfl : k = Rs.length := by omega
  have HBr := Lib.hid (HB3.out.trans (hbw.mono HB3.out.size))
  have HXr := Lib.hid (blk_below hbw zX3 HX3.out)
  have HAll := Lib.hid (show ∀ r ∈ Rs, RawOk r from fun r hr => by
   obtain ⟨j, hj, rfl⟩ := List.getElem_of_mem hr
   have := HA.out j hj
   rwa [getD_at _ _ hj] at this)
  clear hbw HW HA HB3 HX3 zX3
  go_wp2_with fail
  clear hq hlt hk
  refine (new_any a n cap _).mono ?_; rintro e w' ⟨rfl, rfl⟩
  have Hdk := Lib.hid (deck_law (cap := cap) hn HR.out HBr.out)
  have HB1 := Lib.hid (HBr.out.alloc HBr.out.size (.cells #[.slice a n cap, .int .i64 0, .int .u64 11400714819323198485] 65))
  have HX1 := Lib.hid (show (wr.alloc (.cells #[.slice a n cap, .int .i64 0, .int .u64 11400714819323198485] 65)).heap[w.heap.size]? = _ from blk_old HXr.out)
  have zB1 := HBr.out.size
  have zX1 := lt_of_blk HXr.out
  go_wp2_with fail
  refine (schema_deal _ _ Hdk.out).mono ?_
  rintro e w2 ⟨vf, vt, vn, vs, s, rfl, hs, hsd, mv⟩
  obtain ⟨Wd, hWd⟩ : ∃ Wd : World, wr.alloc (.cells #[.slice a n cap, .int .i64 0, .int .u64 11400714819323198485] 65) = Wd := ⟨_, rfl⟩
  rw [hWd] at mv hs HB1 HX1
  obtain ⟨D, hD⟩ : ∃ D, wr.heap.size = D := ⟨_, rfl⟩
  have zWd : Wd.heap.size = D + 1 := by rw [← hWd, ← hD]; simp
  rw [hD] at mv zB1 zX1 ⊢
  obtain ⟨af, cf, rfl⟩ := hs.1.slice
  obtain ⟨at', ct, rfl⟩ := hs.2.1.slice
  obtain ⟨an, cn, rfl⟩ := hs.2.2.1.slice
  obtain ⟨as', cs, rfl⟩ := hs.2.2.2.slice
  have zD := mv.deck.lt
  have hcs : checkS s = 0 := hsd.check
  have HCs := Lib.hid hcs
  obtain ⟨N, hN⟩ : ∃ N, s.fields.length = N := ⟨_, rfl⟩
  rw [hN] at hs ⊢
  obtain ⟨nt, hnt⟩ : ∃ nt, s.rules.titles.length = nt := ⟨_, rfl⟩
  obtain ⟨nk, hnk⟩ : ∃ nk, s.rules.nicks.length = nk := ⟨_, rfl⟩
  obtain ⟨ns, hns⟩ : ∃ ns, s.rules.streets.length = ns := ⟨_, rfl⟩
  rw [hnt, hnk, hns] at hs ⊢
  have M2 := Lib.hid mv; have HS := Lib.hid hs; have HSD := Lib.hid hsd; have HNN := Lib.hid hN
  clear mv hs hsd hWd hD Hdk hN hnt hnk hns hcs HBr HXr
  go_wp2_with fail
  refine wp_calls_world (fun W3 hW3 => ?_)
  have hb3 : Below w2.heap.size w2 W3 := by rw [hW3]; exact (Below.refl w2.heap.size w2).alloc (Nat.le_refl _) _
  have hs3 : W3.heap[w2.heap.size]? = some (.cells #[.slice af N cf, .slice at' nt ct, .slice an nk cn, .slice as' ns cs] 33 (0, 0)) := by rw [hW3]; exact blk_new rfl
  have hz3 : w2.heap.size < W3.heap.size := by rw [hW3]; simp
  have M3 := Lib.hid (M2.out.below hb3); have HS3 := Lib.hid hs3
  have z23 := M2.out.size
  have hS1 := HS.out.below hb3
  have HSA := Lib.hid (show SchemaAt W3 (fun b => Wd.heap.size ≤ b ∧ b < W3.heap.size) (.slice af N cf) (.slice at' nt ct) (.slice an nk cn) (.slice as' ns cs) s from
   ⟨hS1.1.move (Nat.le_refl _) fun b hb h => ⟨rfl, h, hb⟩, hS1.2.1.move (Nat.le_refl _) fun b hb h => ⟨rfl, h, hb⟩, hS1.2.2.1.move (Nat.le_refl _) fun b hb h => ⟨rfl, h, hb⟩, hS1.2.2.2.move (Nat.le_refl _) fun b hb h => ⟨rfl, h, hb⟩⟩)
  obtain ⟨S1, hS1e⟩ : ∃ S1 : Nat → Prop, S1 = fun b => Wd.heap.size ≤ b ∧ b < W3.heap.size := ⟨_, rfl⟩
  rw [← hS1e] at HSA
  have HSm := Lib.hid (show ∀ b, S1 b → Wd.heap.size ≤ b ∧ b < W3.heap.size by intro b h; rw [hS1e] at h; exact h)
  have HNe := Lib.hid (show ∀ b, S1 b → b ≠ D from fun b h => by have := (HSm.out b h).1; omega)
  clear hb3 hs3 HS hW3 hS1 hS1e
  obtain ⟨Y, hY⟩ : ∃ Y, w2.heap.size = Y := ⟨_, rfl⟩
  rw [hY] at HS3 z23 hz3 ⊢
  have K3 := Lib.hid (show QX D Wd w.heap.size id0 ver0 (.slice ra vals0.length rc) Y S1 (.slice af N cf) (.slice at' nt ct) (.slice an nk cn) (.slice as' ns cs) s W3 from
   ⟨M3.out, M3.out.blk (k := w.heap.size) (by omega) HX1.out, HS3.out, HSA.out, HNe.out, by omega, by omega⟩)
  clear hY M2 HX1 HS3 HSA
  have hrd := records_dealO D S1 (.slice af N cf) (.slice at' nt ct) (.slice an nk cn) (.slice as' ns cs) s 5 W3 K3.out.m.deck K3.out.s HNe.out HSD.out (by decide)
  refine hrd.mono ?_
  rintro e w4 ⟨xrv, C, Wc, idc, rfl, hro, mvc, hC5, -⟩
  obtain ⟨arv, crv, rfl⟩ := own_slice hro.own.1
  have mv4 : Moved D W3 w4 := mvc.trans hro.own.2
  have K4 := Lib.hid (K3.out.moved mv4)
  have K3' := K3
  have HRO := Lib.hid hro; have HMc := Lib.hid mvc
  have zc := mvc.size; have z4 := hro.own.2.size
  have HG4 := Lib.hid (show ∀ k, (Value.slice arv C.length crv).ownBlock = some k → Wc.heap.size ≤ k ∧ k < w4.heap.size from World.ownsRow.lt hro.own.1)
  clear hrd hro mvc mv4
  have HBc := Lib.hid ((K3'.out.m.trans HMc.out).base HB1.out (by omega))
  have HSm2 := Lib.hid (show ∀ b, S1 b → Wd.heap.size ≤ b ∧ b < Wc.heap.size from fun b h => ⟨(HSm.out b h).1, by have := (HSm.out b h).2; omega⟩)
  dsimp only
  go_step
  go_step
  go_step
  go_step
  go_step
  go_step
  go_step
  exact rex11 w id0 ver0 ra rc vals0 t0 cut HVar HDb HRaw HCw hn1 ht HS200 Y af at' an as' N cf nt ct nk cn ns cs s HCs C arv crv hC5 la lc Rs HList hn2 HAll va vc Vs HVals hn3 HV200 HSD D idc Wd Wc w4 S1 zWd HG4 HSm2 HBc (by omega) (by omega) zB1 HB1 HNe (by omega) (by omega) K4 HRO _ _ _ _ _ _ _ _ _ _ _ _ _ _ _ _ _ _ _ _ _ _ _ _ _ _ _ _ _ _ _ _ _ _ _ _ _ _ _ _ _ _ _ _ _ _ _ _ _ _ _ _ _ _ _ _ _ _ _ _ _ _ _ _ _ _ _ _ _ _ _ _ _ _ _ _ _ _ _ _ _ _ _ _ _ _ _ _ _ _ _ _ _ _ _ _ _ _ _ _ _ _ _ _ _ _ _ _ _ _ _ _ _ _ _ _ _ _ _ _ _ _ _ _ _ _ _ _ _ _ _ _ _ _ _ _ _ _ _ _ _ _ _ _ _ _ _ _ _ _ _ _ _ _ _ _ _ _ _ _ _ _ _ _ _ _ _ _ _ _ _ _ _ _ _ _ _ _ _ _ _ _ _ _ _ _ _ _ _ _ _ _ _ _ _ _ _ _ _ _ _ _ _ _ _ _ _ _ _ _ _ _ _ _ _ _ _ _ _ _ _ _ _ _ _ _ _ _ _ _ _ _ _ _ _ _ _ _ _ _ _ _ _ _ _ _ _ _ _ _ _ _ _ _ _ _ _ _ _ _ _ _ _ _ _ _ _ _ _ _ _ _ _ _ _ _ _ _ _ _ _ _ _ _ _ _ _ _ _ _ _ _ _ _ _ _ _ _ _ _ _ _ _ _ _ _ _ _ _ _ _ _ _ _ _ _ _ _ _ _ _ _ _ _ _ _ _ _ _ _ _ _ _ _ _ _ _ _ _ _ _ _ _ _ _ _ _ _ _ _ _ _ _ _ _ _ _ _ _ _ _ _ _ _ _ _ _ _ _ _ _ _ _ _ _ _ _ _ _ _ _ _ _ _ _ _ _ _ _ _ _ _ _ _ _ _ _ _ _ _ _ _ _ _ _ _ _ _ _ _ _ _ _ _ _ _ _ _ _ _
end Go.Proofs.YthnfmolkppbbpaaGreatDoor
end
section
namespace Go.Proofs.YthnfmolkppbbpaaGreatDoor.recordExact
open Go.ChangeShapes Go.WideShapes Go.ChangeAt Go.RowKit Go.Joins
open Go.ChangeMaps (open_string shut_string)
set_option linter.unusedVariables false

theorem own : ownKnob Tryz.prog.godebug = none := by kernel_rfl
theorem laidOut : laidOutB Tryz.prog = true := by kernel_rfl

set_option maxRecDepth 100000 in
theorem lifted (os : Os) (started : os.Started) (H : Type) (enc : TypeId × Value → H) :
    ReturnsInHanded {} Tryz.checked os 4 .any (fun w args => (Rows.recordExactSpec.pre enc Tryz.prog Tryz.f4 Rows.recordExactRow.domain false w args ∧ laidMetH Tryz.prog Rows.recordExactRow.laid w) ∧ sizedMet enc Tryz.prog Tryz.f4 (OpenSpec.ofChange Rows.recordExactSpec) false w args) (Rows.recordExactSpec.post enc Tryz.prog Tryz.f4 false true false false) := by
  refine handed_shaped (C := Tryz.checked) (X := fun w _ => laidMetH Tryz.prog Rows.recordExactRow.laid w) (fun _ _ _ hh h => h.of_heap hh) own started (by kernel_rfl) Tryz.func4
    (ChangeSpec.witness_shaped (enc := enc) (C := Tryz.checked) (os := os) (X := fun w _ => laidMetH Tryz.prog Rows.recordExactRow.laid w) false (World.laidAll Tryz.prog os Rows.recordExactRow.laid) #[.slice none 0 0, .agg #[.int .i64 0, .int .i64 0, .slice none 0 0], .slice none 0 0, .slice none 0 0, .string .empty, .int .i64 0] 8 (World.laidAll_os _ _ _)
      (World.shaped_of_ZipB (by kernel_rfl) (by kernel_rfl)) (by kernel_rfl) (by kernel_rfl) (by kernel_rfl)
      (by rw [MakeChecks.laidMetH_plain _ _ _ (by kernel_rfl)]; exact laidMet_laidAll _ (by kernel_rfl) (by kernel_rfl))) ?_
  intro W base args ds gs before hval0 hW hLaid hsh
  have hval : ∀ (j : Nat) t v, Tryz.f4.params[j]? = some t → args[j]? = some v → Value.okWide Tryz.prog W .any base t v := hval0
  have hW' := hW
  obtain ⟨p, q, hA0, hV, rfl, hfz, hnd⟩ := hW
  have hA : DataW.TrodAll enc Tryz.prog W 0 (fun _ => true) true Tryz.f4.params.toList args.toList ds p := hA0
  rw [Tryz.params4] at hA hval
  obtain ⟨v0, vs0, d0, ds0, p0, q0, hargs, rfl, rfl, h0, r0⟩ := trodAll_cons hA
  obtain ⟨v1, vs1, d1, ds1, p1, q1, rfl, rfl, rfl, h1, r1⟩ := trodAll_cons r0
  obtain ⟨v2, vs2, d2, ds2, p2, q2, rfl, rfl, rfl, h2, r2⟩ := trodAll_cons r1
  obtain ⟨v3, vs3, d3, ds3, p3, q3, rfl, rfl, rfl, h3, r3⟩ := trodAll_cons r2
  obtain ⟨v4, vs4, d4, ds4, p4, q4, rfl, rfl, rfl, h4, r4⟩ := trodAll_cons r3
  obtain ⟨v5, vs5, d5, ds5, p5, q5, rfl, rfl, rfl, h5, r5⟩ := trodAll_cons r4
  obtain ⟨rfl, rfl, rfl⟩ := trodAll_nil r5
  obtain rfl : args = #[v0, v1, v2, v3, v4, v5] := by cases args; simp_all
  obtain ⟨rfl, rfl⟩ := trodVars_none hV
  obtain ⟨a0, len0, cap0, rfl⟩ := okWide_slice Tryz.underlying22 (hval 0 22 v0 rfl rfl)
  have k0 := h0
  have lt0 : ∀ x ∈ p0, x.block < W.heap.size := by obtain ⟨m, hm⟩ := k0; exact DataW.trod_lt m _ _ _ hm
  obtain ⟨z0, w0⟩ : ∃ zs, IsRow .i64 W a0 len0 cap0 zs := by
    obtain ⟨fuel, hf⟩ := h0
    rcases open_ints Tryz.underlying22 Tryz.underlying3 (by kernel_rfl) hf with ⟨hcs, _⟩ | ⟨x, l, c, zs, hcs, _, hl, hm, hz, _, hcell, hwz⟩
    · simp [Value.cells] at hcs
      obtain ⟨rfl, rfl, rfl⟩ := hcs
      exact ⟨[], .inl ⟨rfl, rfl, rfl, rfl⟩⟩
    · simp [Value.cells] at hcs
      obtain ⟨rfl, rfl, rfl⟩ := hcs
      exact ⟨zs, .inr ⟨_, rfl, hl, hm, by simpa using hz, hcell, hwz⟩⟩
  have k1 := h1
  have lt1 : ∀ x ∈ p1, x.block < W.heap.size := by obtain ⟨m, hm⟩ := k1; exact DataW.trod_lt m _ _ _ hm
  obtain ⟨id1, ver1, sv1, vals1, rfl, w1⟩ := open_record (hval 1 44 v1 rfl rfl) h1
  have k2 := h2
  have lt2 : ∀ x ∈ p2, x.block < W.heap.size := by obtain ⟨m, hm⟩ := k2; exact DataW.trod_lt m _ _ _ hm
  obtain ⟨Rs2, w2⟩ := open_records (hval 2 35 v2 rfl rfl) h2
  have k3 := h3
  have lt3 : ∀ x ∈ p3, x.block < W.heap.size := by obtain ⟨m, hm⟩ := k3; exact DataW.trod_lt m _ _ _ hm
  obtain ⟨Ls3, w3⟩ := open_strs2 (hval 3 28 v3 rfl rfl) h3
  have k4 := h4
  have lt4 : ∀ x ∈ p4, x.block < W.heap.size := by obtain ⟨m, hm⟩ := k4; exact DataW.trod_lt m _ _ _ hm
  obtain ⟨s4, rfl, hd4, hp4, w4⟩ := open_string Tryz.underlying9 (hval 4 9 v4 rfl rfl) h4
  have k5 := h5
  have lt5 : ∀ x ∈ p5, x.block < W.heap.size := by obtain ⟨m, hm⟩ := k5; exact DataW.trod_lt m _ _ _ hm
  obtain ⟨x5, rfl, hd5, hp5, w5⟩ := open_int Tryz.underlying3 (hval 5 3 v5 rfl rfl) h5
  clear hA0 hval0
  refine (rexact_walk a0 len0 cap0 z0 id1 ver1 sv1 vals1 v2 Rs2 v3 Ls3 s4 x5 W w0 w1 w2 w3 w4 w5 (vars_give (l := Rows.recordExactRow.laid) hsh hLaid (by kernel_rfl) 2 (by kernel_rfl) 5 rfl 4 rfl) (db_give (l := Rows.recordExactRow.laid) hLaid (by kernel_rfl) 1 (by kernel_rfl))).mono fun e W' ⟨he, bel⟩ => ?_
  subst he
  exact ⟨_, rfl, _, _, _, [], _, [], hW', trodAll_mk1 (shut_bool Tryz.underlying4 _), (trodAll_cons_mk (Below.trod laidOut (by kernel_rfl) (of_decide_eq_true (by kernel_rfl)) k0 bel lt0) (trodAll_cons_mk (Below.trod laidOut (by kernel_rfl) (of_decide_eq_true (by kernel_rfl)) k1 bel lt1) (trodAll_cons_mk (Below.trod laidOut (by kernel_rfl) (of_decide_eq_true (by kernel_rfl)) k2 bel lt2) (trodAll_cons_mk (Below.trod laidOut (by kernel_rfl) (of_decide_eq_true (by kernel_rfl)) k3 bel lt3) (trodAll_cons_mk (Below.trod laidOut (by kernel_rfl) (of_decide_eq_true (by kernel_rfl)) k4 bel lt4) (trodAll_cons_mk (Below.trod laidOut (by kernel_rfl) (of_decide_eq_true (by kernel_rfl)) k5 bel lt5) trodAll_mk0)))))), rfl, bel.frame _, fun h => by cases h⟩

set_option maxRecDepth 100000 in
set_option maxHeartbeats 100000000 in
theorem over : Rows.recordExactRow.holds Tryz.pinned (OpenSpec.ofChange Rows.recordExactSpec) :=
 OpenClaim.holds_of_wide 4 Tryz.f4 rfl rfl rfl rfl rfl rfl rfl ⟨rfl, rfl, rfl, rfl, rfl⟩ rfl rfl rfl rfl rfl (by as_aux_lemma => kernel_rfl) Tryz.func4 closed
  (of_decide_eq_true (by as_aux_lemma => kernel_rfl)) (by unfold Func.isWrapper; first | (rw [if_pos (by decide +kernel)]; kernel_rfl) | (rw [if_neg (by decide +kernel)]; exact ⟨rfl, rfl⟩))
  (fun os started H enc _ => lifted os started H enc)

set_option maxRecDepth 100000 in
set_option maxHeartbeats 100000000 in
/-- THE STATEMENT -/
theorem proved : Rows.RecordExactCardSaid :=
  Claim7.holds_tied_plain_at .later [] [.data, .data, .data, .data, .sentinel, .sentinel, .pinned] true (true, "b5818e6b72f097d754fe0beb9587222376a858f0223aedf64dd4d11e6839c360") true
    over (fun _ h => by cases h) (by as_aux_lemma => kernel_rfl) (fun _ h => by cases h) recordExact_row_tie rfl ⟨rfl, rfl⟩ (by as_aux_lemma => kernel_rfl) rfl
    (fun f fn hf hfn => by
      obtain rfl : f = 4 := Option.some.inj ((show Tryz.prog.funcNamed Rows.recordExactRow.func = some 4 by kernel_rfl).symm.trans hf) |>.symm
      obtain rfl : fn = Tryz.f4 := (Option.some.inj (Tryz.func4.symm.trans hfn)).symm
      exact ⟨by kernel_rfl, fun j t ht => by
        rw [Tryz.params4] at ht
        have hm : t ∈ [22, 44, 35, 28, 9, 3] := by simpa using Array.mem_of_getElem? ht
        have hall : ([22, 44, 35, 28, 9, 3].all fun u => !Tryz.prog.wantsStandIn u) = true := by kernel_rfl
        exact (show Tryz.prog.wantsStandIn t = false by simpa using List.all_eq_true.1 hall t hm)⟩)
    (by as_aux_lemma => kernel_rfl)
#print axioms proved
end Go.Proofs.YthnfmolkppbbpaaGreatDoor.recordExact
end
