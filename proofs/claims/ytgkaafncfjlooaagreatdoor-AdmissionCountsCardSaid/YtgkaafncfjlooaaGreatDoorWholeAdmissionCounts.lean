/-
 For every input the law AdmissionCounts returns true, and its arguments read afterwards as they read before; no condition.
-/
import Derived.Test.YtgkaafncfjlooaaGreatDoorPartAd10
import Derived.Test.YtgkaafncfjlooaaGreatDoorRows
import Derived.ProofKit
import Derived.JoinedOf
import Derived.Deep.DeepCutAuto
import Derived.Deep.OwnRows
import Derived.Lib.QuietBelow
import Derived.WalkKit
import Derived.OpenShut
import Derived.ShutString
import Derived.ChangeOld
import Derived.Below
import Derived.Lib.SmallJoins
import Derived.Test.YtgkaafncfjlooaaGreatDoorCards
import Derived.Test.YtgkaafncfjlooaaGreatDoorTie
import Derived.LaidMore
import Derived.Lay
import Derived.SevenTiedAt
import Derived.Stop.Joined
section
/-
 The closed facts of the row of AdmissionCounts, each a lemma of its own (so that the kernel gives its memory back behind each).
-/
namespace Go.Proofs.YtgkaafncfjlooaaGreatDoor.admissionCounts
theorem and_tt {a b : Bool} (h : a = true) (h' : b = true) : (a && b) = true := by rw [h, h']; rfl
set_option maxRecDepth 100000 in
set_option maxHeartbeats 100000000 in
theorem closed : joinedFacts Tryz.pinned.checked.prog 4 Tryz.f4 Rows.admissionCountsSpec Rows.admissionCountsRow = true := by
 unfold joinedFacts
 repeat' (with_reducible refine and_tt ?_ ?_)
 ·as_aux_lemma => kernel_rfl
 ·as_aux_lemma => kernel_rfl
 ·as_aux_lemma => kernel_rfl
 ·as_aux_lemma => kernel_rfl
 ·as_aux_lemma => kernel_rfl
 ·as_aux_lemma => kernel_rfl
 ·as_aux_lemma => kernel_rfl
 ·as_aux_lemma => kernel_rfl
 ·as_aux_lemma => kernel_rfl
 ·as_aux_lemma => kernel_rfl
 ·as_aux_lemma => kernel_rfl
 ·as_aux_lemma => kernel_rfl
 ·as_aux_lemma => kernel_rfl
 ·as_aux_lemma => kernel_rfl
 ·as_aux_lemma => kernel_rfl
 ·as_aux_lemma => kernel_rfl
 ·as_aux_lemma => kernel_rfl
 ·as_aux_lemma => kernel_rfl
 ·as_aux_lemma => kernel_rfl
 ·as_aux_lemma => kernel_rfl
 ·as_aux_lemma => kernel_rfl
 ·as_aux_lemma => kernel_rfl
 ·as_aux_lemma => kernel_rfl
 ·as_aux_lemma => kernel_rfl
 ·as_aux_lemma => kernel_rfl
 ·as_aux_lemma => kernel_rfl
 ·as_aux_lemma => kernel_rfl
 ·as_aux_lemma => kernel_rfl
 ·as_aux_lemma => kernel_rfl
 ·as_aux_lemma => kernel_rfl
 ·as_aux_lemma => kernel_rfl
 ·as_aux_lemma => kernel_rfl
end Go.Proofs.YtgkaafncfjlooaaGreatDoor.admissionCounts
end
section
/- The law AdmissionCounts, walked (printed by gen_counts.py out of Counts.src.txt). -/
set_option linter.unusedSimpArgs false
set_option linter.unusedVariables false
set_option maxRecDepth 100000
namespace Go.Proofs.YtgkaafncfjlooaaGreatDoor
open Go.RowKit Cal
theorem infoES : (Tryz.prog.info? 44).map (fun i => (i.zero, i.size, i.bytes)) = some (some (.slice none 0 0), 1, 24) := by kernel_rfl
theorem made_nil (n : Nat) : madeCells #[Value.slice none 0 0] n = (List.replicate n (Value.slice none 0 0)).toArray := by
 apply Array.ext'
 simp [madeCells]
 refine List.eq_replicate_iff.2 ⟨by simp, fun b hb => ?_⟩
 obtain ⟨x, _, rfl⟩ := List.mem_map.1 hb
 rw [Nat.mod_one]; rfl
set_option maxHeartbeats 16000000 in
theorem counts_walk (a : Option Addr) (n cap : Nat) (zs : List Int) (w : World) (hr : IsRow .i64 w a n cap zs) :
  Calls Tryz.prog 4 #[.slice a n cap] w fun e w' => e = .returned (.bool true) ∧ Below w.heap.size w w' := by
 by_cases hn : n ≤ 400
 ·have hd : decide (n ≤ 400) = true := by simpa using hn
  have HR := zjp hr; clear hr
  go_enter Tryz.func4, Tryz.ntmps4
  go_wp2_with fail
  refine (zgr _).mono ?_; rintro e w1 ⟨rfl, hb1⟩
  go_wp2_with fail
  refine (few_any a n cap _).mono ?_; rintro e w' ⟨rfl, rfl⟩
  go_wp2_with fail
  refine (new_any a n cap _).mono ?_; rintro e w' ⟨rfl, rfl⟩
  have hdk := deck_law2 (cap := cap) hn HR.out hb1
  have hbd := hb1.alloc hb1.size (.cells #[.slice a n cap, .int .i64 0, .int .u64 11400714819323198485] 81)
  have zB1 := hb1.size
  obtain ⟨Wd, hWd⟩ : ∃ u, u = (w1.alloc (.cells #[.slice a n cap, .int .i64 0, .int .u64 11400714819323198485] 81)) := ⟨_, rfl⟩
  rw [← hWd] at hdk hbd ⊢
  obtain ⟨D, hD⟩ : ∃ D, w1.heap.size = D := ⟨_, rfl⟩
  rw [hD] at hdk zB1 ⊢
  have HBd := zjp hbd; have HDk := zjp hdk
  clear hb1 HR hd hdk hbd hWd hD
  go_wp2_with fail
  refine (schema_deal _ _ HDk.out).mono ?_
  rintro e w6 ⟨vf, vt, vn, vs, s, rfl, hs, hsd, mv⟩
  obtain ⟨af, cf, rfl⟩ := hs.1.slice
  obtain ⟨at', ct, rfl⟩ := hs.2.1.slice
  obtain ⟨an, cn, rfl⟩ := hs.2.2.1.slice
  obtain ⟨as', cs, rfl⟩ := hs.2.2.2.slice
  have hlen5 := (zcl hsd.check).1.2
  have hlen1 := hsd.some
  obtain ⟨N, hN⟩ : ∃ N, s.fields.length = N := ⟨_, rfl⟩
  rw [hN] at hs hlen5 hlen1 ⊢
  obtain ⟨nt, hnt⟩ : ∃ nt, s.rules.titles.length = nt := ⟨_, rfl⟩
  obtain ⟨nk, hnk⟩ : ∃ nk, s.rules.nicks.length = nk := ⟨_, rfl⟩
  obtain ⟨ns, hns⟩ : ∃ ns, s.rules.streets.length = ns := ⟨_, rfl⟩
  rw [hnt, hnk, hns] at hs ⊢
  have zWd := HDk.out.lt
  have hoff : ∀ b, b < w6.heap.size → Wd.heap.size ≤ b → b ≠ D := fun b _ h => by omega
  have HSA := zjp (show SchemaAt w6 (Off D) (.slice af N cf) (.slice at' nt ct) (.slice an nk cn) (.slice as' ns cs) s from ⟨hs.1.off hoff, hs.2.1.off hoff, hs.2.2.1.off hoff, hs.2.2.2.off hoff⟩)
  have M6 := zjp mv; have HSD := zjp hsd; have HN := zjp hN
  clear mv hs hsd hN hnt hnk hns HDk hoff
  go_wp2_with fail
  refine zam (fun WB hWB => ?_)
  have hlb : LX D w6.heap.size Wd (.slice af N cf) (.slice at' nt ct) (.slice an nk cn) (.slice as' ns cs) s WB := by
   have hb := xal hWB
   exact ⟨M6.out.below hb, by rw [hWB]; exact zac rfl, HSA.out.below hb, by have := M6.out.size; omega⟩
  obtain ⟨Y, hY⟩ : ∃ Y, w6.heap.size = Y := ⟨_, rfl⟩
  rw [hY] at hlb ⊢
  have HLB := zjp hlb
  have L0 := zjp hlb
  have zDB := hlb.m.deck.lt
  obtain ⟨s0, s1, s2, s3⟩ := zak hlb.y
  clear hWB hlb hY HSA M6
  go_cut [6, 7, 8] (fun s6 s7 s8 wx => ∃ (pa : Option Addr) (P : List ParL) (pc : Nat) (ra : Option Addr) (R : List RecL) (rc Z : Nat) (ka kb : Int), s6 = .slice pa N pc ∧ s7 = .slice ra R.length rc ∧ s8 = .pointer (some ⟨Z, 0, none⟩) ∧ LX D Y Wd (.slice af N cf) (.slice at' nt ct) (.slice an nk cn) (.slice as' ns cs) s wx ∧ Vec wx (Off D) 3 zdi (.slice pa P.length pc) P ∧ RecsVec wx (Off D) (.slice ra R.length rc) R ∧ ParsD N N P ∧ RecsOk s R ∧ R.length ≤ 8 ∧ wx.heap[Z]? = some (.cells #[.int .u64 ka, .int .u64 kb] 41 (0, 0)))
  case first =>
   refine wp_region_noPanic ?_
   refine wp_region_held_drew (S := (fun w' => w'.cell? ⟨Y, 0, none⟩ = some (.slice af N cf) ∧ w'.cell? ⟨Y, 1, none⟩ = some (.slice at' nt ct) ∧ w'.cell? ⟨Y, 2, none⟩ = some (.slice an nk cn) ∧ w'.cell? ⟨Y, 3, none⟩ = some (.slice as' ns cs))) (by kernel_rfl) (⟨s0, s1, s2, s3⟩) (fun hHeld => ?_)
   refine tH 0 (h := ?_)
   refine tH 1 (h := ?_)
   refine tH 3 (h := ?_)
   refine tH 4 (h := ?_)
   refine tH 6 (h := ?_)
   refine wpAnyH_ready (rs := [2, 8]) (by kernel_rfl) (by simp) ?_
   refine AllReadyH.cons rfl (fun K hK => ?_) (AllReadyH.cons rfl (fun K hK => ?_) (AllReadyH.nil))
   focus
    go_simp
    refine (pars_deal D N _ ((L0.out.start.drew)).deck hlen5).mono ?_
    rintro e V1 ⟨pv, P, rfl, hpv, hP, mv0⟩
    have mv : Moved D WB V1 := (L0.out.start.drew).trans mv0
    have zp : D < WB.heap.size := L0.out.m.deck.lt
    refine hK.out _ _ (zak ((L0.out.moved mv).y)) (fun hHeld => ?_)
    clear hK K
    obtain ⟨pa, pc, rfl⟩ := hpv.slice; have HPv1 := zjp (hpv.off (D := D) (fun b _ h => by have h' : WB.heap.size ≤ b := h; omega)); have HPd := zjp hP
    have L1 := zjp (L0.out.moved mv)
    have MB1 := zjp (mv)
    clear mv mv0
    refine wpAnyH_ready (rs := [5, 8]) (by kernel_rfl) (by simp) ?_
    refine AllReadyH.cons rfl (fun K hK => ?_) (AllReadyH.cons rfl (fun K hK => ?_) (AllReadyH.nil))
    focus
     go_simp
     refine (zf3 D (Off D) _ _ _ _ s 8 _ ((L1.out.start)).deck (L1.out.moved (L1.out.start)).sa (fun b h => h) HSD.out (by decide)).mono ?_
     rintro e V2 ⟨rv, R, rfl, hrv, hRok, hR8, -, mv0⟩
     have mv : Moved D V1 V2 := (L1.out.start).trans mv0
     have zp : D < V1.heap.size := L1.out.m.deck.lt
     refine hK.out _ _ (zak ((L1.out.moved mv).y)) (fun hHeld => ?_)
     clear hK K
     have HPv2 := zjp (HPv1.out.movedD mv)
     obtain ⟨ra, rc, rfl⟩ := hrv.slice; have HRv2 := zjp (hrv.off (D := D) (fun b _ h => by have h' : V1.heap.size ≤ b := h; omega)); have HRk := zjp hRok; have HR8 := zjp hR8
     have L2 := zjp (L1.out.moved mv)
     have MB2 := zjp (MB1.out.trans mv)
     clear mv mv0
     refine wpAnyH_ready (rs := [7, 8]) (by kernel_rfl) (by simp) ?_
     refine AllReadyH.cons rfl (fun K hK => ?_) (AllReadyH.cons rfl (fun K hK => ?_) (AllReadyH.nil))
     focus
      go_simp
      refine (zhx D _ ((L2.out.start)).deck).mono ?_
      rintro e V3 ⟨⟨ka, kb⟩, rfl, mv0⟩
      have mv : Moved D V2 V3 := (L2.out.start).trans mv0
      have zp : D < V2.heap.size := L2.out.m.deck.lt
      refine hK.out _ _ (zak ((L2.out.moved mv).y)) (fun hHeld => ?_)
      clear hK K
      have HPv3 := zjp (HPv2.out.movedD mv)
      have HRv3 := zjp (HRv2.out.movedD mv)
      have L3 := zjp (L2.out.moved mv)
      have MB3 := zjp (MB2.out.trans mv)
      clear mv mv0
      refine wpAnyH_ready (rs := [8]) (by kernel_rfl) (by simp) ?_
      refine AllReadyH.cons rfl (fun K hK => ?_) (AllReadyH.nil)
      go_simp
      have mv : Moved D V3 (V3.alloc (.cells #[.int .u64 0, .int .u64 0] 41)) := (L3.out.start.alloc _)
      refine hK.out _ _ (zak ((L3.out.moved mv).y)) (fun hHeld => ?_)
      clear hK K
      refine zbr (fun V4 hV => ?_)
      rw [← hV] at mv
      have gZ : V4.heap[V3.heap.size]? = some (.cells #[.int .u64 0, .int .u64 0] 41 (0, 0)) := by rw [hV]; exact zac rfl
      have zZ : D < V3.heap.size := L3.out.m.deck.lt
      have zB : WB.heap.size ≤ V3.heap.size := (MB3.out).size
      clear hV hHeld
      have hHeld := zak ((L3.out.moved mv).y)
      have HPv4 := zjp (HPv3.out.newZ mv)
      have HRv4 := zjp (HRv3.out.newZ mv)
      have L4 := zjp (L3.out.moved mv)
      have MB4 := zjp (MB3.out.trans mv)
      clear mv
      have hset := zad (i := 1) (v := .int .u64 kb) (zad (i := 0) (v := .int .u64 ka) gZ)
      obtain ⟨e0, e1⟩ := zae gZ; have ff0 := frozen_of_row _ _ 0 _ _ gZ; have ff1 := frozen_of_row _ _ 1 _ _ gZ
      have ms := (MB4.out.set (a := ⟨V3.heap.size, 0, none⟩) zB (.int .u64 ka)).set (a := ⟨V3.heap.size, 1, none⟩) zB (.int .u64 kb)
      have L5 := zjp (HLB.out.moved ms)
      refine tH 9 (h := ?_)
      refine tH 10 (h := ?_)
      refine wpAnyH_ready (rs := [11]) (by kernel_rfl) (by simp) ?_
      refine AllReadyH.cons rfl (fun K hK => ?_) AllReadyH.nil
      go_simp
      skip
      refine hK.out _ _ (zak L5.out.y) (fun hHeld => ?_)
      clear hK K
      refine wpAnyH_done (by kernel_rfl) ?_ _
      refine NoPanic.normal ?_
      go_wp2_with fail
      go_meet
      exact ⟨pa, P, pc, ra, R, rc, V3.heap.size, ka, kb, by rw [HPd.out.len], rfl, rfl, L5.out, HPv4.out.farZ, HRv4.out.farZ, HPd.out, HRk.out, HR8.out, hset⟩
     focus
      go_simp
      have mv : Moved D V2 (V2.alloc (.cells #[.int .u64 0, .int .u64 0] 41)) := (L2.out.start.alloc _)
      refine hK.out _ _ (zak ((L2.out.moved mv).y)) (fun hHeld => ?_)
      clear hK K
      refine zbr (fun V3 hV => ?_)
      rw [← hV] at mv
      have gZ : V3.heap[V2.heap.size]? = some (.cells #[.int .u64 0, .int .u64 0] 41 (0, 0)) := by rw [hV]; exact zac rfl
      have zZ : D < V2.heap.size := L2.out.m.deck.lt
      have zB : WB.heap.size ≤ V2.heap.size := (MB2.out).size
      clear hV hHeld
      have hHeld := zak ((L2.out.moved mv).y)
      have HPv3 := zjp (HPv2.out.newZ mv)
      have HRv3 := zjp (HRv2.out.newZ mv)
      have L3 := zjp (L2.out.moved mv)
      have MB3 := zjp (MB2.out.trans mv)
      clear mv
      refine wpAnyH_ready (rs := [7]) (by kernel_rfl) (by simp) ?_
      refine AllReadyH.cons rfl (fun K hK => ?_) (AllReadyH.nil)
      go_simp
      refine (zhx D _ ((L3.out.start)).deck).mono ?_
      rintro e V4 ⟨⟨ka, kb⟩, rfl, mv0⟩
      have mv : Moved D V3 V4 := (L3.out.start).trans mv0
      have zp : D < V3.heap.size := L3.out.m.deck.lt
      have zq := zaa gZ; have gZ := mv.blk (k := V2.heap.size) (by omega) gZ
      refine hK.out _ _ (zak ((L3.out.moved mv).y)) (fun hHeld => ?_)
      clear hK K
      have HPv4 := zjp (HPv3.out.movedZ mv)
      have HRv4 := zjp (HRv3.out.movedZ mv)
      have L4 := zjp (L3.out.moved mv)
      have MB4 := zjp (MB3.out.trans mv)
      clear mv mv0
      have hset := zad (i := 1) (v := .int .u64 kb) (zad (i := 0) (v := .int .u64 ka) gZ)
      obtain ⟨e0, e1⟩ := zae gZ; have ff0 := frozen_of_row _ _ 0 _ _ gZ; have ff1 := frozen_of_row _ _ 1 _ _ gZ
      have ms := (MB4.out.set (a := ⟨V2.heap.size, 0, none⟩) zB (.int .u64 ka)).set (a := ⟨V2.heap.size, 1, none⟩) zB (.int .u64 kb)
      have L5 := zjp (HLB.out.moved ms)
      refine tH 9 (h := ?_)
      refine tH 10 (h := ?_)
      refine wpAnyH_ready (rs := [11]) (by kernel_rfl) (by simp) ?_
      refine AllReadyH.cons rfl (fun K hK => ?_) AllReadyH.nil
      go_simp
      skip
      refine hK.out _ _ (zak L5.out.y) (fun hHeld => ?_)
      clear hK K
      refine wpAnyH_done (by kernel_rfl) ?_ _
      refine NoPanic.normal ?_
      go_wp2_with fail
      go_meet
      exact ⟨pa, P, pc, ra, R, rc, V2.heap.size, ka, kb, by rw [HPd.out.len], rfl, rfl, L5.out, HPv4.out.farZ, HRv4.out.farZ, HPd.out, HRk.out, HR8.out, hset⟩
    focus
     go_simp
     have mv : Moved D V1 (V1.alloc (.cells #[.int .u64 0, .int .u64 0] 41)) := (L1.out.start.alloc _)
     refine hK.out _ _ (zak ((L1.out.moved mv).y)) (fun hHeld => ?_)
     clear hK K
     refine zbr (fun V2 hV => ?_)
     rw [← hV] at mv
     have gZ : V2.heap[V1.heap.size]? = some (.cells #[.int .u64 0, .int .u64 0] 41 (0, 0)) := by rw [hV]; exact zac rfl
     have zZ : D < V1.heap.size := L1.out.m.deck.lt
     have zB : WB.heap.size ≤ V1.heap.size := (MB1.out).size
     clear hV hHeld
     have hHeld := zak ((L1.out.moved mv).y)
     have HPv2 := zjp (HPv1.out.newZ mv)
     have L2 := zjp (L1.out.moved mv)
     have MB2 := zjp (MB1.out.trans mv)
     clear mv
     refine wpAnyH_ready (rs := [5]) (by kernel_rfl) (by simp) ?_
     refine AllReadyH.cons rfl (fun K hK => ?_) (AllReadyH.nil)
     go_simp
     refine (zf3 D (Off D) _ _ _ _ s 8 _ ((L2.out.start)).deck (L2.out.moved (L2.out.start)).sa (fun b h => h) HSD.out (by decide)).mono ?_
     rintro e V3 ⟨rv, R, rfl, hrv, hRok, hR8, -, mv0⟩
     have mv : Moved D V2 V3 := (L2.out.start).trans mv0
     have zp : D < V2.heap.size := L2.out.m.deck.lt
     have zq := zaa gZ; have gZ := mv.blk (k := V1.heap.size) (by omega) gZ
     refine hK.out _ _ (zak ((L2.out.moved mv).y)) (fun hHeld => ?_)
     clear hK K
     have HPv3 := zjp (HPv2.out.movedZ mv)
     obtain ⟨ra, rc, rfl⟩ := hrv.slice; have HRv3 := zjp (hrv.move (T := OffZ D V1.heap.size) (Nat.le_refl _) (fun b _ h => ⟨rfl, by have h' : V2.heap.size ≤ b := h; show b ≠ D; omega, by have h' : V2.heap.size ≤ b := h; show b ≠ _; omega⟩)); have HRk := zjp hRok; have HR8 := zjp hR8
     have L3 := zjp (L2.out.moved mv)
     have MB3 := zjp (MB2.out.trans mv)
     clear mv mv0
     refine wpAnyH_ready (rs := [7]) (by kernel_rfl) (by simp) ?_
     refine AllReadyH.cons rfl (fun K hK => ?_) (AllReadyH.nil)
     go_simp
     refine (zhx D _ ((L3.out.start)).deck).mono ?_
     rintro e V4 ⟨⟨ka, kb⟩, rfl, mv0⟩
     have mv : Moved D V3 V4 := (L3.out.start).trans mv0
     have zp : D < V3.heap.size := L3.out.m.deck.lt
     have zq := zaa gZ; have gZ := mv.blk (k := V1.heap.size) (by omega) gZ
     refine hK.out _ _ (zak ((L3.out.moved mv).y)) (fun hHeld => ?_)
     clear hK K
     have HPv4 := zjp (HPv3.out.movedZ mv)
     have HRv4 := zjp (HRv3.out.movedZ mv)
     have L4 := zjp (L3.out.moved mv)
     have MB4 := zjp (MB3.out.trans mv)
     clear mv mv0
     have hset := zad (i := 1) (v := .int .u64 kb) (zad (i := 0) (v := .int .u64 ka) gZ)
     obtain ⟨e0, e1⟩ := zae gZ; have ff0 := frozen_of_row _ _ 0 _ _ gZ; have ff1 := frozen_of_row _ _ 1 _ _ gZ
     have ms := (MB4.out.set (a := ⟨V1.heap.size, 0, none⟩) zB (.int .u64 ka)).set (a := ⟨V1.heap.size, 1, none⟩) zB (.int .u64 kb)
     have L5 := zjp (HLB.out.moved ms)
     refine tH 9 (h := ?_)
     refine tH 10 (h := ?_)
     refine wpAnyH_ready (rs := [11]) (by kernel_rfl) (by simp) ?_
     refine AllReadyH.cons rfl (fun K hK => ?_) AllReadyH.nil
     go_simp
     skip
     refine hK.out _ _ (zak L5.out.y) (fun hHeld => ?_)
     clear hK K
     refine wpAnyH_done (by kernel_rfl) ?_ _
     refine NoPanic.normal ?_
     go_wp2_with fail
     go_meet
     exact ⟨pa, P, pc, ra, R, rc, V1.heap.size, ka, kb, by rw [HPd.out.len], rfl, rfl, L5.out, HPv4.out.farZ, HRv4.out.farZ, HPd.out, HRk.out, HR8.out, hset⟩
   focus
    go_simp
    have mv : Moved D WB (WB.alloc (.cells #[.int .u64 0, .int .u64 0] 41)).drew := (L0.out.start.alloc _).drew
    refine hK.out _ _ (zak ((L0.out.moved mv).y)) (fun hHeld => ?_)
    clear hK K
    refine zbr (fun V1 hV => ?_)
    rw [← hV] at mv
    have gZ : V1.heap[WB.heap.size]? = some (.cells #[.int .u64 0, .int .u64 0] 41 (0, 0)) := by rw [hV]; exact zac rfl
    have zZ : D < WB.heap.size := L0.out.m.deck.lt
    have zB : WB.heap.size ≤ WB.heap.size := Nat.le_refl _
    clear hV hHeld
    have hHeld := zak ((L0.out.moved mv).y)
    have L1 := zjp (L0.out.moved mv)
    have MB1 := zjp (mv)
    clear mv
    refine wpAnyH_ready (rs := [2]) (by kernel_rfl) (by simp) ?_
    refine AllReadyH.cons rfl (fun K hK => ?_) (AllReadyH.nil)
    go_simp
    refine (pars_deal D N _ ((L1.out.start)).deck hlen5).mono ?_
    rintro e V2 ⟨pv, P, rfl, hpv, hP, mv0⟩
    have mv : Moved D V1 V2 := (L1.out.start).trans mv0
    have zp : D < V1.heap.size := L1.out.m.deck.lt
    have zq := zaa gZ; have gZ := mv.blk (k := WB.heap.size) (by omega) gZ
    refine hK.out _ _ (zak ((L1.out.moved mv).y)) (fun hHeld => ?_)
    clear hK K
    obtain ⟨pa, pc, rfl⟩ := hpv.slice; have HPv2 := zjp (hpv.move (S' := OffZ D WB.heap.size) (Nat.le_refl _) (fun b _ h => ⟨rfl, by have h' : V1.heap.size ≤ b := h; show b ≠ D; omega, by have h' : V1.heap.size ≤ b := h; show b ≠ _; omega⟩)); have HPd := zjp hP
    have L2 := zjp (L1.out.moved mv)
    have MB2 := zjp (MB1.out.trans mv)
    clear mv mv0
    refine wpAnyH_ready (rs := [5]) (by kernel_rfl) (by simp) ?_
    refine AllReadyH.cons rfl (fun K hK => ?_) (AllReadyH.nil)
    go_simp
    refine (zf3 D (Off D) _ _ _ _ s 8 _ ((L2.out.start)).deck (L2.out.moved (L2.out.start)).sa (fun b h => h) HSD.out (by decide)).mono ?_
    rintro e V3 ⟨rv, R, rfl, hrv, hRok, hR8, -, mv0⟩
    have mv : Moved D V2 V3 := (L2.out.start).trans mv0
    have zp : D < V2.heap.size := L2.out.m.deck.lt
    have zq := zaa gZ; have gZ := mv.blk (k := WB.heap.size) (by omega) gZ
    refine hK.out _ _ (zak ((L2.out.moved mv).y)) (fun hHeld => ?_)
    clear hK K
    have HPv3 := zjp (HPv2.out.movedZ mv)
    obtain ⟨ra, rc, rfl⟩ := hrv.slice; have HRv3 := zjp (hrv.move (T := OffZ D WB.heap.size) (Nat.le_refl _) (fun b _ h => ⟨rfl, by have h' : V2.heap.size ≤ b := h; show b ≠ D; omega, by have h' : V2.heap.size ≤ b := h; show b ≠ _; omega⟩)); have HRk := zjp hRok; have HR8 := zjp hR8
    have L3 := zjp (L2.out.moved mv)
    have MB3 := zjp (MB2.out.trans mv)
    clear mv mv0
    refine wpAnyH_ready (rs := [7]) (by kernel_rfl) (by simp) ?_
    refine AllReadyH.cons rfl (fun K hK => ?_) (AllReadyH.nil)
    go_simp
    refine (zhx D _ ((L3.out.start)).deck).mono ?_
    rintro e V4 ⟨⟨ka, kb⟩, rfl, mv0⟩
    have mv : Moved D V3 V4 := (L3.out.start).trans mv0
    have zp : D < V3.heap.size := L3.out.m.deck.lt
    have zq := zaa gZ; have gZ := mv.blk (k := WB.heap.size) (by omega) gZ
    refine hK.out _ _ (zak ((L3.out.moved mv).y)) (fun hHeld => ?_)
    clear hK K
    have HPv4 := zjp (HPv3.out.movedZ mv)
    have HRv4 := zjp (HRv3.out.movedZ mv)
    have L4 := zjp (L3.out.moved mv)
    have MB4 := zjp (MB3.out.trans mv)
    clear mv mv0
    have hset := zad (i := 1) (v := .int .u64 kb) (zad (i := 0) (v := .int .u64 ka) gZ)
    obtain ⟨e0, e1⟩ := zae gZ; have ff0 := frozen_of_row _ _ 0 _ _ gZ; have ff1 := frozen_of_row _ _ 1 _ _ gZ
    have ms := (MB4.out.set (a := ⟨WB.heap.size, 0, none⟩) zB (.int .u64 ka)).set (a := ⟨WB.heap.size, 1, none⟩) zB (.int .u64 kb)
    have L5 := zjp (HLB.out.moved ms)
    refine tH 9 (h := ?_)
    refine tH 10 (h := ?_)
    refine wpAnyH_ready (rs := [11]) (by kernel_rfl) (by simp) ?_
    refine AllReadyH.cons rfl (fun K hK => ?_) AllReadyH.nil
    go_simp
    skip
    refine hK.out _ _ (zak L5.out.y) (fun hHeld => ?_)
    clear hK K
    refine wpAnyH_done (by kernel_rfl) ?_ _
    refine NoPanic.normal ?_
    go_wp2_with fail
    go_meet
    exact ⟨pa, P, pc, ra, R, rc, WB.heap.size, ka, kb, by rw [HPd.out.len], rfl, rfl, L5.out, HPv4.out.farZ, HRv4.out.farZ, HPd.out, HRk.out, HR8.out, hset⟩
  case rest =>
   obtain ⟨pa, P, pc, ra, R, rc, Z, ka, kb, rfl, rfl, rfl, hL, hpv, hrv, hP, hRok, hR8, hZ⟩ := hcut
   have HL := zjp hL; have HPV := zjp hpv; have HRV := zjp hrv; have HZ := zjp hZ
   have HPc := zjp (show zby s P = 0 from pars_check HSD.out.check (by rw [HN.out]; exact hP))
   have HPl := zjp hP.len
   have HPi := zjp (pars_in hP)
   have HRa := zjp hRok.all
   have HRin := zjp (show ∀ r ∈ R, RecIn s P r from fun r hr => zi0 HPc.out ((ziq hRok.all).2.2 r hr))
   have HRs := zjp (show ∀ r ∈ R, ∀ x ∈ r.vals, x.length ≤ 1000000 from fun r hr x hx => by have := hRok.short r hr x hx; omega)
   have HRv := zjp (hRok.vals (by rw [HN.out]; omega))
   obtain ⟨nR, hnR⟩ : ∃ nR, R.length = nR := ⟨_, rfl⟩
   have HNR := zjp hnR
   rw [hnR] at hR8 HRV ⊢
   rw [show P.length = N from hP.len] at HPV
   obtain ⟨z0, z1⟩ := zae hZ
   obtain ⟨t0, t1, t2, t3⟩ := zak hL.y
   have lZ := zaa hZ; have lY := zaa hL.y
   clear hL hpv hrv hP hRok hZ hnR s0 s1 s2 s3 zDB HLB L0
   have hmk := run_make_row' (P := Tryz.prog) 43 44 (.slice none 0 0) 24 Tryz.underlying43 infoES rfl .i64 .i64 N (by omega) (by omega)
   rw [made_nil] at hmk
   go_wp2_with fail
   refine wp_region_noPanic ?_
   refine wp_region_held_drew (S := (fun w' => w'.cell? ⟨Y, 0, none⟩ = some (.slice af N cf) ∧ w'.cell? ⟨Y, 1, none⟩ = some (.slice at' nt ct) ∧ w'.cell? ⟨Y, 2, none⟩ = some (.slice an nk cn) ∧ w'.cell? ⟨Y, 3, none⟩ = some (.slice as' ns cs) ∧ w'.cell? ⟨Z, 0, none⟩ = some (.int .u64 ka) ∧ w'.cell? ⟨Z, 1, none⟩ = some (.int .u64 kb))) (by kernel_rfl) (⟨t0, t1, t2, t3, z0, z1⟩) (fun hHeld => ?_)
   have HS := zjp (show ∀ W, Below wc.heap.size wc W → W.cell? ⟨Y, 0, none⟩ = some (.slice af N cf) ∧ W.cell? ⟨Y, 1, none⟩ = some (.slice at' nt ct) ∧ W.cell? ⟨Y, 2, none⟩ = some (.slice an nk cn) ∧ W.cell? ⟨Y, 3, none⟩ = some (.slice as' ns cs) ∧ W.cell? ⟨Z, 0, none⟩ = some (.int .u64 ka) ∧ W.cell? ⟨Z, 1, none⟩ = some (.int .u64 kb) from fun W hb => ⟨(hb.cell (p := ⟨Y, 0, none⟩) lY).trans t0, (hb.cell (p := ⟨Y, 1, none⟩) lY).trans t1, (hb.cell (p := ⟨Y, 2, none⟩) lY).trans t2, (hb.cell (p := ⟨Y, 3, none⟩) lY).trans t3, (hb.cell (p := ⟨Z, 0, none⟩) lZ).trans z0, (hb.cell (p := ⟨Z, 1, none⟩) lZ).trans z1⟩)
   refine tH 0 (h := ?_)
   refine tH 1 (h := ?_)
   refine tH 2 (h := ?_)
   refine tH 3 (h := ?_)
   refine tH 4 (h := ?_)
   have b5 : Below wc.heap.size wc (wc.alloc (.cells (List.replicate N (Value.slice none 0 0)).toArray 44)).drew := ((Below.refl _ _).alloc (Nat.le_refl _) _).drew
   refine wpAnyH_ready (rs := [5]) (by kernel_rfl) (by simp) ?_
   refine AllReadyH.cons rfl (fun K hK => ?_) AllReadyH.nil
   go_simp
   skip
   refine hK.out _ _ (HS.out _ b5) (fun hHeld => ?_)
   clear hK K
   refine zbr (fun V5 hV5 => ?_)
   have g5 : V5.heap[wc.heap.size]? = some (.cells (List.replicate N (Value.slice none 0 0)).toArray 44 (0, 0)) := by rw [hV5]; exact zac rfl
   have b5 : Below wc.heap.size wc V5 := by rw [hV5]; exact ((Below.refl _ _).alloc (Nat.le_refl _) _).drew
   have HDs := zjp (show SlsVec 2 zgz V5 zav (.slice (some ⟨wc.heap.size, 0, none⟩) N N) (List.replicate N ([] : List zdl)) from sls_zero g5 trivial)
   have has := zim (Off D) (Off D) zav _ _ _ _ _ _ s P _ (ka, kb) R (List.replicate N []) V5 (HL.out.sa.below b5) (by have := (HPV.out.below b5).any; exact this) (by have := HRV.out.below b5; exact this) HDs.out HPi.out (by rw [HPl.out]; omega) HRs.out HRv.out (by rw [HNR.out]; omega) (by rw [List.length_replicate]; omega) (by intro D hD; rw [List.eq_of_mem_replicate hD]; simp)
   have hval : zdq s P (ka, kb) R (List.replicate N []) = (zd0 (R.map (zen s P (ka, kb))) R 0 (List.replicate N []), 0) := by
    unfold zdq
    rw [if_pos HPc.out, if_pos HRa.out, if_pos (by rw [List.length_replicate, HN.out]), if_pos (zga fun D hD => by rw [List.eq_of_mem_replicate hD]; rfl)]
   rw [hval] at has
   obtain ⟨XS, hXS⟩ : ∃ XS, zd0 (R.map (zen s P (ka, kb))) R 0 (List.replicate N []) = XS := ⟨_, rfl⟩
   rw [hXS] at has
   have HXS := zjp hXS
   have HAs := zjp has
   have hXl : XS.length = N := by rw [← hXS, zcx, List.length_replicate]
   have hXc : chkE XS = 0 := by rw [← hXS]; exact expos_ok _ _ N (by rw [List.length_map, HNR.out]; omega) hlen1 hlen5
   have HXl := zjp hXl; have HXc := zjp hXc
   have HB5 := zjp b5
   clear hmk g5 has hval hXS hV5 hXl hXc b5 hHeld
   have hHeld := HS.out _ HB5.out
   refine wpAnyH_ready (rs := [6]) (by kernel_rfl) (by simp) ?_
   refine AllReadyH.cons rfl (fun K hK => ?_) AllReadyH.nil
   go_simp
   refine HAs.out.mono ?_; rintro e V6 ⟨xv, rfl, hx, hb6⟩; have HX6 := zjp hx; have HB6 := zjp (HB5.out.trans (hb6.mono HB5.out.size)); clear hx hb6
   refine hK.out _ _ (HS.out _ HB6.out) (fun hHeld => ?_)
   clear hK K
   refine tH 7 (h := ?_)
   refine tH 8 (h := ?_)
   refine tH 9 (h := ?_)
   refine tH 10 (h := ?_)
   refine tH 11 (h := ?_)
   refine wpAnyH_done (by kernel_rfl) ?_ _
   refine NoPanic.normal ?_
   obtain ⟨xa, xc, rfl⟩ := HX6.out.val
   rw [HXl.out]
   have HLn := zjp (HL.out.below HB6.out)
   have HPn := zjp (HPV.out.below HB6.out); have HRn := zjp (HRV.out.below HB6.out); have HZn := zjp (zab HB6.out lZ HZ.out)
   obtain ⟨y0, y1⟩ := zae HZn.out
   obtain ⟨r0, r1, r2, r3⟩ := zak HLn.out.y
   have lZ6 := zaa HZn.out; have lY6 := zaa HLn.out.y
   clear z0 z1 t0 t1 t2 t3 lZ lY HAs HS HDs HPV HRV HZ HL
   go_wp2_with fail
   have hall := rall16_any (Off D) (Off D) _ _ _ _ _ s P _ (ka, kb) R V6 HLn.out.sa HPn.out.any HRn.out HPi.out (by rw [HPl.out]; omega) HRs.out HRv.out (by rw [HNR.out]; omega)
   have haev : zg6 s P (ka, kb) R = (R.map (zen s P (ka, kb)), 0) := by unfold zg6; rw [if_pos HPc.out, if_pos HRa.out]
   rw [haev] at hall
   obtain ⟨E, hE⟩ : ∃ E, R.map (zen s P (ka, kb)) = E := ⟨_, rfl⟩
   have hEl : E.length = nR := by rw [← hE, List.length_map]; exact HNR.out
   rw [hE] at hall HXS
   have HE := zjp hE; have HEl := zjp hEl; have HAll := zjp hall
   clear hall haev hE hEl
   refine HAll.out.mono ?_
   rintro e V7 ⟨ev, rfl, hev, hb7⟩
   dsimp only at hev ⊢
   obtain ⟨ea, ec, rfl⟩ := hev.slice
   rw [HEl.out] at hev ⊢
   have HEv := zjp hev; have hx7 := HX6.out.all.below hb7
   rw [HXl.out] at hx7
   have HX7 := zjp hx7
   have HB7 := zjp (HLn.out.m.trans ((Moved.start HLn.out.m.deck).below hb7))
   clear hev hb7 hx7 HX6 y0 y1 r0 r1 r2 r3 lZ6 lY6 HZn HRn HPn
   have dz : ((0 : Int) != 0) = false := rfl
   have dn : ((N : Int) != (N : Int)) = false := by simp
   have hck := zh2 xa N xc XS V7 HX7.out (by omega)
   rw [HXc.out] at hck
   have HCk := zjp hck
   clear hck
   go_wp2_with fail
   refine HCk.out.mono ?_
   rintro e V8 ⟨rfl, hb8⟩
   have HM8 := zjp (HB7.out.below hb8); have HEv8 := zjp (HEv.out.below hb8); have HX8 := zjp (HX7.out.below hb8)
   clear hb8 HCk HX7 HEv HB7
   go_wp2_with fail
   go_loopw [13, 14, 16] (fun i _ _ wr => ∃ f : Nat, f ≤ N ∧ i = .int .i64 f ∧ Below V8.heap.size V8 wr) (fun i _ _ _ => N - (intOf i).toNat)
   case atStart => exact ⟨0, by omega, rfl, Below.refl _ _⟩
   case round =>
    obtain ⟨f, hf, rfl, hbw⟩ := hrel
    obtain ⟨WF, hWF⟩ : ∃ u, u = wr := ⟨_, rfl⟩
    subst hWF
    have HBf := zjp hbw
    by_cases hlt : f < N
    ·have hq : decide ((f : Int) < (N : Int)) = true := by simp; omega
     have hfi : (f : Int) < (N : Int) := by omega
     clear hbw
     go_wp2_with fail
     go_loopw [14, 16, 82] (fun c _ t wr => ∃ (j : Nat) (CB : List BV), t = .int .i64 j ∧ j ≤ nR ∧ CB.length = j ∧ OwnV 56 2 za3 WF c CB wr ∧ BitsAll WF (fun b => b < WF.heap.size) CB ((zef E f).take j)) (fun _ _ t _ => nR - (intOf t).toNat)
     case atStart => exact ⟨0, [], rfl, by omega, rfl, OwnV.nil (Below.refl _ _), rfl, fun n h1 _ => by simp at h1⟩
     case round =>
      obtain ⟨j, CB, rfl, hj, hCl, ho, hba⟩ := hrel
      obtain ⟨WR, hWR⟩ : ∃ u, u = wr := ⟨_, rfl⟩
      subst hWR
      obtain ⟨ca, cc, ec2⟩ := zau ho.1
      rw [hCl] at ec2
      subst ec2
      have HCl := zjp hCl; have HO := zjp ho; have HBA := zjp hba
      clear hCl hba
      by_cases hlj : j < nR
      ·have hqj : decide ((j : Int) < (nR : Int)) = true := by simp; omega
       have hji : (j : Int) < (nR : Int) := by omega
       have hjE : j < E.length := by rw [HEl.out]; exact hlj
       have hjR : j < R.length := by rw [HNR.out]; exact hlj
       obtain ⟨eb, eoff, ⟨eid, ever, fa, fn, fc⟩, e, leb, ⟨e0, e1, e2⟩, hval⟩ := ((HEv8.out.below HBf.out)).at j hjE
       cases e
       dsimp only at e0 e1 e2
       obtain ⟨sx, es, hbv⟩ := hval
       obtain ⟨va2, ca2, rfl⟩ := hbv.slice
       have es2 : eid = E[j].id ∧ ever = E[j].ver ∧ (fa = va2 ∧ fn = E[j].fields.length ∧ fc = ca2) := by simpa [eq_comm] using es
       obtain ⟨-, -, rfl, hfn, rfl⟩ := es2
       have hEf : E[j].fields.length = N := by
        have h1 : E[j] = zen s P (ka, kb) R[j] := by have := HE.out; subst this; simp
        rw [h1]
        show (zci s P (ka, kb) R[j].vals P.length).length = N
        rw [zfr, HPl.out]
       have hff : f < E[j].fields.length := by rw [hEf]; exact hlt
       obtain ⟨bb, boff, ⟨zl, za, zn, zc⟩, e, lbb, z0, z1, hat⟩ := hbv.at f hff
       cases e
       dsimp only at z0 z1
       have htc := col_next (E := E) (f := f) hjE
       obtain ⟨bz, hbz⟩ : ∃ bz, E[j].fields.getD f zbg = bz := ⟨_, rfl⟩
       rw [hbz] at hat htc
       have HAt := zjp (show BitsAt WF (fun b => b < WF.heap.size) (.agg (za3 ⟨zl, za, zn, zc⟩).toArray) bz from by
        obtain ⟨s', e', hv'⟩ := hat
        exact ⟨s', e', hv'.move (Nat.le_refl _) fun q hq _ => ⟨rfl, hq⟩⟩)
       have HTc := zjp htc
       rw [hfn, hEf] at e2
       have hbT := ho.2
       have e0' := (hbT.cell (p := ⟨eb, eoff + j * 3, none⟩) leb).trans e0
       have e1' := (hbT.cell (p := ⟨eb, eoff + j * 3 + 1, none⟩) leb).trans e1
       have e2' := (hbT.cell (p := ⟨eb, eoff + j * 3 + 2, none⟩) leb).trans e2
       have z0' := (hbT.cell (p := ⟨bb, boff + f * 2, none⟩) lbb).trans z0
       have z1' := (hbT.cell (p := ⟨bb, boff + f * 2 + 1, none⟩) lbb).trans z1
       have lbw : bb < WR.heap.size := Nat.lt_of_lt_of_le lbb hbT.size
       have hx0 : Below WR.heap.size WR ((WR.alloc (.cells #[.int .i64 eid, .int .i64 ever, .slice (some ⟨bb, boff, none⟩) N fc] 59)).alloc (.cells #[.int .i64 zl, .slice za zn zc] 56)) := ((Below.refl _ _).alloc (Nat.le_refl _) _).alloc (by simp) _
       have HO2 := zjp (HO.out.below hx0)
       have HRd := zjp (show zcn ((WR.alloc (.cells #[.int .i64 eid, .int .i64 ever, .slice (some ⟨bb, boff, none⟩) N fc] 59)).alloc (.cells #[.int .i64 zl, .slice za zn zc] 56)) 2 (.slice (some ⟨WR.heap.size + 1, 0, none⟩) 1 1) [(⟨zl, za, zn, zc⟩ : BV)].length ([(⟨zl, za, zn, zc⟩ : BV)].flatMap za3) from za2 (xs := [(⟨zl, za, zn, zc⟩ : BV)].flatMap za3) (fr := (0, 0)) (t := 56) (zac (by simp)) rfl)
       have hcn : CB.length + [(⟨zl, za, zn, zc⟩ : BV)].length ≤ 1000000000 := by rw [HCl.out]; simp only [List.length_cons, List.length_nil]; omega
       clear htc hbz hat hbv es hfn hEf hff ho hbT e0 e1 e2 z0 z1 hx0
       go_wp2_with (at_builtin; refine zcr rfl (.tmp 86) (.tmp 92) 57 rfl 56 (.agg #[.int .i64 0, .slice none 0 0]) 2 32 za3 (fun _ => rfl) ze4 Tryz.underlying57 zf6 rfl (by decide) (by decide) (w0 := WF) (v := .slice ca j cc) (A := CB) (B := [⟨zl, za, zn, zc⟩]) rfl HO2.out rfl HRd.out hcn ?_; intro v2 w2 ho2 hk2 hz2)
       go_roundw
       case rel => exact ⟨j + 1, CB ++ [⟨zl, za, zn, zc⟩], by go_num, by omega, by rw [List.length_append, HCl.out]; rfl, ho2, by rw [HTc.out]; exact HBA.out.snoc HAt.out⟩
       case measure => simp [intOf]; omega
      ·have hqj : decide ((j : Int) < (nR : Int)) = false := by simp; omega
       obtain rfl : j = nR := by omega
       have htE : (zef E f).take j = zef E f := List.take_of_length_le (by rw [zd5, HEl.out]; omega)
       rw [htE] at HBA
       have hbits := col_in (k := (ka, kb)) HRin.out f
       rw [HE.out] at hbits
       have HBits := zjp hbits
       have hBvec : BitsVec WR zav (.slice ca j cc) (zef E f) := ⟨CB, by have := (OwnV.vec (size := 2) (enc := za3) (fun _ => rfl) HO.out).any; exact this, (HBA.out.move4 HO.out.2).weaken fun _ _ => trivial⟩
       have HBvec := zjp hBvec
       have HBw := zjp (HBf.out.trans (HO.out.2.mono HBf.out.size))
       obtain ⟨xb, xo, e, lxb, c0, c1, c2, c3, c4⟩ := (HX8.out.below HBw.out).get f (by rw [HXl.out]; exact hlt)
       cases e
       have hxf : XS[f]'(by rw [HXl.out]; exact hlt) = zft E R f [] := by
        have h1 := zgn E R (List.replicate N []) 0 f (by rw [List.length_replicate]; exact hlt) (by rw [zcx, List.length_replicate]; exact hlt)
        have h2 := HXS.out
        subst h2
        rw [h1, List.getElem_replicate, Nat.zero_add]
       rw [hxf] at c1 c2 c3
       have hh0 : (zft E R f []).h = 0 := hits_nil _ _ _
       rw [hh0] at c2
       obtain ⟨u, hu⟩ : ∃ u, zbx (zce (zef E f)) = u := ⟨_, rfl⟩
       obtain ⟨c, hc⟩ : ∃ c, zbw (zef E f) = c := ⟨_, rfl⟩
       have hub := (singular_bd (zef E f)).2
       rw [hu, zd5, HEl.out] at hub
       replace c1 : WR.cell? ⟨xb, xo + f * 5 + 1, none⟩ = some (.int .i64 u) := by rw [← hu]; exact c1
       replace c3 : WR.cell? ⟨xb, xo + f * 5 + 3, none⟩ = some (.int .i64 c) := by rw [← hc]; exact c3
       have d1 : decide ((j : Int) < u) = false := by simp; omega
       have d2 : (u != u) = false := by simp
       have d3 : (c != c) = false := by simp
       have hgr := rgroups_any zav _ (zef E f) WR.drew (HBvec.out.below (Below.refl _ _).drew) (fun b hb => bitsIn_I (hbits b hb)) (by rw [zd5, HEl.out]; omega)
       have hal := fun (W : World) (hb : Below WR.heap.size WR W) => ralways_any zav _ (zef E f) W (HBvec.out.below hb) (fun b hb => bitsIn_I (hbits b hb)) (fun b hb => bitsIn_U (hbits b hb)) (by rw [zd5, HEl.out]; omega)
       rw [hc] at hal
       have hgo := groups_ok (zef E f)
       rw [zd5, HEl.out] at hgo
       have hsi := fun (W : World) (S : Nat → Prop) (v : Value) (hg : GroupsAt W S v (zce (zef E f))) => rsingular_any S v (zce (zef E f)) W hg (by have := hgo.few; omega) (fun g hg => by have := hgo.mems g hg; omega)
       rw [hu] at hsi
       have HGr := zjp hgr; have HAl := zjp hal; have HSi := zjp hsi
       clear hbits hBvec c0 c4 hxf hh0 hu hc hgr hal hgo hsi htE ho
       go_wp2_with fail
       have HS := zjp (show ∀ W, Below WR.heap.size WR W → W.cell? ⟨xb, xo + f * 5 + 2, none⟩ = some (.int .i64 0) ∧ W.cell? ⟨xb, xo + f * 5 + 1, none⟩ = some (.int .i64 u) ∧ W.cell? ⟨xb, xo + f * 5 + 3, none⟩ = some (.int .i64 c) from fun W hb => ⟨(hb.cell (p := ⟨xb, xo + f * 5 + 2, none⟩) lxb).trans c2, (hb.cell (p := ⟨xb, xo + f * 5 + 1, none⟩) lxb).trans c1, (hb.cell (p := ⟨xb, xo + f * 5 + 3, none⟩) lxb).trans c3⟩)
       refine wp_region_noPanic ?_
       refine wp_region_held_drew (S := (fun w' => w'.cell? ⟨xb, xo + f * 5 + 2, none⟩ = some (.int .i64 0) ∧ w'.cell? ⟨xb, xo + f * 5 + 1, none⟩ = some (.int .i64 u) ∧ w'.cell? ⟨xb, xo + f * 5 + 3, none⟩ = some (.int .i64 c))) (by kernel_rfl) (⟨c2, c1, c3⟩) (fun hHeld => ?_)
       refine tH 0 (h := ?_)
       refine tH 1 (h := ?_)
       refine tH 2 (h := ?_)
       refine tH 3 (h := ?_)
       refine tH 4 (h := ?_)
       refine tH 5 (h := ?_)
       refine tH 6 (h := ?_)
       refine tH 7 (h := ?_)
       refine tH 8 (h := ?_)
       refine tH 9 (h := ?_)
       refine tH 10 (h := ?_)
       refine tH 11 (h := ?_)
       refine tH 12 (h := ?_)
       refine tH 13 (h := ?_)
       refine tH 14 (h := ?_)
       refine tH 15 (h := ?_)
       refine tH 16 (h := ?_)
       refine tH 17 (h := ?_)
       refine tH 18 (h := ?_)
       refine tH 19 (h := ?_)
       refine tH 20 (h := ?_)
       refine tH 21 (h := ?_)
       refine tH 22 (h := ?_)
       refine wpAnyH_ready (rs := [23]) (by kernel_rfl) (by simp) ?_
       refine AllReadyH.cons rfl (fun K hK => ?_) AllReadyH.nil
       go_simp
       refine HGr.out.mono ?_; rintro e V9 ⟨gv, rfl, hg, hb9⟩; have HG9 := zjp hg; have HB9 := zjp (show Below WR.heap.size WR V9 from (Below.refl _ _).drew.trans hb9); clear hg hb9
       refine hK.out _ _ (HS.out _ HB9.out) (fun hHeld => ?_)
       clear hK K
       refine wpAnyH_ready (rs := [24]) (by kernel_rfl) (by simp) ?_
       refine AllReadyH.cons rfl (fun K hK => ?_) AllReadyH.nil
       go_simp
       refine (HSi.out _ _ _ HG9.out).mono ?_; rintro e V10 ⟨rfl, hb10⟩; have HB10 := zjp (HB9.out.trans (hb10.mono HB9.out.size)); clear hb10
       refine hK.out _ _ (HS.out _ HB10.out) (fun hHeld => ?_)
       clear hK K
       refine tH 25 (h := ?_)
       refine tH 26 (h := ?_)
       refine tH 27 (h := ?_)
       refine tH 28 (h := ?_)
       refine tH 29 (h := ?_)
       refine tH 30 (h := ?_)
       refine tH 31 (h := ?_)
       refine tH 32 (h := ?_)
       refine tH 33 (h := ?_)
       refine wpAnyH_ready (rs := [34]) (by kernel_rfl) (by simp) ?_
       refine AllReadyH.cons rfl (fun K hK => ?_) AllReadyH.nil
       go_simp
       refine (HAl.out _ HB10.out).mono ?_; rintro e V11 ⟨rfl, hb11⟩; have HB11 := zjp (HB10.out.trans (hb11.mono HB10.out.size)); clear hb11
       refine hK.out _ _ (HS.out _ HB11.out) (fun hHeld => ?_)
       clear hK K
       refine tH 35 (h := ?_)
       refine tH 36 (h := ?_)
       refine wpAnyH_done (by kernel_rfl) ?_ _
       refine NoPanic.normal ?_
       go_wp2_with fail
       go_roundw
       case rel => exact ⟨f + 1, by omega, by go_num, HBw.out.trans (HB11.out.mono HBw.out.size)⟩
       case measure => simp [intOf]; omega
    ·have hq : decide ((f : Int) < (N : Int)) = false := by simp; omega
     clear hbw
     go_wp2_with fail
     go_ret
     exact ⟨rfl, (HM8.out.base HBd.out zB1).trans (HBf.out.mono (HM8.out.base HBd.out zB1).size)⟩
 ·have hd : decide (n ≤ 400) = false := by simpa using hn
  clear hr hn
  go_enter Tryz.func4, Tryz.ntmps4
  go_wp2_with fail
  refine (zgr _).mono ?_; rintro e w1 ⟨rfl, hb1⟩
  go_wp2_with fail
  refine (few_any a n cap _).mono ?_; rintro e w' ⟨rfl, rfl⟩
  go_wp2_with fail
  refine (zgr _).mono ?_; rintro e w2 ⟨rfl, hb2⟩
  go_wp2_with fail
  go_ret
  exact ⟨rfl, hb1.trans (hb2.mono hb1.size)⟩
end Go.Proofs.YtgkaafncfjlooaaGreatDoor
end
section
namespace Go.Proofs.YtgkaafncfjlooaaGreatDoor.admissionCounts
open Go.ChangeShapes Go.WideShapes Go.ChangeAt Go.RowKit Go.Joins
open Go.ChangeMaps (open_string shut_string)
set_option linter.unusedVariables false
theorem own : ownKnob Tryz.prog.godebug = none := by kernel_rfl
theorem laidOut : laidOutB Tryz.prog = true := by kernel_rfl
set_option maxRecDepth 100000 in
theorem lifted (os : Os) (started : os.Started) (H : Type) (enc : TypeId × Value → H) :
    ReturnsInHanded {} Tryz.checked os 4 .any (fun w args => (Rows.admissionCountsSpec.pre enc Tryz.prog Tryz.f4 Rows.admissionCountsRow.domain false w args ∧ laidMetH Tryz.prog Rows.admissionCountsRow.laid w) ∧ sizedMet enc Tryz.prog Tryz.f4 (OpenSpec.ofChange Rows.admissionCountsSpec) false w args) (Rows.admissionCountsSpec.post enc Tryz.prog Tryz.f4 false true false false) := by
  refine returnsInHanded_of_change_and (C := Tryz.checked) (X := fun w _ => laidMetH Tryz.prog Rows.admissionCountsRow.laid w) (fun _ _ _ hh h => h.of_heap hh) own started (by kernel_rfl) Tryz.func4
    (ChangeSpec.witness_shaped (enc := enc) (C := Tryz.checked) (os := os) (X := fun w _ => laidMetH Tryz.prog Rows.admissionCountsRow.laid w) false (World.laidAll Tryz.prog os Rows.admissionCountsRow.laid) #[.slice none 0 0] 8 (World.laidAll_os _ _ _)
      (World.shaped_of_ZipB (by kernel_rfl) (by kernel_rfl)) (by kernel_rfl) (by kernel_rfl) (by kernel_rfl)
      (by rw [MakeChecks.laidMetH_plain _ _ _ (by kernel_rfl)]; exact laidMet_laidAll _ (by kernel_rfl) (by kernel_rfl))) ?_
  intro W base args ds gs before hval0 hW hcnd _ hLaid _
  have hval : ∀ (j : Nat) t v, Tryz.f4.params[j]? = some t → args[j]? = some v → Value.okWide Tryz.prog W .any base t v := hval0
  have hW' := hW
  obtain ⟨p, q, hA0, hV, rfl, hfz, hnd⟩ := hW
  have hA : DataW.TrodAll enc Tryz.prog W 0 (fun _ => true) true Tryz.f4.params.toList args.toList ds p := hA0
  rw [Tryz.params4] at hA hval
  obtain ⟨v0, vs0, d0, ds0, p0, q0, hargs, rfl, rfl, h0, r0⟩ := trodAll_cons hA
  obtain ⟨rfl, rfl, rfl⟩ := trodAll_nil r0
  obtain rfl : args = #[v0] := by cases args; simp_all
  obtain ⟨rfl, rfl⟩ := trodVars_none hV
  obtain ⟨a0, len0, cap0, rfl⟩ := okWide_slice Tryz.underlying22 (hval 0 22 v0 rfl rfl)
  have k0 := h0
  have lt0 : ∀ x ∈ p0, x.block < W.heap.size := by obtain ⟨m, hm⟩ := k0; exact DataW.trod_lt m _ _ _ hm
  obtain ⟨z0, w0⟩ : ∃ zs, IsRow .i64 W a0 len0 cap0 zs := by
    obtain ⟨fuel, hf⟩ := h0
    rcases open_ints Tryz.underlying22 Tryz.underlying3 (by kernel_rfl) hf with ⟨hcs, _⟩ | ⟨x, l, c, zs, hcs, _, hl, hm, hz, _, hcell, hwz⟩
    · simp [Value.cells] at hcs
      obtain ⟨rfl, rfl, rfl⟩ := hcs
      exact ⟨[], .inl ⟨rfl, rfl, rfl, rfl⟩⟩
    · simp [Value.cells] at hcs
      obtain ⟨rfl, rfl, rfl⟩ := hcs
      exact ⟨zs, .inr ⟨_, rfl, hl, hm, by simpa using hz, hcell, hwz⟩⟩
  clear hA0 hval0
  refine (counts_walk a0 len0 cap0 z0 W w0).mono fun e W' ⟨he, bel⟩ => ?_
  subst he
  exact ⟨_, rfl, _, _, _, [], _, [], hW', trodAll_mk1 (shut_bool Tryz.underlying4 _), (trodAll_cons_mk (Below.trod laidOut (by kernel_rfl) (of_decide_eq_true (by kernel_rfl)) k0 bel lt0) trodAll_mk0), rfl, bel.frame _, fun h => by cases h⟩
set_option maxRecDepth 100000 in
set_option maxHeartbeats 100000000 in
theorem over : Rows.admissionCountsRow.holds Tryz.pinned (OpenSpec.ofChange Rows.admissionCountsSpec) :=
 OpenClaim.holds_of_wide 4 Tryz.f4 rfl rfl rfl rfl rfl rfl rfl ⟨rfl, rfl, rfl, rfl, rfl⟩ rfl rfl rfl rfl rfl (by as_aux_lemma => kernel_rfl) Tryz.func4 closed
  (of_decide_eq_true (by as_aux_lemma => kernel_rfl)) (by unfold Func.isWrapper; first | (rw [if_pos (by decide +kernel)]; kernel_rfl) | (rw [if_neg (by decide +kernel)]; exact ⟨rfl, rfl⟩))
  (fun os started H enc _ => lifted os started H enc)
set_option maxRecDepth 100000 in
set_option maxHeartbeats 100000000 in
/-- THE STATEMENT -/
theorem proved : Rows.AdmissionCountsCardSaid :=
  Claim7.holds_tied_plain_at .later [] [.data, .data, .data, .data, .pinned] true (true, "db946e9a8edeec5c864e271e865ef276914d8d5bec4fa080c24e690829a5f5c0") false
    over (fun _ h => by cases h) (by as_aux_lemma => kernel_rfl) (fun _ h => by cases h) admissionCounts_row_tie rfl ⟨rfl, rfl⟩ (by as_aux_lemma => kernel_rfl) rfl
    (fun f fn hf hfn => by
      obtain rfl : f = 4 := Option.some.inj ((show Tryz.prog.funcNamed Rows.admissionCountsRow.func = some 4 by kernel_rfl).symm.trans hf) |>.symm
      obtain rfl : fn = Tryz.f4 := (Option.some.inj (Tryz.func4.symm.trans hfn)).symm
      exact ⟨by kernel_rfl, fun j t ht => by
        rw [Tryz.params4] at ht
        have hm : t ∈ [22] := by simpa using Array.mem_of_getElem? ht
        have hall : ([22].all fun u => !Tryz.prog.wantsStandIn u) = true := by kernel_rfl
        exact (show Tryz.prog.wantsStandIn t = false by simpa using List.all_eq_true.1 hall t hm)⟩)
    (by as_aux_lemma => kernel_rfl)
#print axioms proved
end Go.Proofs.YtgkaafncfjlooaaGreatDoor.admissionCounts
end
