/-
 For every input the law AdmissionKeys returns true, and its arguments read afterwards as they read before; no condition.
-/
import Derived.Test.YtgkaafncfjlooaaGreatDoorPartAd10
import Derived.Test.YtgkaafncfjlooaaGreatDoorRows
import Derived.ProofKit
import Derived.JoinedOf
import Derived.Deep.DeepCutAuto
import Derived.Deep.OwnRows
import Derived.Lib.QuietBelow
import Derived.WalkKit
import Derived.OpenShut
import Derived.ShutString
import Derived.ChangeOld
import Derived.Below
import Derived.Lib.SmallJoins
import Derived.Test.YtgkaafncfjlooaaGreatDoorCards
import Derived.Test.YtgkaafncfjlooaaGreatDoorTie
import Derived.LaidMore
import Derived.Lay
import Derived.SevenTiedAt
import Derived.Stop.Joined
section
/-
 The closed facts of the row of AdmissionKeys, each a lemma of its own (so that the kernel gives its memory back behind each).
-/
namespace Go.Proofs.YtgkaafncfjlooaaGreatDoor.admissionKeys
theorem and_tt {a b : Bool} (h : a = true) (h' : b = true) : (a && b) = true := by rw [h, h']; rfl
set_option maxRecDepth 100000 in
set_option maxHeartbeats 100000000 in
theorem closed : joinedFacts Tryz.pinned.checked.prog 3 Tryz.f3 Rows.admissionKeysSpec Rows.admissionKeysRow = true := by
 unfold joinedFacts
 repeat' (with_reducible refine and_tt ?_ ?_)
 ·as_aux_lemma => kernel_rfl
 ·as_aux_lemma => kernel_rfl
 ·as_aux_lemma => kernel_rfl
 ·as_aux_lemma => kernel_rfl
 ·as_aux_lemma => kernel_rfl
 ·as_aux_lemma => kernel_rfl
 ·as_aux_lemma => kernel_rfl
 ·as_aux_lemma => kernel_rfl
 ·as_aux_lemma => kernel_rfl
 ·as_aux_lemma => kernel_rfl
 ·as_aux_lemma => kernel_rfl
 ·as_aux_lemma => kernel_rfl
 ·as_aux_lemma => kernel_rfl
 ·as_aux_lemma => kernel_rfl
 ·as_aux_lemma => kernel_rfl
 ·as_aux_lemma => kernel_rfl
 ·as_aux_lemma => kernel_rfl
 ·as_aux_lemma => kernel_rfl
 ·as_aux_lemma => kernel_rfl
 ·as_aux_lemma => kernel_rfl
 ·as_aux_lemma => kernel_rfl
 ·as_aux_lemma => kernel_rfl
 ·as_aux_lemma => kernel_rfl
 ·as_aux_lemma => kernel_rfl
 ·as_aux_lemma => kernel_rfl
 ·as_aux_lemma => kernel_rfl
 ·as_aux_lemma => kernel_rfl
 ·as_aux_lemma => kernel_rfl
 ·as_aux_lemma => kernel_rfl
 ·as_aux_lemma => kernel_rfl
 ·as_aux_lemma => kernel_rfl
 ·as_aux_lemma => kernel_rfl
end Go.Proofs.YtgkaafncfjlooaaGreatDoor.admissionKeys
end
section
/- The law AdmissionKeys, walked (printed by mk_keys.py). -/
set_option linter.unusedSimpArgs false
set_option linter.unusedVariables false
set_option maxRecDepth 100000
namespace Go.Proofs.YtgkaafncfjlooaaGreatDoor
open Go.RowKit Cal
set_option maxHeartbeats 16000000 in
theorem keys_walk (a : Option Addr) (n cap : Nat) (zs : List Int) (w : World) (hr : IsRow .i64 w a n cap zs) :
  Calls Tryz.prog 3 #[.slice a n cap] w fun e w' => e = .returned (.bool true) ∧ Below w.heap.size w w' := by
 by_cases hn : n ≤ 400
 ·have hd : decide (n ≤ 400) = true := by simpa using hn
  have HR := zjp hr; clear hr
  go_enter Tryz.func3, Tryz.ntmps3
  go_wp2_with fail
  refine (zgr _).mono ?_; rintro e w1 ⟨rfl, hb1⟩
  go_wp2_with fail
  refine (few_any a n cap _).mono ?_; rintro e w' ⟨rfl, rfl⟩
  go_wp2_with fail
  refine (new_any a n cap _).mono ?_; rintro e w' ⟨rfl, rfl⟩
  have hdk := deck_law2 (cap := cap) hn HR.out hb1
  have hbd := hb1.alloc hb1.size (.cells #[.slice a n cap, .int .i64 0, .int .u64 11400714819323198485] 81)
  have zB1 := hb1.size
  obtain ⟨Wd, hWd⟩ : ∃ u, u = (w1.alloc (.cells #[.slice a n cap, .int .i64 0, .int .u64 11400714819323198485] 81)) := ⟨_, rfl⟩
  rw [← hWd] at hdk hbd ⊢
  obtain ⟨D, hD⟩ : ∃ D, w1.heap.size = D := ⟨_, rfl⟩
  rw [hD] at hdk zB1 ⊢
  have HBd := zjp hbd; have HDk := zjp hdk
  clear hb1 HR hd hdk hbd hWd hD
  go_wp2_with fail
  refine (schema_deal _ _ HDk.out).mono ?_
  rintro e w6 ⟨vf, vt, vn, vs, s, rfl, hs, hsd, mv⟩
  obtain ⟨af, cf, rfl⟩ := hs.1.slice
  obtain ⟨at', ct, rfl⟩ := hs.2.1.slice
  obtain ⟨an, cn, rfl⟩ := hs.2.2.1.slice
  obtain ⟨as', cs, rfl⟩ := hs.2.2.2.slice
  have hlen5 := (zcl hsd.check).1.2
  have hlen1 := hsd.some
  obtain ⟨N, hN⟩ : ∃ N, s.fields.length = N := ⟨_, rfl⟩
  rw [hN] at hs hlen5 hlen1 ⊢
  obtain ⟨nt, hnt⟩ : ∃ nt, s.rules.titles.length = nt := ⟨_, rfl⟩
  obtain ⟨nk, hnk⟩ : ∃ nk, s.rules.nicks.length = nk := ⟨_, rfl⟩
  obtain ⟨ns, hns⟩ : ∃ ns, s.rules.streets.length = ns := ⟨_, rfl⟩
  rw [hnt, hnk, hns] at hs ⊢
  have zWd := HDk.out.lt
  have hoff : ∀ b, b < w6.heap.size → Wd.heap.size ≤ b → b ≠ D := fun b _ h => by omega
  have HSA := zjp (show SchemaAt w6 (Off D) (.slice af N cf) (.slice at' nt ct) (.slice an nk cn) (.slice as' ns cs) s from ⟨hs.1.off hoff, hs.2.1.off hoff, hs.2.2.1.off hoff, hs.2.2.2.off hoff⟩)
  have M6 := zjp mv; have HSD := zjp hsd; have HN := zjp hN
  clear mv hs hsd hN hnt hnk hns HDk hoff
  go_wp2_with fail
  refine zam (fun WB hWB => ?_)
  have hlb : LX D w6.heap.size Wd (.slice af N cf) (.slice at' nt ct) (.slice an nk cn) (.slice as' ns cs) s WB := by
   have hb := xal hWB
   exact ⟨M6.out.below hb, by rw [hWB]; exact zac rfl, HSA.out.below hb, by have := M6.out.size; omega⟩
  obtain ⟨Y, hY⟩ : ∃ Y, w6.heap.size = Y := ⟨_, rfl⟩
  rw [hY] at hlb ⊢
  have HLB := zjp hlb
  have L0 := zjp hlb
  have zDB := hlb.m.deck.lt
  obtain ⟨s0, s1, s2, s3⟩ := zak hlb.y
  clear hWB hlb hY HSA M6
  refine wp_region_noPanic ?_
  refine wp_region_held_drew (S := (fun w' => w'.cell? ⟨Y, 0, none⟩ = some (.slice af N cf) ∧ w'.cell? ⟨Y, 1, none⟩ = some (.slice at' nt ct) ∧ w'.cell? ⟨Y, 2, none⟩ = some (.slice an nk cn) ∧ w'.cell? ⟨Y, 3, none⟩ = some (.slice as' ns cs))) (by kernel_rfl) (⟨s0, s1, s2, s3⟩) (fun hHeld => ?_)
  refine tH 0 (h := ?_)
  refine tH 1 (h := ?_)
  refine tH 3 (h := ?_)
  refine tH 4 (h := ?_)
  refine wpAnyH_ready (rs := [2]) (by kernel_rfl) (by simp) ?_
  refine AllReadyH.cons rfl (fun K hK => ?_) AllReadyH.nil
  go_simp
  refine (pars_deal D N _ (L0.out.start.drew).deck hlen5).mono ?_; rintro e V1 ⟨pv, P, rfl, hpv, hP, mv0⟩; have mv : Moved D WB V1 := L0.out.start.drew.trans mv0; obtain ⟨pa, pc, rfl⟩ := hpv.slice; have HPv1 := zjp (hpv.off (D := D) (fun b _ h => by have h' : WB.heap.size ≤ b := h; omega)); have HPd := zjp hP; have L1 := zjp (L0.out.moved mv); clear mv mv0 hpv hP
  refine hK.out _ _ (zak L1.out.y) (fun hHeld => ?_)
  clear hK K
  have zD1 := L1.out.m.deck.lt
  refine wpAnyH_ready (rs := [5]) (by kernel_rfl) (by simp) ?_
  refine AllReadyH.cons rfl (fun K hK => ?_) AllReadyH.nil
  go_simp
  refine (zf3 D (Off D) _ _ _ _ s 8 _ L1.out.m.deck L1.out.sa (fun b h => h) HSD.out (by decide)).mono ?_; rintro e V2 ⟨rv, R, rfl, hrv, hRok, hR8, -, mv⟩; obtain ⟨ra, rc, rfl⟩ := hrv.slice; have HRv2 := zjp (hrv.off (D := D) (fun b _ h => by have h' : V1.heap.size ≤ b := h; omega)); have HRk := zjp hRok; have HPv2 := zjp (HPv1.out.movedD mv); have L2 := zjp (L1.out.moved mv); clear mv hrv hRok
  refine hK.out _ _ (zak L2.out.y) (fun hHeld => ?_)
  clear hK K
  refine tH 6 (h := ?_)
  refine tH 7 (h := ?_)
  refine wpAnyH_done (by kernel_rfl) ?_ _
  refine NoPanic.normal ?_
  have HPc := zjp (show zby s P = 0 from pars_check HSD.out.check (by rw [HN.out]; exact HPd.out))
  have HPl := zjp HPd.out.len
  have HPi := zjp (pars_in HPd.out)
  have HRa := zjp HRk.out.all
  have HRin := zjp (show ∀ r ∈ R, RecIn s P r from fun r hr => zi0 HPc.out ((ziq HRk.out.all).2.2 r hr))
  have HRs := zjp (show ∀ r ∈ R, ∀ x ∈ r.vals, x.length ≤ 1000000 from fun r hr x hx => by have := HRk.out.short r hr x hx; omega)
  have HRv := zjp (HRk.out.vals (by rw [HN.out]; omega))
  obtain ⟨nR, hnR⟩ : ∃ nR, R.length = nR := ⟨_, rfl⟩
  have HNR := zjp hnR
  rw [hnR] at hR8 HRv2 ⊢
  rw [show P.length = N from HPd.out.len] at HPv2 ⊢
  clear hnR HPv1 L1 L0 HLB zDB zD1 s0 s1 s2 s3 HRk
  go_wp2_with fail
  refine (zhx D _ L2.out.m.deck).mono ?_
  rintro e V3 ⟨⟨ka, kb⟩, rfl, mv⟩
  have L3 := zjp (L2.out.moved mv); have HPv3 := zjp (HPv2.out.movedD mv); have HRv3 := zjp (HRv2.out.movedD mv)
  clear mv L2 HPv2 HRv2
  go_wp2_with fail
  refine (zhx D _ L3.out.m.deck).mono ?_
  rintro e V4 ⟨⟨kc, kd⟩, rfl, mv⟩
  have L4 := zjp (L3.out.moved mv); have HPv4 := zjp (HPv3.out.movedD mv); have HRv4 := zjp (HRv3.out.movedD mv)
  clear mv L3 HPv3 HRv3
  dsimp only
  go_wp2_with fail
  refine zam (fun W5 hW5 => ?_)
  have b5 := xam hW5
  have hZ : W5.heap[V4.heap.size]? = some (.cells #[.int .u64 ka, .int .u64 kb] 41 (0, 0)) := by rw [hW5]; exact zaf (zac rfl)
  have hX : W5.heap[V4.heap.size + 1]? = some (.cells #[.int .u64 kc, .int .u64 kd] 41 (0, 0)) := by rw [hW5]; exact zac (by simp)
  obtain ⟨Z, hZe⟩ : ∃ Z, V4.heap.size = Z := ⟨_, rfl⟩
  have zD4 := L4.out.m.deck.lt
  rw [hZe] at hZ hX zD4 ⊢
  have HZ := zjp hZ; have HX := zjp hX
  have HZD := zjp (show Z ≠ D ∧ Z + 1 ≠ D from ⟨by omega, by omega⟩)
  have L5 := zjp (L4.out.below b5); have HPv5 := zjp (HPv4.out.below b5); have HRv5 := zjp (HRv4.out.below b5)
  clear hW5 b5 hZ hX hZe L4 HPv4 HRv4
  go_loopw [10, 11] (fun v i wr => ∃ (j : Nat) (C : List SV) (Ds : List (List zdl)), i = .int .i64 j ∧ j ≤ N ∧ Ds.length = j ∧ DOut D W5 v C Ds wr) (fun _ i _ => N - (intOf i).toNat)
  case atStart => exact ⟨0, [], [], rfl, by omega, rfl, DOut.nil L5.out.start⟩
  case round =>
   obtain ⟨j, C, Ds, rfl, hj, hDl, ho⟩ := hrel
   obtain ⟨WR, hWR⟩ : ∃ u, u = wr := ⟨_, rfl⟩
   subst hWR
   have HO := zjp ho
   have hCl : C.length = j := by rw [ho.len]; exact hDl
   obtain ⟨oa, oc, eo⟩ := zau ho.own.1
   rw [hCl] at eo
   subst eo
   have HDl := zjp hDl; have HCl := zjp hCl
   clear ho hDl hCl
   by_cases hlt : j < N
   ·have hq : decide ((j : Int) < (N : Int)) = true := by simp; omega
    go_wp2_with fail
    refine (dict_deal D _ HO.out.own.2.deck).mono ?_
    rintro e w6 ⟨dv, L, rfl, hdv, hL, mv⟩
    obtain ⟨da, dc, rfl⟩ := hdv.slice
    obtain ⟨dl, hdl⟩ : ∃ dl, L.length = dl := ⟨_, rfl⟩
    rw [hdl] at hdv ⊢
    have m7 : Moved D WR (w6.alloc (.cells #[.slice da dl dc] 44)) := mv.alloc _
    have HO6 := zjp (HO.out.moved m7).own
    have HRd := zjp (show zcn (w6.alloc (.cells #[.slice da dl dc] 44)) 1 (.slice (some ⟨w6.heap.size, 0, none⟩) 1 1) [(⟨da, dl, dc⟩ : SV)].length ([(⟨da, dl, dc⟩ : SV)].flatMap encSV) from za2 (xs := [(⟨da, dl, dc⟩ : SV)].flatMap encSV) (fr := (0, 0)) (t := 44) (zac rfl) rfl)
    have hcn : C.length + [(⟨da, dl, dc⟩ : SV)].length ≤ 1000000000 := by rw [HCl.out]; simp only [List.length_cons, List.length_nil]; omega
    have HM7 := zjp m7; have HL := zjp hL
    have HDv := zjp (show Vec (w6.alloc (.cells #[.slice da dl dc] 44)) (fun b => WR.heap.size ≤ b) 2 zgz (svV ⟨da, dl, dc⟩) L from hdv.below ((Below.refl _ _).alloc (Nat.le_refl _) _))
    clear mv m7 hL hdv hdl
    go_wp2_with (at_builtin; refine zgc rfl (.tmp 54) (.tmp 57) 43 rfl D 44 (.slice none 0 0) 1 24 encSV (fun _ => rfl) one_encSL Tryz.underlying43 infoDS rfl (by decide) (by decide) (wA := W5) (v := .slice oa j oc) (A := C) (B := [⟨da, dl, dc⟩]) rfl HO6.out rfl HRd.out hcn ?_; intro v8 w8 ho8 hk8 hz8 hat8)
    go_roundw
    case rel =>
     refine ⟨j + 1, C ++ [⟨da, dl, dc⟩], Ds ++ [L], by go_num, by omega, by rw [List.length_append, HDl.out]; rfl, HO.out.put HM7.out HDv.out HL.out ho8 hk8 hz8 ?_⟩
     rcases hat8 with h | h | h
     ·exact .inl h
     ·exact .inr (.inl h)
     ·exact .inr (.inr ⟨_, h, Nat.le_refl _⟩)
    case measure => simp [intOf]; omega
   ·have hq : decide ((j : Int) < (N : Int)) = false := by simp; omega
    obtain rfl : j = N := by omega
    have mo := HO.out.own.2
    have L6 := zjp (L5.out.moved mo); have HPv6 := zjp (HPv5.out.movedD mo); have HRv6 := zjp (HRv5.out.movedD mo)
    have HZ6 := zjp (mo.blk HZD.out.1 HZ.out); have HX6 := zjp (mo.blk HZD.out.2 HX.out)
    have hds := HO.out.vec
    have HDs := zjp hds
    have HDok := zjp (show ∀ L ∈ Ds, L.length ≤ 1000000 from fun L hL => by have := (HO.out.ok L hL).len; omega)
    have HDe := zjp (show zdx Ds = 0 from zga fun L hL => (HO.out.ok L hL).check)
    have hva : zdq s P (ka, kb) R Ds = (zd0 (R.map (zen s P (ka, kb))) R 0 Ds, 0) := by
     unfold zdq; rw [if_pos HPc.out, if_pos HRa.out, if_pos (by rw [HDl.out, HN.out]), if_pos HDe.out]
    have hvb : zdq s P (kc, kd) R Ds = (zd0 (R.map (zen s P (kc, kd))) R 0 Ds, 0) := by
     unfold zdq; rw [if_pos HPc.out, if_pos HRa.out, if_pos (by rw [HDl.out, HN.out]), if_pos HDe.out]
    have hea : zg6 s P (ka, kb) R = (R.map (zen s P (ka, kb)), 0) := by unfold zg6; rw [if_pos HPc.out, if_pos HRa.out]
    have heb : zg6 s P (kc, kd) R = (R.map (zen s P (kc, kd)), 0) := by unfold zg6; rw [if_pos HPc.out, if_pos HRa.out]
    obtain ⟨E, hE⟩ : ∃ E, R.map (zen s P (ka, kb)) = E := ⟨_, rfl⟩
    obtain ⟨F, hF⟩ : ∃ F, R.map (zen s P (kc, kd)) = F := ⟨_, rfl⟩
    rw [hE] at hva hea; rw [hF] at hvb heb
    have hEl : E.length = nR := by rw [← hE, List.length_map]; exact HNR.out
    have hFl : F.length = nR := by rw [← hF, List.length_map]; exact HNR.out
    have HE := zjp hE; have HF := zjp hF; have HEl := zjp hEl; have HFl := zjp hFl
    have hxl : ∀ X : List EncL, (zd0 X R 0 Ds).length = j := fun X => by rw [zcx, HDl.out]
    have HA1 := zjp (fun (W : World) (hb : Below WR.heap.size WR W) => zim (Off D) (Off D) (Off D) _ _ _ _ _ _ s P (.slice pa j pc) (ka, kb) R Ds W (L6.out.sa.below hb) (HPv6.out.below hb).any (HRv6.out.below hb) (HDs.out.below hb) HPi.out (by rw [HPl.out]; omega) HRs.out HRv.out (by rw [HNR.out]; omega) (by rw [HDl.out]; omega) HDok.out)
    have HA2 := zjp (fun (W : World) (hb : Below WR.heap.size WR W) => zim (Off D) (Off D) (Off D) _ _ _ _ _ _ s P (.slice pa j pc) (kc, kd) R Ds W (L6.out.sa.below hb) (HPv6.out.below hb).any (HRv6.out.below hb) (HDs.out.below hb) HPi.out (by rw [HPl.out]; omega) HRs.out HRv.out (by rw [HNR.out]; omega) (by rw [HDl.out]; omega) HDok.out)
    have HA3 := zjp (fun (W : World) (hb : Below WR.heap.size WR W) => rall16_any (Off D) (Off D) _ _ _ _ _ s P (.slice pa j pc) (ka, kb) R W (L6.out.sa.below hb) (HPv6.out.below hb).any (HRv6.out.below hb) HPi.out (by rw [HPl.out]; omega) HRs.out HRv.out (by rw [HNR.out]; omega))
    have HA4 := zjp (fun (W : World) (hb : Below WR.heap.size WR W) => rall16_any (Off D) (Off D) _ _ _ _ _ s P (.slice pa j pc) (kc, kd) R W (L6.out.sa.below hb) (HPv6.out.below hb).any (HRv6.out.below hb) HPi.out (by rw [HPl.out]; omega) HRs.out HRv.out (by rw [HNR.out]; omega))
    rw [hva] at HA1; rw [hvb] at HA2; rw [hea] at HA3; rw [heb] at HA4
    obtain ⟨XS, hXS⟩ : ∃ X, zd0 E R 0 Ds = X := ⟨_, rfl⟩
    obtain ⟨YS, hYS⟩ : ∃ X, zd0 F R 0 Ds = X := ⟨_, rfl⟩
    have hXl := hxl E; have hYl := hxl F
    rw [hXS] at HA1 hXl; rw [hYS] at HA2 hYl
    have HXS := zjp hXS; have HYS := zjp hYS; have HXl := zjp hXl; have HYl := zjp hYl
    have HM6 := zjp L6.out.m
    obtain ⟨t0, t1, t2, t3⟩ := zak L6.out.y
    obtain ⟨z0, z1⟩ := zae HZ6.out; obtain ⟨x0, x1⟩ := zae HX6.out
    have lY := zaa L6.out.y; have lZ := zaa HZ6.out; have lX := zaa HX6.out
    have HYb := zjp L6.out.y
    clear hva hvb hea heb hE hF hEl hFl hxl hXS hYS hXl hYl mo hds HDe HO HZ HX HZD L5 HPv5 HRv5 zD4
    go_wp2_with fail
    refine (HA1.out _ (Below.refl _ _)).mono ?_
    rintro e w1' ⟨xv, rfl, hx, hb1⟩
    obtain ⟨xa, xc, rfl⟩ := hx.val
    have hx := hx.all
    rw [HXl.out] at hx
    dsimp only
    rw [HXl.out]
    have HX1 := zjp hx; have HB1 := zjp hb1
    have HYb1 := zab hb1 lY HYb.out; have HXb1 := zab hb1 lX HX6.out; have HZb1 := zab hb1 lZ HZ6.out
    clear hx hb1 t0 t1 t2 t3 z0 z1 x0 x1
    obtain ⟨t0, t1, t2, t3⟩ := zak HYb1; obtain ⟨x0, x1⟩ := zae HXb1
    have lY1 := zaa HYb1; have lX1 := zaa HXb1
    clear HYb1 HXb1 HZb1
    go_wp2_with fail
    refine (HA2.out _ HB1.out).mono ?_
    rintro e w2' ⟨yv, rfl, hy, hb2⟩
    obtain ⟨ya, yc, rfl⟩ := hy.val
    have hy := hy.all
    rw [HYl.out] at hy
    dsimp only
    rw [HYl.out]
    have HX2 := zjp (HX1.out.below hb2); have HY2 := zjp hy; have HB2 := zjp (HB1.out.trans (hb2.mono HB1.out.size))
    clear hy hb2 t0 t1 t2 t3 x0 x1 lY1 lX1 HX1
    have HYb2 := zab HB2.out lY HYb.out; have HZb2 := zab HB2.out lZ HZ6.out
    obtain ⟨t0, t1, t2, t3⟩ := zak HYb2; obtain ⟨z0, z1⟩ := zae HZb2
    have lY1 := zaa HYb2; have lX1 := zaa HZb2
    clear HYb2 HZb2
    go_wp2_with fail
    refine (HA3.out _ HB2.out).mono ?_
    rintro e w3' ⟨ev, rfl, hev, hb3⟩
    dsimp only at hev ⊢
    obtain ⟨ea, ec, rfl⟩ := hev.slice
    rw [HEl.out] at hev ⊢
    have HX3 := zjp (HX2.out.below hb3); have HY3 := zjp (HY2.out.below hb3); have HE3 := zjp hev; have HB3 := zjp (HB2.out.trans (hb3.mono HB2.out.size))
    clear hev hb3 t0 t1 t2 t3 z0 z1 lY1 lX1 HX2 HY2
    have HYb2 := zab HB3.out lY HYb.out; have HXb2 := zab HB3.out lX HX6.out
    obtain ⟨t0, t1, t2, t3⟩ := zak HYb2; obtain ⟨x0, x1⟩ := zae HXb2
    have lY1 := zaa HYb2; have lX1 := zaa HXb2
    clear HYb2 HXb2
    go_wp2_with fail
    refine (HA4.out _ HB3.out).mono ?_
    rintro e w4' ⟨fv, rfl, hfv, hb4⟩
    dsimp only at hfv ⊢
    obtain ⟨fa0, fc0, rfl⟩ := hfv.slice
    rw [HFl.out] at hfv ⊢
    have HX4 := zjp (HX3.out.below hb4); have HY4 := zjp (HY3.out.below hb4); have HE4 := zjp (HE3.out.below hb4); have HF4 := zjp hfv; have HB4 := zjp (HB3.out.trans (hb4.mono HB3.out.size))
    clear hfv hb4 t0 t1 t2 t3 x0 x1 lY1 lX1 HX3 HY3 HE3 HA1 HA2 HA3 HA4 lY lZ lX HYb
    have dz : ((0 : Int) != 0) = false := rfl
    have dn : ((j : Int) != (j : Int)) = false := by simp
    go_wp2_with fail
    refine zam (fun V9 hV9 => ?_)
    have b9 : Below w4'.heap.size w4' V9 := by rw [hV9]; exact Below.refl _ _
    have HX9 := zjp (HX4.out.below b9); have HY9 := zjp (HY4.out.below b9); have HE9 := zjp (HE4.out.below b9); have HF9 := zjp (HF4.out.below b9)
    have HB9 := zjp (HB4.out.trans (b9.mono HB4.out.size))
    clear hV9 b9 HX4 HY4 HE4 HF4 HB4
    go_loopw [20, 21, 22, 23] (fun i _ _ _ wr => ∃ f : Nat, f ≤ j ∧ i = .int .i64 f ∧ Below V9.heap.size V9 wr) (fun i _ _ _ _ => j - (intOf i).toNat)
    case atStart => exact ⟨0, by omega, rfl, Below.refl _ _⟩
    case round =>
     obtain ⟨f, hf, rfl, hbw⟩ := hrel
     obtain ⟨WF, hWF⟩ : ∃ u, u = wr := ⟨_, rfl⟩
     subst hWF
     have HBf := zjp hbw
     by_cases hlf : f < j
     ·have hqf : decide ((f : Int) < (j : Int)) = true := by simp; omega
      have hff0 : (f : Int) < (j : Int) := by omega
      clear hbw
      obtain ⟨U, hU⟩ : ∃ U, zef E f = U := ⟨_, rfl⟩
      obtain ⟨V, hV⟩ : ∃ V, zef F f = V := ⟨_, rfl⟩
      have HU := zjp hU; have HV := zjp hV
      clear hU hV
      obtain ⟨Eq2, hEq2⟩ : ∃ Q : Nat → Nat → Prop, Q = fun p q => (zg1 (U.getD p zbg) (U.getD q zbg) = 0 ↔ zg1 (V.getD p zbg) (V.getD q zbg) = 0) := ⟨_, rfl⟩
      have HEq2 := zjp hEq2
      clear hEq2
      go_wp2_with fail
      go_loopw [21, 22, 23, 126] (fun al _ _ t wr => ∃ (p : Nat) (ab : Bool), t = .int .i64 p ∧ p ≤ nR ∧ al = .bool ab ∧ Below WF.heap.size WF wr ∧ Hid (ab = true → ∀ p' q, p' < p → q < p' → Eq2 p' q)) (fun _ _ _ t _ => nR - (intOf t).toNat)
      case atStart => exact ⟨0, true, rfl, by omega, rfl, Below.refl _ _, zjp fun _ p' q h => by omega⟩
      case round =>
       obtain ⟨p, ab, rfl, hp, rfl, hbp, HAl⟩ := hrel
       obtain ⟨WP, hWP⟩ : ∃ u, u = wr := ⟨_, rfl⟩
       subst hWP
       have HBp := zjp hbp
       clear hbp
       by_cases hlp : p < nR
       ·have hqp : decide ((p : Int) < (nR : Int)) = true := by simp; omega
        have hpi : (p : Int) < (nR : Int) := by omega
        go_wp2_with fail
        go_loopw [21, 23] (fun al q wr => ∃ (k : Nat) (ac : Bool), q = .int .i64 k ∧ k ≤ p ∧ al = .bool ac ∧ Below WP.heap.size WP wr ∧ Hid (ac = true → (∀ p' q', p' < p → q' < p' → Eq2 p' q') ∧ ∀ q', q' < k → Eq2 p q')) (fun _ q _ => p - (intOf q).toNat)
        case atStart => exact ⟨0, ab, rfl, by omega, rfl, Below.refl _ _, zjp fun h => ⟨HAl.out h, fun q' hq => by omega⟩⟩
        case round =>
         obtain ⟨k, ac, rfl, hk, rfl, hbk, HAc⟩ := hrel
         obtain ⟨WK, hWK⟩ : ∃ u, u = wr := ⟨_, rfl⟩
         subst hWK
         have HBk := zjp hbk
         have HBW := zjp (HBf.out.trans ((HBp.out.trans (hbk.mono HBp.out.size)).mono HBf.out.size))
         clear hbk
         by_cases hlk : k < p
         ·have hqk : decide ((k : Int) < (p : Int)) = true := by simp; omega
          have hki : (k : Int) < (nR : Int) := by omega
          cases ac
          ·go_wp2_with fail
           refine wp_region_quiet_below (by kernel_rfl) (by kernel_rfl) ?_
           repeat (go_big_quiet_step (fail))
           refine wpQuiet_nil ?_
           intro w5 hw'
           have hb5 : Below WK.heap.size WK w5 := by
            obtain ⟨⟨dq, osq⟩, hw''⟩ := hw'
            rw [hw'']; exact below_regrown WK dq osq
           have HB5 := zjp (HBk.out.trans (hb5.mono HBk.out.size))
           clear hw' hb5
           go_wp2_with fail
           go_roundw
           case rel => exact ⟨k + 1, false, by go_num, by omega, rfl, HB5.out, zjp fun h => by cases h⟩
           case measure => simp [intOf]; omega
          ·have hpE : p < E.length := by rw [HEl.out]; exact hlp
           have hkE : k < E.length := by rw [HEl.out]; omega
           have hpF : p < F.length := by rw [HFl.out]; exact hlp
           have hkF : k < F.length := by rw [HFl.out]; omega
           have hlen : ∀ (X : Int × Int) (q : Nat) (hq : q < (R.map (zen s P X)).length), (R.map (zen s P X))[q].fields.length = j := by
            intro X q hq
            rw [List.getElem_map]
            show (zci s P X _ P.length).length = j
            rw [zfr, HPl.out]
           have hword : ∀ (X : Int × Int), ∀ b ∈ zef (R.map (zen s P X)) f, b.words.length ≤ 1000000 := fun X b hb => bitsIn_few (col_in HRin.out f b hb)
           have hEf : ∀ q (hq : q < E.length), E[q].fields.length = j := by rw [← HE.out]; exact hlen (ka, kb)
           have hFf : ∀ q (hq : q < F.length), F[q].fields.length = j := by rw [← HF.out]; exact hlen (kc, kd)
           have hEw : ∀ b ∈ zef E f, b.words.length ≤ 1000000 := by rw [← HE.out]; exact hword (ka, kb)
           have hFw : ∀ b ∈ zef F f, b.words.length ≤ 1000000 := by rw [← HF.out]; exact hword (kc, kd)
           have hcell : ∀ (X : List EncL) (a0 : Option Addr) (c0 : Nat), EncsVec WK zav (.slice a0 nR c0) X → (∀ q (hq : q < X.length), X[q].fields.length = j) → ∀ q (hq : q < X.length), ∃ (b o fb fo fc : Nat) (zl : Int) (za : Option Addr) (zn zc : Nat), a0 = some ⟨b, o, none⟩ ∧ WK.cell? ⟨b, o + q * 3 + 2, none⟩ = some (.slice (some ⟨fb, fo, none⟩) j fc) ∧ WK.cell? ⟨fb, fo + f * 2, none⟩ = some (.int .i64 zl) ∧ WK.cell? ⟨fb, fo + f * 2 + 1, none⟩ = some (.slice za zn zc) ∧ BitsAt WK zav (.agg #[.int .i64 zl, .slice za zn zc]) ((zef X f).getD q zbg) := by
            intro X a0 c0 hv hl q hq
            obtain ⟨eb, eoff, ⟨eid, ever, fa, fn, fc⟩, e, leb, ⟨e0, e1, e2⟩, hval⟩ := hv.at q hq
            obtain ⟨sx, es, hbv⟩ := hval
            obtain ⟨va2, ca2, rfl⟩ := hbv.slice
            have es2 : eid = X[q].id ∧ ever = X[q].ver ∧ (fa = va2 ∧ fn = X[q].fields.length ∧ fc = ca2) := by simpa [eq_comm] using es
            obtain ⟨-, -, rfl, hfn, rfl⟩ := es2
            obtain ⟨bb, boff, ⟨zl, za, zn, zc⟩, e', lbb, z0, z1, hat⟩ := hbv.at f (by rw [hl q hq]; exact hlf)
            dsimp only at e2 z0 z1
            subst e'
            rw [hfn, hl q hq] at e2
            rw [← col_getD hq] at hat
            exact ⟨eb, eoff, bb, boff, _, zl, za, zn, zc, e, e2, z0, z1, hat⟩
           have hE9 : EncsVec WK zav (.slice ea nR ec) E := (HE9.out.below HBW.out).move (T := zav) (Nat.le_refl _) fun _ _ _ => ⟨rfl, trivial⟩
           have hF9 : EncsVec WK zav (.slice fa0 nR fc0) F := (HF9.out.below HBW.out).move (T := zav) (Nat.le_refl _) fun _ _ _ => ⟨rfl, trivial⟩
           obtain ⟨b1, o1, fb1, fo1, fc1, l1, a1, n1, c1, e1, p1, q1, r1, t1⟩ := hcell E ea ec hE9 hEf p hpE
           obtain ⟨b2, o2, fb2, fo2, fc2, l2, a2, n2, c2, e2, p2, q2, r2, t2⟩ := hcell E ea ec hE9 hEf k hkE
           obtain ⟨b3, o3, fb3, fo3, fc3, l3, a3, n3, c3, e3, p3, q3, r3, t3⟩ := hcell F fa0 fc0 hF9 hFf p hpF
           obtain ⟨b4, o4, fb4, fo4, fc4, l4, a4, n4, c4, e4, p4, q4, r4, t4⟩ := hcell F fa0 fc0 hF9 hFf k hkF
           subst e1
           cases e2
           subst e3
           cases e4
           have hUw : ((zef E f).getD p zbg).words.length ≤ 1000000 := by rw [za5 _ _ (by rw [zd5]; exact hpE)]; exact hEw _ (List.getElem_mem _)
           have hVw : ((zef F f).getD p zbg).words.length ≤ 1000000 := by rw [za5 _ _ (by rw [zd5]; exact hpF)]; exact hFw _ (List.getElem_mem _)
           rw [HU.out] at t1 t2 hUw
           rw [HV.out] at t3 t4 hVw
           have T1 := zjp t1; have T2 := zjp t2; have T3 := zjp t3; have T4 := zjp t4
           obtain ⟨cu, hcu⟩ : ∃ cu, zg1 (U.getD p zbg) (U.getD k zbg) = cu := ⟨_, rfl⟩
           obtain ⟨cw, hcw⟩ : ∃ cw, zg1 (V.getD p zbg) (V.getD k zbg) = cw := ⟨_, rfl⟩
           have cP := zfj WK (fun W' hb => by have h := rcmpB_any zav zav _ _ _ _ W' (T1.out.below hb) (T2.out.below hb) hUw; rw [hcu] at h; exact h)
           have cQ := zfj WK (fun W' hb => by have h := rcmpB_any zav zav _ _ _ _ W' (T3.out.below hb) (T4.out.below hb) hVw; rw [hcw] at h; exact h)
           have y1 := cell_regrown p1; have y2 := cell_regrown q1; have y3 := cell_regrown r1
           have y4 := cell_regrown p2; have y5 := cell_regrown q2; have y6 := cell_regrown r2
           have y7 := cell_regrown p3; have y8 := cell_regrown q3; have y9 := cell_regrown r3
           have y10 := cell_regrown p4; have y11 := cell_regrown q4; have y12 := cell_regrown r4
           have HEq := zjp (show ((cu == 0) == (cw == 0)) = true → Eq2 p k by
            intro h
            rw [HEq2.out]
            show (zg1 _ _ = 0 ↔ zg1 _ _ = 0)
            rw [hcu, hcw]
            have h2 : (cu == 0) = (cw == 0) := by simpa using h
            constructor
            ·intro e; rw [e] at h2; simpa using h2.symm
            ·intro e; rw [e] at h2; simpa using h2)
           clear p1 q1 r1 t1 p2 q2 r2 t2 p3 q3 r3 t3 p4 q4 r4 t4 hcu hcw hUw hVw hcell hE9 hF9 hlen hword hEf hFf hEw hFw
           go_wp2_with fail
           refine wp_region_quiet_below (by kernel_rfl) (by kernel_rfl) ?_
           repeat (go_big_quiet_step (first | with_reducible exact cP _ _ | with_reducible exact cQ _ _))
           refine wpQuiet_nil ?_
           intro w5 hw'
           have hb5 : Below WK.heap.size WK w5 := by
            obtain ⟨⟨dq, osq⟩, hw''⟩ := hw'
            rw [hw'']; exact below_regrown WK dq osq
           have HB5 := zjp (HBk.out.trans (hb5.mono HBk.out.size))
           clear hw' hb5 cP cQ y1 y2 y3 y4 y5 y6 y7 y8 y9 y10 y11 y12
           go_wp2_with fail
           go_roundw
           case rel =>
            refine ⟨k + 1, _, by go_num, by omega, rfl, HB5.out, zjp fun h => ⟨(HAc.out (by trivial)).1, fun q' hq' => ?_⟩⟩
            by_cases e : q' = k
            ·subst e; exact HEq.out h
            ·exact (HAc.out (by trivial)).2 q' (by omega)
           case measure => simp [intOf]; omega
         ·have hqk : decide ((k : Int) < (p : Int)) = false := by simp; omega
          obtain rfl : k = p := by omega
          have HB6 := zjp (HBp.out.trans (HBk.out.mono HBp.out.size))
          go_wp2_with fail
          go_roundw
          case rel =>
           refine ⟨k + 1, ac, by go_num, by omega, rfl, HB6.out, zjp fun h p' q' h1 h2 => ?_⟩
           by_cases e : p' = k
           ·subst e; exact (HAc.out h).2 q' h2
           ·exact (HAc.out h).1 p' q' (by omega) h2
          case measure => simp [intOf]; omega
       ·have hqp : decide ((p : Int) < (nR : Int)) = false := by simp; omega
        obtain rfl : p = nR := by omega
        have HBW := zjp (HBf.out.trans (HBp.out.mono HBf.out.size))
        have hfD : f < Ds.length := by rw [HDl.out]; exact hlf
        obtain ⟨xb, xo, e, lxb, c0, c1, c2, c3, c4⟩ := (HX9.out.below HBW.out).get f (by rw [HXl.out]; exact hlf)
        obtain ⟨yb, yo, e', lyb, d0, d1, d2, d3, d4⟩ := (HY9.out.below HBW.out).get f (by rw [HYl.out]; exact hlf)
        have hxf : XS[f]'(by rw [HXl.out]; exact hlf) = zft E R f Ds[f] := by
         have h1 := zgn E R Ds 0 f hfD (by rw [zcx]; exact hfD)
         have h2 := HXS.out
         subst h2
         rw [h1, Nat.zero_add]
        have hyf : YS[f]'(by rw [HYl.out]; exact hlf) = zft F R f Ds[f] := by
         have h1 := zgn F R Ds 0 f hfD (by rw [zcx]; exact hfD)
         have h2 := HYS.out
         subst h2
         rw [h1, Nat.zero_add]
        rw [hxf] at c1 c2
        rw [hyf] at d1 d2
        have hke : ab = true → (zft E R f Ds[f]).u = (zft F R f Ds[f]).u ∧ (zft E R f Ds[f]).h = (zft F R f Ds[f]).h := by
         intro h
         rw [← HE.out, ← HF.out]
         refine expo_keys (col_alike (by rw [HPl.out]; exact hlf) HRin.out fun p' q' h1 h2 => ?_) _
         rw [HE.out, HF.out, HU.out, HV.out]
         have := HAl.out h p' q' (by rw [← HNR.out]; exact h1) h2
         rw [HEq2.out] at this
         exact this
        obtain ⟨u1, hu1⟩ : ∃ x, (zft E R f Ds[f]).u = x := ⟨_, rfl⟩
        obtain ⟨h1, hh1⟩ : ∃ x, (zft E R f Ds[f]).h = x := ⟨_, rfl⟩
        obtain ⟨u2, hu2⟩ : ∃ x, (zft F R f Ds[f]).u = x := ⟨_, rfl⟩
        obtain ⟨h2, hh2⟩ : ∃ x, (zft F R f Ds[f]).h = x := ⟨_, rfl⟩
        rw [hu1] at c1 hke; rw [hh1] at c2 hke; rw [hu2] at d1 hke; rw [hh2] at d2 hke
        cases e
        cases e'
        have s1 := cell_regrown c1; have s2 := cell_regrown c2; have s3 := cell_regrown d1; have s4 := cell_regrown d2
        clear c0 c3 c4 d0 d3 d4 hxf hyf hu1 hh1 hu2 hh2 c1 c2 d1 d2
        cases ab
        ·clear hke
         go_wp2_with fail
         refine wp_region_quiet_below (by kernel_rfl) (by kernel_rfl) ?_
         repeat (go_big_quiet_step (fail))
         refine wpQuiet_nil ?_
         intro w5 hw'
         have hb5 : Below WP.heap.size WP w5 := by
          obtain ⟨⟨dq, osq⟩, hw''⟩ := hw'
          rw [hw'']; exact below_regrown WP dq osq
         have HB5 := zjp (HBW.out.trans (hb5.mono HBW.out.size))
         clear hw' hb5 s1 s2 s3 s4
         go_wp2_with fail
         go_roundw
         case rel => exact ⟨f + 1, by omega, by go_num, HB5.out⟩
         case measure => simp [intOf]; omega
        ·obtain ⟨rfl, rfl⟩ := hke rfl
         have k1 : (u1 != u1) = false := by simp
         have k2 : (h1 != h1) = false := by simp
         clear hke
         go_wp2_with fail
         refine wp_region_quiet_below (by kernel_rfl) (by kernel_rfl) ?_
         repeat (go_big_quiet_step (fail))
         refine wpQuiet_nil ?_
         intro w5 hw'
         have hb5 : Below WP.heap.size WP w5 := by
          obtain ⟨⟨dq, osq⟩, hw''⟩ := hw'
          rw [hw'']; exact below_regrown WP dq osq
         have HB5 := zjp (HBW.out.trans (hb5.mono HBW.out.size))
         clear hw' hb5 s1 s2 s3 s4
         go_wp2_with fail
         go_roundw
         case rel => exact ⟨f + 1, by omega, by go_num, HB5.out⟩
         case measure => simp [intOf]; omega
     ·have hqf : decide ((f : Int) < (j : Int)) = false := by simp; omega
      clear hbw
      have hfin := (HM6.out.below (HB9.out.trans (HBf.out.mono HB9.out.size))).base HBd.out zB1
      have HFin := zjp hfin
      clear hfin
      go_wp2_with fail
      go_ret
      exact ⟨rfl, HFin.out⟩
 ·have hd : decide (n ≤ 400) = false := by simpa using hn
  clear hr hn
  go_enter Tryz.func3, Tryz.ntmps3
  go_wp2_with fail
  refine (zgr _).mono ?_; rintro e w1 ⟨rfl, hb1⟩
  go_wp2_with fail
  refine (few_any a n cap _).mono ?_; rintro e w' ⟨rfl, rfl⟩
  go_wp2_with fail
  refine (zgr _).mono ?_; rintro e w2 ⟨rfl, hb2⟩
  go_wp2_with fail
  go_ret
  exact ⟨rfl, hb1.trans (hb2.mono hb1.size)⟩
end Go.Proofs.YtgkaafncfjlooaaGreatDoor
end
section
namespace Go.Proofs.YtgkaafncfjlooaaGreatDoor.admissionKeys
open Go.ChangeShapes Go.WideShapes Go.ChangeAt Go.RowKit Go.Joins
open Go.ChangeMaps (open_string shut_string)
set_option linter.unusedVariables false
theorem own : ownKnob Tryz.prog.godebug = none := by kernel_rfl
theorem laidOut : laidOutB Tryz.prog = true := by kernel_rfl
set_option maxRecDepth 100000 in
theorem lifted (os : Os) (started : os.Started) (H : Type) (enc : TypeId × Value → H) :
    ReturnsInHanded {} Tryz.checked os 3 .any (fun w args => (Rows.admissionKeysSpec.pre enc Tryz.prog Tryz.f3 Rows.admissionKeysRow.domain false w args ∧ laidMetH Tryz.prog Rows.admissionKeysRow.laid w) ∧ sizedMet enc Tryz.prog Tryz.f3 (OpenSpec.ofChange Rows.admissionKeysSpec) false w args) (Rows.admissionKeysSpec.post enc Tryz.prog Tryz.f3 false true false false) := by
  refine returnsInHanded_of_change_and (C := Tryz.checked) (X := fun w _ => laidMetH Tryz.prog Rows.admissionKeysRow.laid w) (fun _ _ _ hh h => h.of_heap hh) own started (by kernel_rfl) Tryz.func3
    (ChangeSpec.witness_shaped (enc := enc) (C := Tryz.checked) (os := os) (X := fun w _ => laidMetH Tryz.prog Rows.admissionKeysRow.laid w) false (World.laidAll Tryz.prog os Rows.admissionKeysRow.laid) #[.slice none 0 0] 8 (World.laidAll_os _ _ _)
      (World.shaped_of_ZipB (by kernel_rfl) (by kernel_rfl)) (by kernel_rfl) (by kernel_rfl) (by kernel_rfl)
      (by rw [MakeChecks.laidMetH_plain _ _ _ (by kernel_rfl)]; exact laidMet_laidAll _ (by kernel_rfl) (by kernel_rfl))) ?_
  intro W base args ds gs before hval0 hW hcnd _ hLaid _
  have hval : ∀ (j : Nat) t v, Tryz.f3.params[j]? = some t → args[j]? = some v → Value.okWide Tryz.prog W .any base t v := hval0
  have hW' := hW
  obtain ⟨p, q, hA0, hV, rfl, hfz, hnd⟩ := hW
  have hA : DataW.TrodAll enc Tryz.prog W 0 (fun _ => true) true Tryz.f3.params.toList args.toList ds p := hA0
  rw [Tryz.params3] at hA hval
  obtain ⟨v0, vs0, d0, ds0, p0, q0, hargs, rfl, rfl, h0, r0⟩ := trodAll_cons hA
  obtain ⟨rfl, rfl, rfl⟩ := trodAll_nil r0
  obtain rfl : args = #[v0] := by cases args; simp_all
  obtain ⟨rfl, rfl⟩ := trodVars_none hV
  obtain ⟨a0, len0, cap0, rfl⟩ := okWide_slice Tryz.underlying22 (hval 0 22 v0 rfl rfl)
  have k0 := h0
  have lt0 : ∀ x ∈ p0, x.block < W.heap.size := by obtain ⟨m, hm⟩ := k0; exact DataW.trod_lt m _ _ _ hm
  obtain ⟨z0, w0⟩ : ∃ zs, IsRow .i64 W a0 len0 cap0 zs := by
    obtain ⟨fuel, hf⟩ := h0
    rcases open_ints Tryz.underlying22 Tryz.underlying3 (by kernel_rfl) hf with ⟨hcs, _⟩ | ⟨x, l, c, zs, hcs, _, hl, hm, hz, _, hcell, hwz⟩
    · simp [Value.cells] at hcs
      obtain ⟨rfl, rfl, rfl⟩ := hcs
      exact ⟨[], .inl ⟨rfl, rfl, rfl, rfl⟩⟩
    · simp [Value.cells] at hcs
      obtain ⟨rfl, rfl, rfl⟩ := hcs
      exact ⟨zs, .inr ⟨_, rfl, hl, hm, by simpa using hz, hcell, hwz⟩⟩
  clear hA0 hval0
  refine (keys_walk a0 len0 cap0 z0 W w0).mono fun e W' ⟨he, bel⟩ => ?_
  subst he
  exact ⟨_, rfl, _, _, _, [], _, [], hW', trodAll_mk1 (shut_bool Tryz.underlying4 _), (trodAll_cons_mk (Below.trod laidOut (by kernel_rfl) (of_decide_eq_true (by kernel_rfl)) k0 bel lt0) trodAll_mk0), rfl, bel.frame _, fun h => by cases h⟩
set_option maxRecDepth 100000 in
set_option maxHeartbeats 100000000 in
theorem over : Rows.admissionKeysRow.holds Tryz.pinned (OpenSpec.ofChange Rows.admissionKeysSpec) :=
 OpenClaim.holds_of_wide 3 Tryz.f3 rfl rfl rfl rfl rfl rfl rfl ⟨rfl, rfl, rfl, rfl, rfl⟩ rfl rfl rfl rfl rfl (by as_aux_lemma => kernel_rfl) Tryz.func3 closed
  (of_decide_eq_true (by as_aux_lemma => kernel_rfl)) (by unfold Func.isWrapper; first | (rw [if_pos (by decide +kernel)]; kernel_rfl) | (rw [if_neg (by decide +kernel)]; exact ⟨rfl, rfl⟩))
  (fun os started H enc _ => lifted os started H enc)
set_option maxRecDepth 100000 in
set_option maxHeartbeats 100000000 in
/-- THE STATEMENT -/
theorem proved : Rows.AdmissionKeysCardSaid :=
  Claim7.holds_tied_plain_at .later [] [.data, .data, .data, .data, .pinned] true (true, "db946e9a8edeec5c864e271e865ef276914d8d5bec4fa080c24e690829a5f5c0") false
    over (fun _ h => by cases h) (by as_aux_lemma => kernel_rfl) (fun _ h => by cases h) admissionKeys_row_tie rfl ⟨rfl, rfl⟩ (by as_aux_lemma => kernel_rfl) rfl
    (fun f fn hf hfn => by
      obtain rfl : f = 3 := Option.some.inj ((show Tryz.prog.funcNamed Rows.admissionKeysRow.func = some 3 by kernel_rfl).symm.trans hf) |>.symm
      obtain rfl : fn = Tryz.f3 := (Option.some.inj (Tryz.func3.symm.trans hfn)).symm
      exact ⟨by kernel_rfl, fun j t ht => by
        rw [Tryz.params3] at ht
        have hm : t ∈ [22] := by simpa using Array.mem_of_getElem? ht
        have hall : ([22].all fun u => !Tryz.prog.wantsStandIn u) = true := by kernel_rfl
        exact (show Tryz.prog.wantsStandIn t = false by simpa using List.all_eq_true.1 hall t hm)⟩)
    (by as_aux_lemma => kernel_rfl)
#print axioms proved
end Go.Proofs.YtgkaafncfjlooaaGreatDoor.admissionKeys
end
