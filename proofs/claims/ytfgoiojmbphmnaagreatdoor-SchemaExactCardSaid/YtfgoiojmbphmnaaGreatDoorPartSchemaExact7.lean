/- Parts of one proof: Bent, RefSchD, RefSchE, RefSchA, RefAddrA, RefAddrB, RefAddrC, RefDateA, DateE, DateD, RefDateB, RefSchB, RefSchC, RefGramB. -/
import Derived.Test.YtfgoiojmbphmnaaGreatDoorPartSchemaExact6
import Derived.Deep.RegionWith
import Derived.Laws.AppendOwnNone
import Derived.Deep.DeepCutAuto
import Derived.Deep.RegionHeld3
section
/- The law of schemas: bent, small; recordlinkmake.Short at one text. -/
set_option linter.unusedSimpArgs false
set_option linter.unusedVariables false
set_option maxRecDepth 100000
namespace Go.Proofs.YtfgoiojmbphmnaaGreatDoor
open Go.RowKit
attribute [local go_sem] toList_mk mk_size str_append
/-- while a schema is bent: the result's block, the block Y of the schema, what it holds -/
structure SMd (D : Nat) (w : World) (Y : Nat) (vf vt vn vs : Value) (s : SchemaL) (wc : World) : Prop where
  z : wc.heap[w.heap.size]? = some (.cells nil4 33 (0, 0))
  y : wc.heap[Y]? = some (.cells #[vf, vt, vn, vs] 33 (0, 0))
  sc : SchemaAt wc (fun b => w.heap.size < b ∧ b ≠ Y) vf vt vn vs s
  few : s.fields.length ≤ 10 ∧ Few3 s.rules 100
  m : Moved D w wc
  lt : w.heap.size < Y
theorem SchemaAt.moved' {D : Nat} {w w' : World} {S : Nat → Prop} {vf vt vn vs : Value} {s : SchemaL} (h : SchemaAt w S vf vt vn vs s) (hS : ∀ b, S b → b ≠ D) (m : Moved D w w') : SchemaAt w' S vf vt vn vs s :=
  ⟨h.1.move m.size fun b hb hs => ⟨m.grown.block b hb (by have := hS b hs; simp; omega), hs⟩, h.2.moved' hS m⟩
theorem SMd.moved {D : Nat} {w wc wd : World} {Y : Nat} {vf vt vn vs : Value} {s : SchemaL} (h : SMd D w Y vf vt vn vs s wc) (m : Moved D wc wd) : SMd D w Y vf vt vn vs s wd := by
  have hD := h.m.lt; have hl := h.lt
  exact ⟨m.blk (by omega) h.z, m.blk (by omega) h.y, h.sc.moved' (fun b hb => by omega) m, h.few, h.m.trans m, h.lt⟩
theorem SMd.setF {D : Nat} {w wA wc : World} {Y : Nat} {vf vt vn vs v : Value} {s : SchemaL} {F : List F2} (h : SMd D w Y vf vt vn vs s wA) (m : Moved D wA wc) (hv : Vec wc (fun b => w.heap.size < b ∧ b ≠ Y) 2 encF v F) (hn : F.length ≤ 10) : SMd D w Y v vt vn vs ⟨F, s.rules⟩ (wc.setCell ⟨Y, 0, none⟩ v) := by
  have h' := h.moved m
  have hl := h.lt
  exact ⟨blk_far h'.z (by show w.heap.size ≠ Y; omega), blk_set h'.y, ⟨hv.set1 (fun b hb => hb.2) _, h'.sc.2.1.set1 (fun b hb => hb.2) _, h'.sc.2.2.1.set1 (fun b hb => hb.2) _, h'.sc.2.2.2.set1 (fun b hb => hb.2) _⟩, ⟨hn, h.few.2⟩, h'.m.set (a := ⟨Y, 0, none⟩) (Nat.le_of_lt hl) _, hl⟩
theorem SMd.setR {D : Nat} {w wA wc : World} {Y : Nat} {vf vt vn vs ut un us : Value} {s : SchemaL} {r : RulesL} (h : SMd D w Y vf vt vn vs s wA) (m : Moved D wA wc) (hv : RulesAt wc (fun b => w.heap.size < b ∧ b ≠ Y) ut un us r) (hn : Few3 r 100) :
    SMd D w Y vf ut un us ⟨s.fields, r⟩ (((wc.setCell ⟨Y, 1, none⟩ ut).setCell ⟨Y, 2, none⟩ un).setCell ⟨Y, 3, none⟩ us) := by
  have h' := h.moved m
  have hl := h.lt
  exact ⟨blk_far (blk_far (blk_far h'.z (by show w.heap.size ≠ Y; omega)) (by show w.heap.size ≠ Y; omega)) (by show w.heap.size ≠ Y; omega), blk_set (i := 3) (blk_set (i := 2) (blk_set (i := 1) h'.y)), ⟨((h'.sc.1.set1 (fun b hb => hb.2) _).set1 (fun b hb => hb.2) _).set1 (fun b hb => hb.2) _, hv.set3 (fun b hb => hb.2) (fun b hb => hb.2) (fun b hb => hb.2) _ _ _⟩, ⟨h.few.1, hn⟩, ((h'.m.set (a := ⟨Y, 1, none⟩) (Nat.le_of_lt hl) _).set (a := ⟨Y, 2, none⟩) (Nat.le_of_lt hl) _).set (a := ⟨Y, 3, none⟩) (Nat.le_of_lt hl) _, hl⟩
theorem Moved.setRow {D g : Nat} {w w1 : World} (h : Moved D w w1) (hg : w.heap.size ≤ g) (cs : Array Value) : Moved D w (w1.setRow g cs) := by
  have := h.lt
  have e : ∀ k, k ≠ g → (w1.setRow g cs).heap[k]? = w1.heap[k]? := fun k hk => setRow_other hk
  refine ⟨⟨h.grown.os, h.grown.tape, h.grown.output, by simpa [World.setRow] using h.grown.size, fun k hk hr => ?_⟩, h.deck.same fun k hk => e k (by omega), this⟩
  rw [e k (by omega)]; exact h.grown.block k hk hr
theorem SchemaAt.setRow' {w : World} {g : Nat} {cs : Array Value} {S S' : Nat → Prop} {vf vt vn vs : Value} {s : SchemaL} (h : SchemaAt w S vf vt vn vs s) (hS : ∀ b, S b → b ≠ g ∧ S' b) : SchemaAt (w.setRow g cs) S' vf vt vn vs s := by
  have hz : w.heap.size ≤ (w.setRow g cs).heap.size := by simp [World.setRow]
  have mv : ∀ b, b < w.heap.size → S b → (w.setRow g cs).heap[b]? = w.heap[b]? ∧ S' b := fun b _ hb => ⟨setRow_other (hS b hb).1, (hS b hb).2⟩
  exact ⟨h.1.move hz mv, h.2.1.move hz mv, h.2.2.1.move hz mv, h.2.2.2.move hz mv⟩
def BentSPost (D : Nat) (w : World) (e : Ending) (w' : World) : Prop := ∃ vf vt vn vs s, e = .returned (.agg #[vf, vt, vn, vs]) ∧ SchemaAt w' (fun b => w.heap.size ≤ b) vf vt vn vs s ∧ (s.fields.length ≤ 10 ∧ Few3 s.rules 100) ∧ Moved D w w'
theorem encF_one : ∀ x : F2, ∀ u ∈ encF x, u.oneCell' = true := by intro x u hu; simp [encF] at hu; rcases hu with rfl | rfl <;> rfl
def pickF : List (List UInt8) := [[102, 97, 109, 105, 108, 121], [], [65], [97, 98, 99, 100, 101, 102, 103, 104, 105, 106, 107, 108, 109], [122, 122]]
set_option maxHeartbeats 8000000 in
theorem sbent_deal (D : Nat) (w : World) (h : DeckAt w D) :
    Calls Tryz.prog 27 #[.pointer (some ⟨D, 0, none⟩)] w (BentSPost D w) := by
  have zD := h.lt
  have M0 := Lib.hid (Moved.start h); clear h
  go_enter Tryz.func27, Tryz.ntmps27
  go_wp2_with fail
  refine (schema_deal D _ (M0.out.alloc _).deck).mono ?_
  rintro e w1 ⟨vf, vt, vn, vs, s, rfl, hS, hSD, mv⟩
  obtain ⟨af, cf, rfl⟩ := hS.1.slice
  obtain ⟨at', ct, rfl⟩ := hS.2.1.slice
  obtain ⟨an, cn, rfl⟩ := hS.2.2.1.slice
  obtain ⟨as', cs, rfl⟩ := hS.2.2.2.slice
  have zw : w.heap.size < w1.heap.size := by have := mv.size; simp at this; omega
  have hF4 := hSD.fields.len
  have hR2 := few_of hSD.rules
  have K0 := Lib.hid (show SMd D w w1.heap.size (.slice af s.fields.length cf) (.slice at' s.rules.titles.length ct) (.slice an s.rules.nicks.length cn) (.slice as' s.rules.streets.length cs) s (w1.alloc (.cells #[.slice af s.fields.length cf, .slice at' s.rules.titles.length ct, .slice an s.rules.nicks.length cn, .slice as' s.rules.streets.length cs] 33)) from
    ⟨blk_old (mv.blk (by omega) (blk_new rfl)), blk_new rfl, by
      have hb : Below w1.heap.size w1 (w1.alloc (.cells #[.slice af s.fields.length cf, .slice at' s.rules.titles.length ct, .slice an s.rules.nicks.length cn, .slice as' s.rules.streets.length cs] 33)) := (Below.refl _ _).alloc (Nat.le_refl _) _
      have mvv : ∀ b, b < w1.heap.size → (w.alloc (.cells nil4 33)).heap.size ≤ b → _ ∧ (w.heap.size < b ∧ b ≠ w1.heap.size) := fun b h1 h2 => ⟨hb.block b h1, by simp at h2; omega, by omega⟩
      exact ⟨hS.1.move hb.size mvv, hS.2.1.move hb.size mvv, hS.2.2.1.move hb.size mvv, hS.2.2.2.move hb.size mvv⟩, ⟨by omega, by have := hR2.t; omega, by have := hR2.n; omega, by have := hR2.s; omega⟩, ((M0.out.alloc _).trans mv).alloc _, zw⟩)
  clear hS mv M0 hSD hR2
  go_wp2_with fail
  refine (next_any D _ 8 K0.out.m.deck (by omega) (by omega)).mono ?_
  rintro e w2 ⟨q, rfl, q0, q1, mv⟩
  have K1 := Lib.hid (K0.out.moved mv)
  clear mv K0
  go_upto_block 0 with (fail)
  go_cut [] (fun wx => ∃ vf vt vn vs s, SMd D w w1.heap.size vf vt vn vs s wx)
  case first =>
    obtain ⟨c0, c1, c2, c3⟩ := cells4 K1.out.y
    have zY := lt_of_blk K1.out.y
    have RL := Vec.reads (k := 2) (enc := encF) (fun _ => rfl) K1.out.sc.1
    by_cases h0 : q = 0
    · subst h0
      go_wp2_with (at_builtin; refine wpList_append_m rfl (.const (.slice none 0 0)) (.tmp 11) 27 rfl D 42 (.agg #[.string ⟨#[]⟩, .int .i64 0]) 2 24 encF (fun _ => rfl) encF_one Tryz.underlying27 infoF rfl (by decide) (by decide) (wA := w2) (v := .slice none 0 0) (A := []) (B := s.fields) rfl (OwnM.nil (Moved.start K1.out.m.deck)) rfl RL (by first | omega | (simp; done) | (simp; omega)) ?_; intro v1 w3 ho1 _; rw [List.nil_append] at ho1)
      refine (pick_new D w3 w3 pickF 5 rfl (by omega) (by omega) (Moved.start ho1.2.deck)).mono ?_
      rintro e w4 ⟨x, rfl, hx, mv⟩
      have HO1 := Lib.hid (ho1.moved mv)
      clear mv hx ho1 c0 c1 c2 c3
      go_wp2_with fail
      refine (next_any D _ 4 HO1.out.2.deck (by omega) (by omega)).mono ?_
      rintro e w6 ⟨y, rfl, y0, y1, mv⟩
      have HO := Lib.hid (HO1.out.moved mv)
      clear mv HO1
      have hr5 := reads_block (w := w6.alloc (.cells #[strV x, .int .i64 (1 + y)] 42)) (g := w6.heap.size) (xs := [strV x, .int .i64 (1 + y)]) (size := 2) (c := 1) (blk_new rfl) rfl
      go_wp2_with (at_builtin; refine wpList_append_m rfl (.tmp 12) (.tmp 20) 27 rfl D 42 (.agg #[.string ⟨#[]⟩, .int .i64 0]) 2 24 encF (fun _ => rfl) encF_one Tryz.underlying27 infoF rfl (by decide) (by decide) (wA := w2) (v := v1) (A := s.fields) (B := [(x, 1 + y)]) rfl (HO.out.below ((Below.refl _ _).alloc (Nat.le_refl _) _)) rfl hr5 (by first | omega | (simp; done) | (simp; omega)) ?_; intro v2 w5 ho4 _; obtain ⟨av2, cv2, rfl⟩ := own_slice ho4.1; rw [List.length_append, List.length_singleton] at ho4; have hy5 := (K1.out.moved ho4.2).y; obtain ⟨c0, c1, c2, c3⟩ := cells4 hy5; have f0 := (frozen_of_row _ _ _ _ _ hy5 : w5.frozen? ⟨w1.heap.size, 0, none⟩ = false); have hlt5 := lt_of_blk hy5; have HO5 := Lib.hid ho4; clear ho4 hy5)
      go_meet
      exact ⟨_, _, _, _, _, K1.out.setF HO5.out.2 ((OwnM.vec (enc := encF) (fun _ => rfl) HO5.out).weaken fun b hb => ⟨by have := K1.out.m.size; have := lt_of_blk K1.out.y; omega, by have := lt_of_blk K1.out.y; omega⟩) (by rw [List.length_append, List.length_singleton]; omega)⟩
    · have e0 : (q == 0) = false := by simpa using h0
      by_cases h1 : q = 1
      · subst h1
        clear h0 e0
        go_wp2_with (at_builtin; refine wpList_append_m rfl (.const (.slice none 0 0)) (.tmp 26) 27 rfl D 42 (.agg #[.string ⟨#[]⟩, .int .i64 0]) 2 24 encF (fun _ => rfl) encF_one Tryz.underlying27 infoF rfl (by decide) (by decide) (wA := w2) (v := .slice none 0 0) (A := []) (B := s.fields) rfl (OwnM.nil (Moved.start K1.out.m.deck)) rfl RL (by first | omega | (simp; done) | (simp; omega)) ?_; intro v1 w3 ho1 _; rw [List.nil_append] at ho1)
        refine (next_any D _ 6 ho1.2.deck (by omega) (by omega)).mono ?_
        rintro e w6 ⟨y, rfl, y0, y1, mv⟩
        have HO := Lib.hid (ho1.moved mv)
        clear mv ho1 c0 c1 c2 c3
        have hr5 := reads_block (w := w6.alloc (.cells #[strV [122, 122], .int .i64 y] 42)) (g := w6.heap.size) (xs := [strV [122, 122], .int .i64 y]) (size := 2) (c := 1) (blk_new rfl) rfl
        go_wp2_with (at_builtin; refine wpList_append_m rfl (.tmp 27) (.tmp 31) 27 rfl D 42 (.agg #[.string ⟨#[]⟩, .int .i64 0]) 2 24 encF (fun _ => rfl) encF_one Tryz.underlying27 infoF rfl (by decide) (by decide) (wA := w2) (v := v1) (A := s.fields) (B := [([122, 122], y)]) rfl (HO.out.below ((Below.refl _ _).alloc (Nat.le_refl _) _)) rfl hr5 (by first | omega | (simp; done) | (simp; omega)) ?_; intro v2 w5 ho4 _; obtain ⟨av2, cv2, rfl⟩ := own_slice ho4.1; rw [List.length_append, List.length_singleton] at ho4; have hy5 := (K1.out.moved ho4.2).y; obtain ⟨c0, c1, c2, c3⟩ := cells4 hy5; have f0 := (frozen_of_row _ _ _ _ _ hy5 : w5.frozen? ⟨w1.heap.size, 0, none⟩ = false); have hlt5 := lt_of_blk hy5; have HO5 := Lib.hid ho4; clear ho4 hy5)
        go_meet
        exact ⟨_, _, _, _, _, K1.out.setF HO5.out.2 ((OwnM.vec (enc := encF) (fun _ => rfl) HO5.out).weaken fun b hb => ⟨by have := K1.out.m.size; have := lt_of_blk K1.out.y; omega, by have := lt_of_blk K1.out.y; omega⟩) (by rw [List.length_append, List.length_singleton]; omega)⟩
      · have e1 : (q == 1) = false := by simpa using h1
        by_cases h2 : q = 2
        · subst h2
          clear h0 h1 e0 e1
          have f0 := (frozen_of_row _ _ _ _ _ K1.out.y : w2.frozen? ⟨w1.heap.size, 0, none⟩ = false)
          go_wp2_with fail
          go_meet
          exact ⟨_, _, _, _, _, K1.out.setF (F := []) (Moved.start K1.out.m.deck) (Vec.nil _ _ _ _) (by simp)⟩
        · have e2 : (q == 2) = false := by simpa using h2
          by_cases h3 : q = 3
          · subst h3
            clear h0 h1 h2 e0 e1 e2
            go_wp2_with fail
            refine (rbent_deal D _ K1.out.m.deck).mono ?_
            rintro e w3 ⟨ut, un, us, r, rfl, hr, hfr, mv⟩
            obtain ⟨bt, dt, rfl⟩ := hr.1.slice
            obtain ⟨bn, dn, rfl⟩ := hr.2.1.slice
            obtain ⟨bs, ds, rfl⟩ := hr.2.2.slice
            have hy3 := (K1.out.moved mv).y
            obtain ⟨c0, c1, c2, c3⟩ := cells4 hy3
            have f1 := (frozen_of_row _ _ _ _ _ hy3 : w3.frozen? ⟨w1.heap.size, 1, none⟩ = false)
            have f2 := (frozen_of_row _ _ _ _ _ hy3 : w3.frozen? ⟨w1.heap.size, 2, none⟩ = false)
            have f3 := (frozen_of_row _ _ _ _ _ hy3 : w3.frozen? ⟨w1.heap.size, 3, none⟩ = false)
            have hlt3 := lt_of_blk hy3
            have HR := Lib.hid hr; have MV := Lib.hid mv; have HFr := Lib.hid hfr
            clear hr mv hfr hy3
            go_wp2_with fail
            go_meet
            exact ⟨_, _, _, _, _, K1.out.setR MV.out (HR.out.weaken fun b hb => ⟨by have := K1.out.m.size; have := lt_of_blk K1.out.y; omega, by have := lt_of_blk K1.out.y; omega⟩) HFr.out⟩
          · have e3 : (q == 3) = false := by simpa using h3
            clear h0 h1 h2 h3
            go_wp2_with fail
            go_meet
            exact ⟨_, _, _, _, _, K1.out⟩
  case rest =>
    obtain ⟨vf, vt, vn, vs, s, hm⟩ := hcut
    obtain ⟨af, cf, rfl⟩ := hm.sc.1.slice
    obtain ⟨at', ct, rfl⟩ := hm.sc.2.1.slice
    obtain ⟨an, cn, rfl⟩ := hm.sc.2.2.1.slice
    obtain ⟨as', cs, rfl⟩ := hm.sc.2.2.2.slice
    have KM := Lib.hid hm
    have ny := (lt_of_blk hm.y)
    obtain ⟨c0, c1, c2, c3⟩ := cells4 hm.y
    clear hm K1
    go_wp2_with (refine wpList_store_row rfl 33 (.tmp 2) (.tmp 42) rfl w.heap.size _ rfl rfl 33 nil4 KM.out.z (by kernel_rfl) (by kernel_rfl) (by kernel_rfl) ?_)
    exact bodyPost_row1 rfl rfl (heap_setRow KM.out.z) Tryz.underlying33 rfl (by kernel_rfl) ⟨_, _, _, _, s, rfl, KM.out.sc.setRow' (fun b hb => ⟨by omega, by show w.heap.size ≤ b; omega⟩), KM.out.few, KM.out.m.setRow (Nat.le_refl _) _⟩
def smallB (s : SchemaL) : Bool := decide (s.fields.length ≤ 20) && decide (s.rules.titles.length ≤ 40) && decide (s.rules.nicks.length ≤ 40) && decide (s.rules.streets.length ≤ 40)
set_option maxHeartbeats 2000000 in
theorem small_any (S : Nat → Prop) (vf vt vn vs : Value) (s : SchemaL) (w : World) (h : SchemaAt w S vf vt vn vs s) :
    Calls Tryz.prog 25 #[.agg #[vf, vt, vn, vs]] w fun e w' => e = .returned (.bool (smallB s)) ∧ Below w.heap.size w w' := by
  obtain ⟨af, cf, rfl⟩ := h.1.slice
  obtain ⟨at', ct, rfl⟩ := h.2.1.slice
  obtain ⟨an, cn, rfl⟩ := h.2.2.1.slice
  obtain ⟨as', cs, rfl⟩ := h.2.2.2.slice
  have HF := Lib.hid (show ∀ b, smallB s = b → Ending.returned (.bool b) = .returned (.bool (smallB s)) from fun b h => by rw [h])
  have HE := Lib.hid (show smallB s = (decide (s.fields.length ≤ 20) && decide (s.rules.titles.length ≤ 40) && decide (s.rules.nicks.length ≤ 40) && decide (s.rules.streets.length ≤ 40)) from rfl)
  clear h
  by_cases h1 : s.fields.length ≤ 20
  · have d1 : decide ((s.fields.length : Int) ≤ 20) = true := by simp; omega
    by_cases h2 : s.rules.titles.length ≤ 40
    · have d2 : decide ((s.rules.titles.length : Int) ≤ 40) = true := by simp; omega
      by_cases h3 : s.rules.nicks.length ≤ 40
      · have d3 : decide ((s.rules.nicks.length : Int) ≤ 40) = true := by simp; omega
        by_cases h4 : s.rules.streets.length ≤ 40
        · have d4 : decide ((s.rules.streets.length : Int) ≤ 40) = true := by simp; omega
          have HB := Lib.hid (show smallB s = true by rw [HE.out]; simp [h1, h2, h3, h4])
          go_enter Tryz.func25, Tryz.ntmps25
          go_wp2_with fail
          go_ret
          exact ⟨HF.out _ HB.out, (Below.refl _ _).alloc (Nat.le_refl _) _⟩
        · have d4 : decide ((s.rules.streets.length : Int) ≤ 40) = false := by simp; omega
          have HB := Lib.hid (show smallB s = false by rw [HE.out]; simp [h4])
          go_enter Tryz.func25, Tryz.ntmps25
          go_wp2_with fail
          go_ret
          exact ⟨HF.out _ HB.out, (Below.refl _ _).alloc (Nat.le_refl _) _⟩
      · have d3 : decide ((s.rules.nicks.length : Int) ≤ 40) = false := by simp; omega
        have HB := Lib.hid (show smallB s = false by rw [HE.out]; simp [h3])
        go_enter Tryz.func25, Tryz.ntmps25
        go_wp2_with fail
        go_ret
        exact ⟨HF.out _ HB.out, (Below.refl _ _).alloc (Nat.le_refl _) _⟩
    · have d2 : decide ((s.rules.titles.length : Int) ≤ 40) = false := by simp; omega
      have HB := Lib.hid (show smallB s = false by rw [HE.out]; simp [h2])
      go_enter Tryz.func25, Tryz.ntmps25
      go_wp2_with fail
      go_ret
      exact ⟨HF.out _ HB.out, (Below.refl _ _).alloc (Nat.le_refl _) _⟩
  · have d1 : decide ((s.fields.length : Int) ≤ 20) = false := by simp; omega
    have HB := Lib.hid (show smallB s = false by rw [HE.out]; simp [h1])
    go_enter Tryz.func25, Tryz.ntmps25
    go_wp2_with fail
    go_ret
    exact ⟨HF.out _ HB.out, (Below.refl _ _).alloc (Nat.le_refl _) _⟩
set_option maxHeartbeats 2000000 in
theorem mshort_any (S : Nat → Prop) (v : Value) (L : List (List UInt8)) (w : World) (h : Vec w S 1 encS v L) (hn : L.length ≤ 1000000) :
    Calls Tryz.prog 26 #[v] w fun e w' => e = .returned (.bool (L.all fun x => decide (x.length ≤ 200))) ∧ Below w.heap.size w w' := by
  obtain ⟨a, cap, rfl⟩ := h.slice
  have HV := Lib.hid h
  have HF := Lib.hid (show ∀ b, (L.all fun x => decide (x.length ≤ 200)) = b → Ending.returned (.bool b) = .returned (.bool (L.all fun x => decide (x.length ≤ 200))) from fun b h => by rw [h])
  clear h
  go_enter Tryz.func26, Tryz.ntmps26
  go_wp2_with fail
  go_loopw [3] (fun i wr => ∃ k : Nat, k ≤ L.length ∧ i = .int .i64 k ∧ Below w.heap.size w wr ∧ Hid (∀ j, j < k → (L.getD j []).length ≤ 200)) (fun i _ => L.length - (intOf i).toNat)
  case atStart => exact ⟨0, by omega, rfl, Below.refl _ _, Lib.hid fun j hj => by omega⟩
  case round =>
    obtain ⟨k, hk, rfl, hbw, HA⟩ := hrel
    have HW := Lib.hid hbw
    by_cases hlt : k < L.length
    · have hq : decide ((k : Int) < L.length) = true := by simp; omega
      have hi : (k : Int) < (L.length : Int) := by omega
      obtain ⟨b, off, rfl, _, hb, hc⟩ := vec_cell1 HV.out (by omega)
      have c0 := (hbw.cell (p := ⟨b, off + k, none⟩) hb).trans (hc k hlt)
      obtain ⟨x, hx⟩ : ∃ x, L.getD k [] = x := ⟨_, rfl⟩
      rw [hx] at c0
      have HX := Lib.hid hx
      clear hbw hc hx
      by_cases hxl : x.length ≤ 200
      · have d : decide ((200 : Int) < x.length) = false := by simp; omega
        go_wp2_with fail
        go_roundw
        case rel => exact ⟨k + 1, by omega, by go_num, HW.out, Lib.hid fun j hj => by
          by_cases e : j = k
          · subst e; rw [HX.out]; exact hxl
          · exact HA.out j (by omega)⟩
        case measure => simp [intOf]; omega
      · have d : decide ((200 : Int) < x.length) = true := by simp; omega
        have HE := Lib.hid (show (L.all fun x => decide (x.length ≤ 200)) = false by
          rw [List.all_eq_false]
          exact ⟨x, by rw [← HX.out, List.getD, List.getElem?_eq_getElem hlt]; exact List.getElem_mem hlt, by simpa using hxl⟩)
        go_wp2_with fail
        go_ret
        exact ⟨HF.out _ HE.out, HW.out⟩
    · have hq : decide ((k : Int) < L.length) = false := by simp; omega
      have HE := Lib.hid (show (L.all fun x => decide (x.length ≤ 200)) = true by
        rw [List.all_eq_true]
        intro x hx
        obtain ⟨j, hj, rfl⟩ := List.mem_iff_getElem.1 hx
        have := HA.out j (by omega)
        rw [List.getD, List.getElem?_eq_getElem hj] at this
        simpa using this)
      clear hbw
      go_wp2_with fail
      go_ret
      exact ⟨HF.out _ HE.out, HW.out⟩
end Go.Proofs.YtfgoiojmbphmnaaGreatDoor
end
section
/- The reference of layer 12 (schema): samePairs, Same. -/
set_option linter.unusedSimpArgs false
set_option linter.unusedVariables false
set_option maxRecDepth 100000
namespace Go.Proofs.YtfgoiojmbphmnaaGreatDoor
open Go.RowKit
attribute [local go_sem] toList_mk mk_size
theorem list_extD {α : Type} [Inhabited α] {A B : List α} (hl : A.length = B.length) (h : ∀ j, j < A.length → A.getD j default = B.getD j default) : A = B := by
  refine List.ext_getElem hl fun j h1 h2 => ?_
  have := h j h1
  rwa [List.getD, List.getD, List.getElem?_eq_getElem h1, List.getElem?_eq_getElem h2] at this
set_option maxHeartbeats 1000000 in
theorem rsamepairs_any (S T : Nat → Prop) (va vb : Value) (A B : List P2) (w : World) (hA : Vec w S 2 encP va A) (hB : Vec w T 2 encP vb B) (hn : A.length ≤ 1000000) (hm : B.length ≤ 1000000) :
    Calls Tryz.prog 77 #[va, vb] w fun e w' => e = .returned (.bool (A == B)) ∧ Below w.heap.size w w' := by
  obtain ⟨aa, ca, rfl⟩ := hA.slice
  obtain ⟨ab, cb, rfl⟩ := hB.slice
  have HA := Lib.hid hA; have HB := Lib.hid hB
  clear hA hB
  by_cases hl : A.length = B.length
  · have hq0 : ((A.length : Int) != (B.length : Int)) = false := by rw [hl]; simp
    have hq1 : (A.length != B.length) = false := by rw [hl]; simp
    have HL := Lib.hid hl
    have hl2 : A.length ≤ B.length := by omega
    clear hl
    go_enter Tryz.func77, Tryz.ntmps77
    go_wp2_with fail
    clear hq0 hq1
    go_loopw [5] (fun i wr => ∃ k : Nat, k ≤ A.length ∧ i = .int .i64 k ∧ Below w.heap.size w wr ∧ Hid (∀ j, j < k → A.getD j default = B.getD j default)) (fun i _ => A.length - (intOf i).toNat)
    case atStart => exact ⟨0, by omega, rfl, Below.refl _ _, Lib.hid fun j hj => by omega⟩
    case round =>
      obtain ⟨k, hk, rfl, hbw, HE⟩ := hrel
      have HW := Lib.hid hbw
      by_cases hlt : k < A.length
      · have hq : decide ((k : Int) < A.length) = true := by simp; omega
        have hi1 : (k : Int) < (A.length : Int) := by omega
        have hi2 : (k : Int) < (B.length : Int) := by omega
        obtain ⟨b1, o1, rfl, _, hb1, hc1⟩ := vec_cell2 HA.out (by omega)
        obtain ⟨b2, o2, rfl, _, hb2, hc2⟩ := vec_cell2 HB.out (by omega)
        have hd1 := hc1 k hlt
        have hd2 := hc2 k (by omega)
        obtain ⟨⟨x1, x2⟩, hx⟩ : ∃ x, A.getD k default = x := ⟨_, rfl⟩
        obtain ⟨⟨y1, y2⟩, hy⟩ : ∃ y, B.getD k default = y := ⟨_, rfl⟩
        rw [hx] at hd1
        rw [hy] at hd2
        have c1 := (hbw.cell (p := ⟨b1, o1 + k * 2, none⟩) hb1).trans (hd1 0 _ rfl)
        have c2 := (hbw.cell (p := ⟨b1, o1 + k * 2 + 1, none⟩) hb1).trans (hd1 1 _ rfl)
        have c3 := (hbw.cell (p := ⟨b2, o2 + k * 2, none⟩) hb2).trans (hd2 0 _ rfl)
        have c4 := (hbw.cell (p := ⟨b2, o2 + k * 2 + 1, none⟩) hb2).trans (hd2 1 _ rfl)
        have HX := Lib.hid hx; have HY := Lib.hid hy
        clear hc1 hc2 hx hy hbw hd1 hd2
        by_cases he : x1 = y1
        · subst he
          by_cases he2 : x2 = y2
          · subst he2
            go_wp2_with fail
            go_quiet (fail)
            go_wp2_with fail
            go_roundw
            case rel => exact ⟨k + 1, by omega, by go_num, below_drewN HW.out _, Lib.hid fun j hj => by
              by_cases e : j = k
              · subst e; rw [HX.out, HY.out]
              · exact HE.out j (by omega)⟩
            case measure => simp [intOf]; try omega
          · have hne : (x2 != y2) = true := by simpa using he2
            have hne2 : (x2 == y2) = false := by simpa using he2
            have HNe := Lib.hid he2
            clear he2
            go_wp2_with fail
            go_quiet (fail)
            go_wp2_with fail
            go_ret
            refine ⟨ret_bool ?_, below_drewN HW.out _⟩
            have : A ≠ B := fun e => HNe.out (by have := HX.out.symm.trans ((congrArg (fun L => L.getD k default) e).trans HY.out); exact congrArg Prod.snd this)
            simpa using this
        · have hne : (x1 != y1) = true := by simpa using he
          have hne2 : (x1 == y1) = false := by simpa using he
          have HNe := Lib.hid he
          clear he
          go_wp2_with fail
          go_quiet (fail)
          go_wp2_with fail
          go_ret
          refine ⟨ret_bool ?_, below_drewN HW.out _⟩
          have : A ≠ B := fun e => HNe.out (by have := HX.out.symm.trans ((congrArg (fun L => L.getD k default) e).trans HY.out); exact congrArg Prod.fst this)
          simpa using this
      · have hq : decide ((k : Int) < A.length) = false := by simp; omega
        go_wp2_with fail
        go_ret
        refine ⟨ret_bool ?_, HW.out⟩
        have : A = B := list_extD HL.out fun j hj => HE.out j (by omega)
        rw [this]; simp
  · have hq0 : ((A.length : Int) != (B.length : Int)) = true := by simp; omega
    have hq1 : (A.length != B.length) = true := by simp; omega
    have HN := Lib.hid hl; clear hl
    go_enter Tryz.func77, Tryz.ntmps77
    go_wp2_with fail
    go_ret
    refine ⟨ret_bool ?_, Below.refl _ _⟩
    have : A ≠ B := fun e => HN.out (by rw [e])
    simpa using this
end Go.Proofs.YtfgoiojmbphmnaaGreatDoor
end
section
/- The reference of layer 12 (schema): Same. -/
set_option linter.unusedSimpArgs false
set_option linter.unusedVariables false
set_option maxRecDepth 100000
namespace Go.Proofs.YtfgoiojmbphmnaaGreatDoor
open Go.RowKit
attribute [local go_sem] toList_mk mk_size
/-- the lists of two schemas are the same -/
def sameS (a b : SchemaL) : Bool := a.fields == b.fields && a.rules.titles == b.rules.titles && a.rules.nicks == b.rules.nicks && a.rules.streets == b.rules.streets
structure Few4 (s : SchemaL) : Prop where
  f : s.fields.length ≤ 1000000
  t : s.rules.titles.length ≤ 1000000
  n : s.rules.nicks.length ≤ 1000000
  s : s.rules.streets.length ≤ 1000000
set_option maxHeartbeats 4000000 in
theorem rsames_any (S T : Nat → Prop) (vf vt vn vs uf ut un us : Value) (a b : SchemaL) (w : World) (hA : SchemaAt w S vf vt vn vs a) (hB : SchemaAt w T uf ut un us b) (ha : Few4 a) (hb : Few4 b) :
    Calls Tryz.prog 38 #[.agg #[vf, vt, vn, vs], .agg #[uf, ut, un, us]] w fun e w' => e = .returned (.bool (sameS a b)) ∧ Below w.heap.size w w' := by
  obtain ⟨F, ⟨Ti, N, R⟩⟩ := a
  obtain ⟨G, ⟨Ui, M, Q⟩⟩ := b
  obtain ⟨a1, a2, a3, a4⟩ := hA
  obtain ⟨b1, b2, b3, b4⟩ := hB
  obtain ⟨k1, k2, k3, k4⟩ := ha
  obtain ⟨m1, m2, m3, m4⟩ := hb
  dsimp only at *
  obtain ⟨af, cf, rfl⟩ := a1.slice
  obtain ⟨ag, cg, rfl⟩ := b1.slice
  have A1 := Lib.hid a1; have A2 := Lib.hid a2; have A3 := Lib.hid a3; have A4 := Lib.hid a4
  have B1 := Lib.hid b1; have B2 := Lib.hid b2; have B3 := Lib.hid b3; have B4 := Lib.hid b4
  have HF := Lib.hid (show ∀ n : Bool, sameS ⟨F, ⟨Ti, N, R⟩⟩ ⟨G, ⟨Ui, M, Q⟩⟩ = n → Ending.returned (.bool n) = .returned (.bool (sameS ⟨F, ⟨Ti, N, R⟩⟩ ⟨G, ⟨Ui, M, Q⟩⟩)) from fun n h => by rw [h])
  have HB0 := Lib.hid (((Below.refl w.heap.size w).alloc (Nat.le_refl _) (.cells #[.slice af F.length cf, vt, vn, vs] 33)).alloc (by simp) (.cells #[.slice ag G.length cg, ut, un, us] 33))
  clear a1 a2 a3 a4 b1 b2 b3 b4
  by_cases hl : F.length = G.length
  · have hq0 : ((F.length : Int) != (G.length : Int)) = false := by rw [hl]; simp
    have hq1 : (F.length != G.length) = false := by rw [hl]; simp
    have HL := Lib.hid hl
    have hl2 : F.length ≤ G.length := by omega
    clear hl
    go_enter Tryz.func38, Tryz.ntmps38
    go_wp2_with fail
    clear hq0 hq1
    refine (rsame_any S T vt ut Ti Ui _ (A2.out.below HB0.out) (B2.out.below HB0.out) k2 m2).mono ?_
    obtain ⟨q, hq⟩ : ∃ q, (Ti == Ui) = q := ⟨_, rfl⟩
    rw [hq]
    have HQ := Lib.hid hq; clear hq
    rintro e w1 ⟨rfl, hb1⟩
    have X1 := blk_below (b := w.heap.size) (o := .cells #[.slice af F.length cf, vt, vn, vs] 33 (0, 0)) hb1 (by simp; omega) (blk_old (blk_new rfl))
    have X2 := blk_below (b := w.heap.size + 1) (o := .cells #[.slice ag G.length cg, ut, un, us] 33 (0, 0)) hb1 (by simp) (blk_new (by simp))
    have HBZ := Lib.hid (HB0.out.trans (hb1.mono HB0.out.size))
    obtain ⟨p0, p1, p2, p3⟩ := cells4 X1
    obtain ⟨r0, r1, r2, r3⟩ := cells4 X2
    have z1 := lt_of_blk X1; have z2 := lt_of_blk X2
    have HX1 := Lib.hid X1; have HX2 := Lib.hid X2
    clear hb1 X1 X2
    cases q
    · go_wp2_with fail
      go_ret
      exact ⟨HF.out _ (by unfold sameS; dsimp only; rw [HQ.out]; simp), HBZ.out⟩
    · go_wp2_with fail
      clear p0 p1 p2 p3 r0 r1 r2 r3
      go_loopw [5] (fun i wr => ∃ k : Nat, k ≤ F.length ∧ i = .int .i64 k ∧ Below w1.heap.size w1 wr ∧ Hid (∀ j, j < k → F.getD j default = G.getD j default)) (fun i _ => F.length - (intOf i).toNat)
      case atStart => exact ⟨0, by omega, rfl, Below.refl _ _, Lib.hid fun j hj => by omega⟩
      case round =>
        obtain ⟨k, hk, rfl, hbw, HE⟩ := hrel
        have HW := Lib.hid hbw
        obtain ⟨p0, p1, p2, p3⟩ := cells4 (blk_below hbw z1 HX1.out)
        obtain ⟨r0, r1, r2, r3⟩ := cells4 (blk_below hbw z2 HX2.out)
        have zr := hbw.size
        have z1r : w.heap.size < wr.heap.size := by omega
        have z2r : w.heap.size + 1 < wr.heap.size := by omega
        have HBR := Lib.hid (HBZ.out.trans (hbw.mono HBZ.out.size))
        by_cases hlt : k < F.length
        · have hq : decide ((k : Int) < F.length) = true := by simp; omega
          have hi1 : (k : Int) < (F.length : Int) := by omega
          have hi2 : (k : Int) < (G.length : Int) := by omega
          obtain ⟨b1, o1, rfl, _, hb1, hc1⟩ := vec_cell2 A1.out (by omega)
          obtain ⟨b2, o2, rfl, _, hb2, hc2⟩ := vec_cell2 B1.out (by omega)
          have hd1 := hc1 k hlt
          have hd2 := hc2 k (by omega)
          obtain ⟨⟨x1, x2⟩, hx⟩ : ∃ x, F.getD k default = x := ⟨_, rfl⟩
          obtain ⟨⟨y1, y2⟩, hy⟩ : ∃ y, G.getD k default = y := ⟨_, rfl⟩
          rw [hx] at hd1
          rw [hy] at hd2
          have c1 := (HBR.out.cell (p := ⟨b1, o1 + k * 2, none⟩) hb1).trans (hd1 0 _ rfl)
          have c2 := (HBR.out.cell (p := ⟨b1, o1 + k * 2 + 1, none⟩) hb1).trans (hd1 1 _ rfl)
          have c3 := (HBR.out.cell (p := ⟨b2, o2 + k * 2, none⟩) hb2).trans (hd2 0 _ rfl)
          have c4 := (HBR.out.cell (p := ⟨b2, o2 + k * 2 + 1, none⟩) hb2).trans (hd2 1 _ rfl)
          have HX := Lib.hid hx; have HY := Lib.hid hy
          clear hc1 hc2 hx hy hbw hd1 hd2
          by_cases he : x1 = y1
          · subst he
            by_cases he2 : x2 = y2
            · subst he2
              go_wp2_with fail
              go_quiet (fail)
              go_wp2_with fail
              go_roundw
              case rel => exact ⟨k + 1, by omega, by go_num, below_drewN HW.out _, Lib.hid fun j hj => by
                by_cases e : j = k
                · subst e; rw [HX.out, HY.out]
                · exact HE.out j (by omega)⟩
              case measure => simp [intOf]; try omega
            · have hne : (x2 != y2) = true := by simpa using he2
              have hne2 : (x2 == y2) = false := by simpa using he2
              have HNe := Lib.hid he2
              clear he2
              go_wp2_with fail
              go_quiet (fail)
              go_wp2_with fail
              go_ret
              refine ⟨HF.out _ ?_, below_drewN HBR.out _⟩
              have : F ≠ G := fun e => HNe.out (by have := HX.out.symm.trans ((congrArg (fun L => L.getD k default) e).trans HY.out); exact congrArg Prod.snd this)
              unfold sameS; dsimp only; rw [beq_false_of_ne this]; rfl
          · have hne : (x1 != y1) = true := by simpa using he
            have hne2 : (x1 == y1) = false := by simpa using he
            have HNe := Lib.hid he
            clear he
            go_wp2_with fail
            go_quiet (fail)
            go_wp2_with fail
            go_ret
            refine ⟨HF.out _ ?_, below_drewN HBR.out _⟩
            have : F ≠ G := fun e => HNe.out (by have := HX.out.symm.trans ((congrArg (fun L => L.getD k default) e).trans HY.out); exact congrArg Prod.fst this)
            unfold sameS; dsimp only; rw [beq_false_of_ne this]; rfl
        · have hq : decide ((k : Int) < F.length) = false := by simp; omega
          have HFG := Lib.hid (show F = G from list_extD HL.out fun j hj => HE.out j (by omega))
          clear hbw
          go_wp2_with fail
          refine (rsamepairs_any S T vn un N M _ (A3.out.below HBR.out) (B3.out.below HBR.out) k3 m3).mono ?_
          obtain ⟨q, hq⟩ : ∃ q, (N == M) = q := ⟨_, rfl⟩
          rw [hq]
          have HN := Lib.hid hq; clear hq
          rintro e w2 ⟨rfl, hb2⟩
          have HBS := Lib.hid (HBR.out.trans (hb2.mono HBR.out.size))
          obtain ⟨p0, p1, p2, p3⟩ := cells4 (blk_below hb2 z1r (blk_below HW.out z1 HX1.out))
          obtain ⟨r0, r1, r2, r3⟩ := cells4 (blk_below hb2 z2r (blk_below HW.out z2 HX2.out))
          have zs := hb2.size
          clear hb2
          cases q
          · go_wp2_with fail
            go_ret
            exact ⟨HF.out _ (by unfold sameS; dsimp only; rw [HN.out]; simp), HBS.out⟩
          · go_wp2_with fail
            refine (rsamepairs_any S T vs us R Q _ (A4.out.below HBS.out) (B4.out.below HBS.out) k4 m4).mono ?_
            rintro e w3 ⟨rfl, hb3⟩
            have HBT := Lib.hid (HBS.out.trans (hb3.mono HBS.out.size))
            clear hb3
            go_wp2_with fail
            go_ret
            exact ⟨HF.out _ (by unfold sameS; dsimp only; rw [HN.out, HQ.out, HFG.out]; simp), HBT.out⟩
  · have hq0 : ((F.length : Int) != (G.length : Int)) = true := by simp; omega
    have hq1 : (F.length != G.length) = true := by simp; omega
    have HN := Lib.hid hl; clear hl
    go_enter Tryz.func38, Tryz.ntmps38
    go_wp2_with fail
    go_ret
    refine ⟨HF.out _ ?_, HB0.out⟩
    have : F ≠ G := fun e => HN.out (by rw [e])
    unfold sameS; dsimp only; rw [beq_false_of_ne this]; rfl
end Go.Proofs.YtfgoiojmbphmnaaGreatDoor
end
section
/- The reference of layer 12 (schema): Word, Check. -/
set_option linter.unusedSimpArgs false
set_option linter.unusedVariables false
set_option maxRecDepth 100000
namespace Go.Proofs.YtfgoiojmbphmnaaGreatDoor
open Go.RowKit
attribute [local go_sem] toList_mk mk_size bytes_append
set_option maxHeartbeats 400000 in
theorem rword_any (l : List UInt8) (w : World) :
    Calls Tryz.prog 40 #[strV l] w fun e w' => e = .returned (.bool (wordB l)) ∧ w = w' := by
  unfold wordB
  by_cases h0 : l = []
  · subst h0
    go_enter Tryz.func40, Tryz.ntmps40
    go_wp2
    go_ret
    exact ⟨rfl, rfl⟩
  · have h1 : l.isEmpty = false := by simpa using h0
    have h2 : (l == []) = false := by simpa using h0
    have h2' : (l != []) = true := by simpa using h0
    rw [h1]
    by_cases h3 : l.length ≤ 12
    · have h4 : decide (l.length ≤ 12) = true := by simpa using h3
      have h5 : decide ((l.length : Int) ≤ 12) = true := by simp; omega
      rw [h4]
      clear h0 h4
      go_enter Tryz.func40, Tryz.ntmps40
      go_wp2_with fail
      refine (rletters_any ⟨l.toArray⟩ _ (by rw [mk_size]; omega)).mono ?_
      rw [show (⟨l.toArray⟩ : ByteArray).data.toList = l by simp]
      rintro e w1 ⟨rfl, rfl⟩
      go_wp2_with fail
      go_ret
      exact ⟨rfl, rfl⟩
    · have h4 : decide (l.length ≤ 12) = false := by simpa using h3
      have h5 : decide ((l.length : Int) ≤ 12) = false := by simp; omega
      rw [h4]
      clear h0 h4
      go_enter Tryz.func40, Tryz.ntmps40
      go_wp2_with fail
      go_ret
      exact ⟨rfl, rfl⟩
theorem any_take_true {F : List F2} {k j : Nat} {nm : List UInt8} (hj : j < k) (hk : k ≤ F.length) (h : ((F.getD j default).1 == nm) = true) :
    (F.take k).any (fun y => y.1 == nm) = true := by
  rw [List.any_eq_true]
  refine ⟨F.getD j default, ?_, h⟩
  have h1 : j < F.length := by omega
  rw [List.mem_take_iff_getElem]
  exact ⟨j, by omega, by simp [List.getD, List.getElem?_eq_getElem h1]⟩
theorem any_take_false {F : List F2} {k : Nat} {nm : List UInt8} (h : ∀ j, j < k → ((F.getD j default).1 == nm) = false) :
    (F.take k).any (fun y => y.1 == nm) = false := by
  rw [List.any_eq_false]
  intro x hx
  obtain ⟨j, hj, rfl⟩ := List.mem_take_iff_getElem.1 hx
  have h1 : j < F.length := by omega
  have := h j (by omega)
  simp [List.getD, List.getElem?_eq_getElem h1] at this
  simpa using this
set_option maxHeartbeats 4000000 in
theorem rscheck_any (S : Nat → Prop) (vf vt vn vs : Value) (s : SchemaL) (w : World) (h : SchemaAt w S vf vt vn vs s) :
    Calls Tryz.prog 29 #[.agg #[vf, vt, vn, vs]] w fun e w' => e = .returned (.int .i64 (checkS s)) ∧ Below w.heap.size w w' := by
  obtain ⟨F, r⟩ := s
  obtain ⟨h1, h2⟩ := h
  dsimp only at h1 h2
  obtain ⟨af, cf, rfl⟩ := h1.slice
  have H1 := Lib.hid h1.any; have H2 := Lib.hid h2.any
  clear h1 h2
  have hfin : ∀ n : Int, checkS ⟨F, r⟩ = n → Ending.returned (.int .i64 n) = .returned (.int .i64 (checkS ⟨F, r⟩)) := fun n h => by rw [h]
  have HF := Lib.hid hfin; clear hfin
  by_cases g1 : F.length < 1
  · have d1 : decide ((F.length : Int) < 1) = true := by simp; omega
    go_enter Tryz.func29, Tryz.ntmps29
    go_wp2_with fail
    go_ret
    exact ⟨HF.out 6 (by unfold checkS; rw [if_pos (.inl g1)]), (Below.refl _ _).alloc (Nat.le_refl _) _⟩
  · have d1 : decide ((F.length : Int) < 1) = false := by simp; omega
    by_cases g2 : 5 < F.length
    · have d2 : decide ((5 : Int) < F.length) = true := by simp; omega
      go_enter Tryz.func29, Tryz.ntmps29
      go_wp2_with fail
      go_ret
      exact ⟨HF.out 6 (by unfold checkS; rw [if_pos (.inr g2)]), (Below.refl _ _).alloc (Nat.le_refl _) _⟩
    · have d2 : decide ((5 : Int) < F.length) = false := by simp; omega
      have HN := Lib.hid (show ¬ (F.length < 1 ∨ 5 < F.length) by omega)
      obtain ⟨b, off, rfl, _, hb, hc⟩ := vec_cell2 H1.out (by omega)
      have HC := Lib.hid hc; clear hc
      go_enter Tryz.func29, Tryz.ntmps29
      go_wp2_with fail
      clear d1 d2
      go_loopw [3] (fun i wr => ∃ k : Nat, k ≤ F.length ∧ i = .int .i64 k ∧ wr.heap[w.heap.size]? = some (.cells #[.slice (some ⟨b, off, none⟩) F.length cf, vt, vn, vs] 33 (0, 0)) ∧ Below w.heap.size w wr ∧ ∀ j, j < k → fieldAtB F j = true) (fun i _ => F.length - (intOf i).toNat)
      case atStart => exact ⟨0, by omega, rfl, blk_new rfl, (Below.refl _ _).alloc (Nat.le_refl _) _, fun j hj => by omega⟩
      case round =>
        obtain ⟨k, hk, rfl, hX, hbw, ha⟩ := hrel
        have HA := Lib.hid ha; clear ha
        obtain ⟨p0, p1, p2, p3⟩ := cells4 hX
        have zX := lt_of_blk hX
        have HX := Lib.hid hX; clear hX
        have HW := Lib.hid hbw
        by_cases hlt : k < F.length
        · obtain ⟨wu, rfl⟩ : ∃ wu : World, wu = wr := ⟨_, rfl⟩
          have hq : decide ((k : Int) < F.length) = true := by simp; omega
          have hi : (k : Int) < (F.length : Int) := by omega
          obtain ⟨x, hx⟩ : ∃ x, F.getD k default = x := ⟨_, rfl⟩
          have hc := HC.out k hlt
          rw [hx] at hc
          have c0 : wu.cell? ⟨b, off + k * 2, none⟩ = some (strV x.1) := (hbw.cell (p := ⟨b, off + k * 2, none⟩) hb).trans (hc 0 _ rfl)
          have c1 : wu.cell? ⟨b, off + k * 2 + 1, none⟩ = some (.int .i64 x.2) := (hbw.cell (p := ⟨b, off + k * 2 + 1, none⟩) hb).trans (hc 1 _ rfl)
          have hfa : fieldAtB F k = (wordB x.1 && !((F.take k).any fun y => y.1 == x.1) && decide (1 ≤ x.2) && decide (x.2 ≤ 4)) := by simp only [fieldAtB]; rw [hx]
          have HFa := Lib.hid hfa
          obtain ⟨nm, kd⟩ := x
          dsimp only at c0 c1 HFa
          clear hx hc hbw hfa
          have hYF : ∀ x : Bool, fieldAtB F k = false → Ending.returned (.int .i64 6) = Ending.returned (.int .i64 (checkS ⟨F, r⟩)) := fun _ hf => HF.out 6 (by unfold checkS; rw [if_neg HN.out, if_neg (by rw [fieldsB, all_false hlt hf]; simp)])
          have HYF := Lib.hid (hYF true); clear hYF
          go_wp2_with fail
          refine (rword_any nm _).mono ?_
          obtain ⟨wb, hwb⟩ : ∃ wb, wordB nm = wb := ⟨_, rfl⟩
          rw [hwb] at HFa ⊢
          clear hwb
          rintro e w3 ⟨rfl, rfl⟩
          cases wb
          · have HFa := Lib.hid (show fieldAtB F k = false by rw [HFa.out]; rfl)
            go_wp2_with fail
            go_ret
            exact ⟨HYF.out HFa.out, HW.out.alloc HW.out.size _⟩
          · by_cases k1 : 1 ≤ kd
            · have k1' : decide (kd < 1) = false := by simp; omega
              by_cases k4 : kd ≤ 4
              · have k4' : decide (4 < kd) = false := by simp; omega
                have HFa := Lib.hid (show fieldAtB F k = !((F.take k).any fun y => y.1 == nm) by rw [HFa.out]; simp [k1, k4])
                go_wp2_with fail
                go_loopw [5] (fun i wr => ∃ j : Nat, j ≤ k ∧ i = .int .i64 j ∧ wr.heap[w.heap.size]? = some (.cells #[.slice (some ⟨b, off, none⟩) F.length cf, vt, vn, vs] 33 (0, 0)) ∧ wr.heap[wu.heap.size]? = some (.cells #[strV nm, .int .i64 kd] 42 (0, 0)) ∧ Below w.heap.size w wr ∧ ∀ m, m < j → ((F.getD m default).1 == nm) = false) (fun i _ => k - (intOf i).toNat)
                case atStart => exact ⟨0, by omega, rfl, blk_old HX.out, blk_new rfl, HW.out.alloc HW.out.size _, fun m hm => by omega⟩
                case round =>
                  obtain ⟨j, hj, rfl, hX, hY2, hbi, ha⟩ := hrel
                  have HAi := Lib.hid ha; clear ha
                  obtain ⟨p0, p1, p2, p3⟩ := cells4 hX
                  have q0 : wr.cell? ⟨wu.heap.size, 0, none⟩ = some (strV nm) := by rw [cell_of_row _ _ _ _ _ _ hY2]; rfl
                  have zXi := lt_of_blk hX; have zYi := lt_of_blk hY2
                  have HXi := Lib.hid hX; have HYi := Lib.hid hY2; have HWi := Lib.hid hbi
                  clear hX hY2
                  by_cases hjk : j < k
                  · have hqj : decide ((j : Int) < k) = true := by simp; omega
                    have hij : (j : Int) < (F.length : Int) := by omega
                    obtain ⟨y, hy⟩ : ∃ y, F.getD j default = y := ⟨_, rfl⟩
                    have hcj := HC.out j (by omega)
                    rw [hy] at hcj
                    have e0 : wr.cell? ⟨b, off + j * 2, none⟩ = some (strV y.1) := (hbi.cell (p := ⟨b, off + j * 2, none⟩) hb).trans (hcj 0 _ rfl)
                    have HE := Lib.hid (show ((F.getD j default).1 == nm) = (y.1 == nm) by rw [hy])
                    obtain ⟨ny, ky⟩ := y
                    dsimp only at e0 HE
                    clear hcj hy hbi
                    cases hn : ny == nm
                    · rw [hn] at HE
                      go_wp2_with fail
                      go_quiet (fail)
                      go_wp2_with fail
                      go_roundw
                      case rel => exact ⟨j + 1, by omega, by go_num, blk_below (below_drewN (Below.refl _ _) _) zXi HXi.out, blk_below (below_drewN (Below.refl _ _) _) zYi HYi.out, below_drewN HWi.out _, fun m hm => by
                        by_cases e : m = j
                        · subst e; exact HE.out
                        · exact HAi.out m (by omega)⟩
                      case measure => simp [intOf]; omega
                    · rw [hn] at HE
                      go_wp2_with fail
                      go_quiet (fail)
                      go_wp2_with fail
                      go_ret
                      exact ⟨HYF.out (by rw [HFa.out, any_take_true hjk hk HE.out]; rfl), below_drewN HWi.out _⟩
                  · have hqj : decide ((j : Int) < k) = false := by simp; omega
                    have hjk' : j = k := by omega
                    subst hjk'
                    clear hbi
                    go_wp2_with fail
                    go_roundw
                    case rel => exact ⟨j + 1, by omega, by go_num, HXi.out, HWi.out, fun m hm => by
                      by_cases e : m = j
                      · subst e; rw [HFa.out, any_take_false HAi.out]; rfl
                      · exact HA.out m (by omega)⟩
                    case measure => simp [intOf]; omega
              · have k4' : decide (4 < kd) = true := by simp; omega
                have HFa := Lib.hid (show fieldAtB F k = false by rw [HFa.out]; simp [k4])
                go_wp2_with fail
                go_ret
                exact ⟨HYF.out HFa.out, HW.out.alloc HW.out.size _⟩
            · have k1' : decide (kd < 1) = true := by simp; omega
              have HFa := Lib.hid (show fieldAtB F k = false by rw [HFa.out]; simp [k1])
              go_wp2_with fail
              go_ret
              exact ⟨HYF.out HFa.out, HW.out.alloc HW.out.size _⟩
        · have hq : decide ((k : Int) < F.length) = false := by simp; omega
          clear hbw
          go_wp2_with fail
          refine (rncheck_any Any1 vt vn vs r _ (H2.out.below HW.out)).mono ?_
          obtain ⟨c, hc⟩ : ∃ c, checkR r = c := ⟨_, rfl⟩
          rw [hc]
          have HCc := Lib.hid hc; clear hc
          rintro e w3 ⟨rfl, hb3⟩
          have HW3 := Lib.hid (HW.out.trans (hb3.mono HW.out.size))
          clear hb3
          go_wp2_with fail
          go_ret
          exact ⟨HF.out c (by unfold checkS; rw [if_neg HN.out, if_pos (by rw [fieldsB]; exact all_true fun j hj => HA.out j (by have hj' : j < F.length := hj; omega))]; exact HCc.out), HW3.out⟩
end Go.Proofs.YtfgoiojmbphmnaaGreatDoor
end
section
/- The reference of layer 4 (address): number, trimmed, parts. -/
set_option linter.unusedSimpArgs false
set_option linter.unusedVariables false
set_option maxRecDepth 100000
namespace Go.Proofs.YtfgoiojmbphmnaaGreatDoor
open Go.RowKit
attribute [local go_sem] toList_mk mk_size bytes_append
@[local go_sem] theorem get_zero4 (c : UInt8) (l : List UInt8) (h : 0 < (⟨(c :: l).toArray⟩ : ByteArray).size) : (⟨(c :: l).toArray⟩ : ByteArray)[0]'h = c := rfl
@[local go_sem] theorem get_one4 (c d : UInt8) (l : List UInt8) (h : 1 < (⟨(c :: d :: l).toArray⟩ : ByteArray).size) : (⟨(c :: d :: l).toArray⟩ : ByteArray)[1]'h = d := rfl
set_option maxHeartbeats 400000 in
theorem rnumeral_any (l : List UInt8) (w : World) :
    Calls Tryz.prog 130 #[strV l] w fun e w' => e = .returned (.bool (numB l)) ∧ w = w' := by
  cases l with
  | nil =>
    go_enter Tryz.func130, Tryz.ntmps130
    go_wp2
    go_ret
    exact ⟨rfl, rfl⟩
  | cons c l =>
    have HD := Lib.hid (dig_iff c)
    by_cases h1 : 48 ≤ (c.toNat : Int) <;> by_cases h2 : (c.toNat : Int) ≤ 57
    all_goals
      go_enter Tryz.func130, Tryz.ntmps130
      go_wp2
      go_ret
      exact ⟨ret_bool (by rw [show numB (c :: l) = isDgt c from rfl, HD.out]; simp; try omega), rfl⟩
theorem short_stop {c : UInt8} {l : List UInt8} (h : numB (c :: l) = true) (hs : c ≠ 48 ∨ numB l = false) : shortL (c :: l) = c :: l := by
  by_cases hc : c = 48
  · subst hc
    have hn : numB l = false := hs.resolve_left (fun h => h rfl)
    have hd : l.dropWhile (· == 48) = l := by
      cases l with
      | nil => rfl
      | cons d r =>
        rw [List.dropWhile_cons, if_neg]
        intro e
        have : d = 48 := by simpa using e
        subst this
        have h48 : numB (48 :: r) = true := rfl
        rw [h48] at hn; cases hn
    unfold shortL
    rw [show (48 :: l).dropWhile (· == 48) = l.dropWhile (· == 48) from rfl, hd, if_neg (by rw [hn]; simp)]
  · unfold shortL
    have hd : (c :: l).dropWhile (· == 48) = c :: l := by rw [List.dropWhile_cons, if_neg (by simpa using hc)]
    rw [hd, if_pos h]
theorem short_next {l : List UInt8} : shortL (48 :: l) = shortL l := by
  unfold shortL; rfl
set_option maxHeartbeats 1000000 in
theorem rtrimmed_any (x : List UInt8) (w : World) (hx : numB x = true) (hl : x.length ≤ 1000000) :
    Calls Tryz.prog 97 #[strV x] w fun e w' => e = .returned (strV (shortL x)) ∧ w = w' := by
  have HX := Lib.hid hx; clear hx
  go_enter Tryz.func97, Tryz.ntmps97
  go_wp2_with fail
  go_loop [0] (fun s => ∃ l : List UInt8, s = strV l ∧ l.length ≤ 1000000 ∧ Hid (numB l = true) ∧ Hid (shortL x = shortL l)) (fun s => match s with | .string b => b.size | _ => 0)
  case atStart => exact ⟨x, rfl, hl, HX, Lib.hid rfl⟩
  case round =>
    obtain ⟨l, rfl, hlen, HN, HS⟩ := hrel
    cases l with
    | nil => exact absurd HN.out (by decide)
    | cons c l =>
      cases l with
      | nil =>
        have hfin : shortL x = [c] := by rw [HS.out]; exact short_stop HN.out (.inr rfl)
        have HF := Lib.hid hfin; clear hfin
        go_wp2_with fail
        go_ret
        exact ⟨by show Ending.returned (strV [c]) = _; rw [HF.out], rfl⟩
      | cons d r =>
        have hb := c.toNat_lt
        have hb2 := d.toNat_lt
        have hl2 : 1 < (c :: d :: r).length := by simp
        by_cases hc : c = 48
        · have e1 : ((c.toNat : Int) == 48) = true := by rw [hc]; rfl
          cases hd : isDgt d
          · have hfin : shortL x = c :: d :: r := by rw [HS.out]; exact short_stop HN.out (.inr hd)
            have HF := Lib.hid hfin; clear hfin
            rw [dig_iff, decide_eq_false_iff_not] at hd
            have hcd : (48 ≤ (d.toNat : Int) ∧ 57 < (d.toNat : Int)) ∨ (d.toNat : Int) < 48 := by omega
            clear hd hc
            rcases hcd with ⟨g1, g2⟩ | g1
            all_goals
              go_wp2_with fail
              go_ret
              exact ⟨by show Ending.returned (strV (c :: d :: r)) = _; rw [HF.out], rfl⟩
          · have HN2 := Lib.hid (show numB (d :: r) = true from hd)
            have HS2 := Lib.hid (show shortL x = shortL (d :: r) by rw [HS.out, hc]; exact short_next)
            rw [dig_iff, decide_eq_true_iff] at hd
            obtain ⟨g1, g2⟩ := hd
            have hext : (⟨(c :: d :: r).toArray⟩ : ByteArray).extract 1 (r.length + 1 + 1) = ⟨(d :: r).toArray⟩ := by
              have := ext_mk (c :: d :: r) 1 (r.length + 1 + 1) (by simp)
              unfold mkS at this
              rw [this, List.take_of_length_le (by simp)]; rfl
            clear hc
            go_wp2_with fail
            go_round
            case rel => exact ⟨d :: r, rfl, by simp at hlen ⊢; omega, HN2, HS2⟩
            case measure => simp [mk_size]
        · have e1 : ((c.toNat : Int) == 48) = false := by
            simp only [beq_eq_false_iff_ne, ne_eq]; intro e; apply hc; rw [← UInt8.toNat_inj]; simp; omega
          have hfin : shortL x = c :: d :: r := by rw [HS.out]; exact short_stop HN.out (.inl hc)
          have HF := Lib.hid hfin; clear hfin hc
          go_wp2_with fail
          go_ret
          exact ⟨by show Ending.returned (strV (c :: d :: r)) = _; rw [HF.out], rfl⟩
def PartsPost (L : List (List UInt8)) (w : World) (e : Ending) (w' : World) : Prop := ∃ u v, e = .returned (.tuple #[u, v]) ∧ TwoAt w v u (L.filter numB) (L.filter fun x => !numB x) w'
set_option maxHeartbeats 2000000 in
theorem rparts_any (S : Nat → Prop) (v : Value) (L : List (List UInt8)) (w : World) (h : Vec w S 1 encS v L) (hn : L.length ≤ 1000000) :
    Calls Tryz.prog 95 #[v] w (PartsPost L w) := by
  obtain ⟨a, cap, rfl⟩ := h.slice
  have HV := Lib.hid h; clear h
  go_enter Tryz.func95, Tryz.ntmps95
  go_wp2_with fail
  go_loopw [4, 5, 6] (fun n y i wr => ∃ k : Nat, k ≤ L.length ∧ i = .int .i64 k ∧ TwoAt w y n ((L.take k).filter numB) ((L.take k).filter fun x => !numB x) wr) (fun _ _ i _ => L.length - (intOf i).toNat)
  case atStart => exact ⟨0, by omega, rfl, TwoAt.start w⟩
  case round =>
    obtain ⟨k, hk, rfl, ho⟩ := hrel
    have HO := Lib.hid ho; clear ho
    by_cases hlt : k < L.length
    · have hq : decide ((k : Int) < L.length) = true := by simp; omega
      have hi : (k : Int) < (L.length : Int) := by omega
      obtain ⟨b, off, rfl, _, hb, hcx⟩ := vec_cell1 HV.out (by omega)
      have htk := take_snocT L k hlt
      have hcx' := hcx k hlt
      obtain ⟨x, hx⟩ : ∃ x, L.getD k [] = x := ⟨_, rfl⟩
      rw [hx] at htk hcx'
      have c1 : wr.cell? ⟨b, off + k, none⟩ = some (strV x) := (HO.out.2.2.2.cell (p := ⟨b, off + k, none⟩) hb).trans hcx'
      have HT := Lib.hid htk
      have l1 : ((L.take k).filter numB).length < 1099511627776 := by have := List.length_filter_le numB (L.take k); have := List.length_take_le k L; omega
      have l2 : ((L.take k).filter fun x => !numB x).length < 1099511627776 := by have := List.length_filter_le (fun x => !numB x) (L.take k); have := List.length_take_le k L; omega
      have hbz : w.heap.size ≤ wr.heap.size := HO.out.2.2.2.size
      clear hx htk hcx hcx'
      go_wp2_with fail
      refine (rnumeral_any x _).mono ?_
      rintro e w' ⟨rfl, rfl⟩
      cases hd : numB x
      · have F1 := Lib.hid (filter_snoc_no (p := numB) (L.take k) x hd)
        have F2 := Lib.hid (filter_snoc_yes (p := fun x => !numB x) (L.take k) x (by simp [hd]))
        clear hd
        go_wp2_with (at_builtin; refine wpList_append_newat rfl _ _ 28 rfl w.heap.size 9 1 16 (.string ⟨#[]⟩) Tryz.underlying28 infoS rfl (by decide) (by decide) _ _ _ rfl HO.out.2.1 #[strV x] 1 rfl rfl (by simp [Value.oneCell']) l2 hbz ?_; intro v2 w8 ho8 hg8 hat8 hw8)
        go_roundw
        case rel => exact ⟨k + 1, by omega, by go_num, by rw [HT.out, F1.out, F2.out]; exact (HO.out.swap.put ho8 hg8 hat8 hw8).swap⟩
        case measure => simp [intOf]; omega
      · have F1 := Lib.hid (filter_snoc_yes (p := numB) (L.take k) x hd)
        have F2 := Lib.hid (filter_snoc_no (p := fun x => !numB x) (L.take k) x (by simp [hd]))
        clear hd
        go_wp2_with (at_builtin; refine wpList_append_newat rfl _ _ 28 rfl w.heap.size 9 1 16 (.string ⟨#[]⟩) Tryz.underlying28 infoS rfl (by decide) (by decide) _ _ _ rfl HO.out.1 #[strV x] 1 rfl rfl (by simp [Value.oneCell']) l1 hbz ?_; intro v2 w8 ho8 hg8 hat8 hw8)
        go_roundw
        case rel => exact ⟨k + 1, by omega, by go_num, by rw [HT.out, F1.out, F2.out]; exact HO.out.put ho8 hg8 hat8 hw8⟩
        case measure => simp [intOf]; omega
    · have hq : decide ((k : Int) < L.length) = false := by simp; omega
      rw [List.take_of_length_le (by omega)] at HO
      go_wp2_with fail
      go_ret2
      exact ⟨_, _, rfl, HO.out⟩
end Go.Proofs.YtfgoiojmbphmnaaGreatDoor
end
section
/- The reference of layer 4 (address): Code, Normed. -/
set_option linter.unusedSimpArgs false
set_option linter.unusedVariables false
set_option maxRecDepth 100000
namespace Go.Proofs.YtfgoiojmbphmnaaGreatDoor
open Go.RowKit
attribute [local go_sem] toList_mk mk_size bytes_append
def noSp (l : List UInt8) : List UInt8 := l.filter (· != 32)
theorem flat_noSp (l : List UInt8) : ∀ p, (toksA p l).flatten = p ++ noSp l := by
  induction l with
  | nil =>
    intro p
    by_cases hp : p = []
    · subst hp; simp [toksA, noSp]
    · rw [toksA_end _ hp]; simp [noSp]
  | cons c l ih =>
    intro p
    by_cases hc : c = 32
    · subst hc
      have e : noSp (32 :: l) = noSp l := by simp [noSp]
      by_cases hp : p = []
      · subst hp; rw [toksA_sp0, ih, e]
      · rw [toksA_sp _ _ hp, List.flatten_cons, ih, e]; simp
    · have e : noSp (c :: l) = c :: noSp l := by simp [noSp, hc]
      rw [toksA_ch _ _ _ hc, ih, e]; simp
theorem noSp_snoc (l : List UInt8) (c : UInt8) : noSp (l ++ [c]) = if c = 32 then noSp l else noSp l ++ [c] := by
  unfold noSp
  by_cases h : c = 32 <;> simp [List.filter_append, h]
set_option maxHeartbeats 2000000 in
theorem rcode_yes (s : ByteArray) (w : World) (hv : foldV s.data.toList = true) :
    Calls Tryz.prog 55 #[.string s] w fun e w' => e = .returned (pairV (codeN s.data.toList)) ∧ Below w.heap.size w w' := by
  have hfl := fold_len s.data.toList
  have h64 := foldV_len hv
  have hcode : codeN s.data.toList = if 12 < (noSp (foldL s.data.toList)).length then ([], 1) else (noSp (foldL s.data.toList), 0) := by
    unfold codeN toks
    rw [if_pos hv, flat_noSp]; rfl
  have HV := Lib.hid hv
  obtain ⟨fl, hfl'⟩ : ∃ fl, foldL s.data.toList = fl := ⟨_, rfl⟩
  have hc := rfold_yes s w hv
  rw [hfl'] at hfl hcode hc
  have HC := Lib.hid hc; have HCode := Lib.hid hcode
  have hl : fl.length ≤ 64 := by omega
  clear hv hfl' hcode hc hfl h64
  go_enter Tryz.func55, Tryz.ntmps55
  go_wp2_with fail
  refine HC.out.mono ?_
  rintro e w1 ⟨rfl, hb1⟩
  have HB1 := Lib.hid hb1; clear hb1 HC
  obtain ⟨sf, hsf⟩ : ∃ sf : ByteArray, (⟨fl.toArray⟩ : ByteArray) = sf := ⟨_, rfl⟩
  have hsl : sf.data.toList = fl := by rw [← hsf]
  have hss : sf.size = fl.length := by rw [← hsf]; exact mk_size fl
  rw [show strV fl = .string sf by rw [← hsf]]
  have HSL := Lib.hid hsl; have HSS := Lib.hid hss
  have hsb : sf.size ≤ 64 := by omega
  clear hsf hsl hss hl
  go_wp2_with fail
  go_loop [6, 7] (fun o i => ∃ k : Nat, k ≤ sf.size ∧ i = .int .i64 k ∧ o = strV (noSp (fl.take k))) (fun _ i => sf.size - (intOf i).toNat)
  case atStart => exact ⟨0, by omega, rfl, rfl⟩
  case round =>
    obtain ⟨k, hk, rfl, rfl⟩ := hrel
    have hol : (noSp (fl.take k)).length ≤ 64 := by
      have := List.length_filter_le (fun c : UInt8 => c != 32) (fl.take k)
      have := List.length_take_le k fl
      unfold noSp; omega
    by_cases hlt : k < sf.size
    · have hq : decide ((k : Int) < sf.size) = true := by simp; omega
      have hb := sf[k].toNat_lt
      have hts := take_snoc' sf k hlt
      rw [HSL.out] at hts
      have hns := noSp_snoc (fl.take k) sf[k]
      rw [← hts] at hns
      have HNs := Lib.hid hns
      clear hts hns
      by_cases hsp : sf[k] = 32
      · have e1 : ((sf[k].toNat : Int) != 32) = false := by rw [hsp]; rfl
        have HSp := Lib.hid hsp; clear hsp
        go_wp2_with fail
        go_round
        case rel => exact ⟨k + 1, by omega, by go_num, by rw [HNs.out, if_pos HSp.out]⟩
        case measure => simp [intOf]; omega
      · have e1 : ((sf[k].toNat : Int) != 32) = true := by
          simp only [bne_iff_ne, ne_eq]; intro e; apply hsp; rw [← UInt8.toNat_inj]; simp; omega
        have hext := ext_one sf k hlt
        have HSp := Lib.hid hsp; clear hsp
        go_wp2_with fail
        go_round
        case rel => exact ⟨k + 1, by omega, by go_num, by rw [HNs.out, if_neg HSp.out]⟩
        case measure => simp [intOf]; omega
    · have hq : decide ((k : Int) < sf.size) = false := by simp; omega
      have htk : fl.take k = fl := List.take_of_length_le (by rw [← HSS.out]; omega)
      rw [htk] at hol ⊢
      obtain ⟨O, hO⟩ : ∃ O, noSp fl = O := ⟨_, rfl⟩
      rw [hO] at hol HCode ⊢
      clear htk hO
      by_cases g : 12 < O.length
      · have d1 : decide ((12 : Int) < O.length) = true := by simp; omega
        have HF := Lib.hid (show codeN s.data.toList = ([], 1) by rw [HCode.out, if_pos g])
        clear g
        go_wp2_with fail
        go_ret2
        exact ⟨by rw [HF.out]; rfl, HB1.out⟩
      · have d1 : decide ((12 : Int) < O.length) = false := by simp; omega
        have HF := Lib.hid (show codeN s.data.toList = (O, 0) by rw [HCode.out, if_neg g])
        clear g
        go_wp2_with fail
        go_ret2
        exact ⟨by rw [HF.out]; rfl, HB1.out⟩
set_option maxHeartbeats 400000 in
theorem rcode_no (s : ByteArray) (w : World) (hs : s.size ≤ 9223372036854775000) (hv : foldV s.data.toList = false) :
    Calls Tryz.prog 55 #[.string s] w fun e w' => e = .returned (pairV (codeN s.data.toList)) ∧ Below w.heap.size w w' := by
  have HF := Lib.hid (show codeN s.data.toList = ([], 3) by unfold codeN; rw [if_neg (by rw [hv]; simp)])
  have HV := Lib.hid hv; clear hv
  go_enter Tryz.func55, Tryz.ntmps55
  go_wp2_with fail
  refine (rfold_no s _ hs HV.out).mono ?_
  rintro e w1 ⟨rfl, hb1⟩
  have HB1 := Lib.hid hb1; clear hb1
  go_wp2_with fail
  go_ret2
  exact ⟨by rw [HF.out]; rfl, HB1.out⟩
theorem rcode_any (s : ByteArray) (w : World) (hs : s.size ≤ 9223372036854775000) :
    Calls Tryz.prog 55 #[.string s] w fun e w' => e = .returned (pairV (codeN s.data.toList)) ∧ Below w.heap.size w w' := by
  cases hv : foldV s.data.toList with
  | true => exact rcode_yes s w hv
  | false => exact rcode_no s w hs hv
set_option maxHeartbeats 1000000 in
theorem rnormed_any (s : ByteArray) (w : World) (hs : s.size ≤ 9223372036854775000) :
    Calls Tryz.prog 62 #[.string s] w fun e w' => e = .returned (.bool (isOwn (codeN s.data.toList) s.data.toList)) ∧ Below w.heap.size w w' := by
  have HS := Lib.hid (Lib.toList_data s)
  go_enter Tryz.func62, Tryz.ntmps62
  go_wp2_with fail
  refine (rcode_any s _ hs).mono ?_
  obtain ⟨p, hp⟩ : ∃ p, codeN s.data.toList = p := ⟨_, rfl⟩
  rw [hp]
  have HP := Lib.hid hp; clear hp
  obtain ⟨pl, pe⟩ := p
  unfold pairV
  rintro e w1 ⟨rfl, hb1⟩
  have HB1 := Lib.hid hb1; clear hb1
  cases he : (pe == 0)
  all_goals
    go_wp2_with fail
    go_ret
    refine ⟨ret_bool ?_, HB1.out⟩
    rw [HP.out]
    simp [isOwn, he, HS.out]
end Go.Proofs.YtfgoiojmbphmnaaGreatDoor
end
section
/- The reference of layer 4 (address): Normalise, Normal. -/
set_option linter.unusedSimpArgs false
set_option linter.unusedVariables false
set_option maxRecDepth 100000
namespace Go.Proofs.YtfgoiojmbphmnaaGreatDoor
open Go.RowKit
attribute [local go_sem] toList_mk mk_size bytes_append
theorem flat_setS (L : List (List UInt8)) (y : List UInt8) : ∀ k, (L.set k y).flatMap encS = (L.flatMap encS).set k (strV y) := by
  induction L with
  | nil => intro k; rfl
  | cons a L ih =>
    intro k
    cases k with
    | zero => rfl
    | succ k =>
      rw [List.set_cons_succ, List.flatMap_cons, List.flatMap_cons, ih]
      rfl
theorem TwoAt.store {w wr : World} {v : Value} {Y N : List (List UInt8)} {g c : Nat} (h : TwoAt w v (.slice (some ⟨g, 0, none⟩) N.length c) Y N wr) (k : Nat) (y : List UInt8) : TwoAt w v (.slice (some ⟨g, 0, none⟩) N.length c) Y (N.set k y) (wr.setCell ⟨g, k, none⟩ (strV y)) := by
  obtain ⟨h1, h2, h3, h4⟩ := h
  obtain ⟨s1, s2⟩ := h2.stored k (strV y)
  refine ⟨own_kept h1 s2 (fun q hq e => ?_), by rw [List.length_set, flat_setS]; exact s1, h3, h4.setCell (h2.lt g rfl).1 _⟩
  have := h3 q hq
  exact this (by rw [← e]; rfl)
theorem own_ptr {w : World} {B e size n c : Nat} {a : Option Addr} {xs : List Value} (h : w.ownsRow B e size (.slice a n c) n xs) (hn : 0 < n) : ∃ g, a = some ⟨g, 0, none⟩ ∧ B ≤ g ∧ g < w.heap.size := by
  rcases h.2 with ⟨_, h0⟩ | ⟨g, cap, cur, hv, hg, hh, _⟩
  · omega
  · cases hv; exact ⟨g, rfl, hg, lt_of_blk hh⟩
theorem flat_cell (L : List (List UInt8)) (k : Nat) (h : k < L.length) : (L.flatMap encS)[k]? = some (strV (L.getD k [])) := flat_get1 L k h
theorem parts_len (T : List (List UInt8)) : (T.filter fun x => !numB x).length + (T.filter numB).length = T.length := by
  induction T with
  | nil => rfl
  | cons x T ih => cases hx : numB x <;> simp [List.filter_cons, hx] <;> omega
theorem addr_num {r : RulesL} (h : pairsB r.streets = true) (x : List UInt8) : numB (addrTok r x) = numB x := by
  by_cases hn : numB x = true
  · have e : addrTok r x = shortL x := by unfold addrTok; rw [if_pos hn]
    rw [e, hn]; exact short_num x
  · have e : addrTok r x = canonL r.streets x := by unfold addrTok; rw [if_neg hn]
    rw [e]
    rcases canon_cases h x with hs | ⟨k, hk, e1, e2, e3⟩
    · rw [hs]
    · rw [low_not_num (token_low e2).2]; simpa using hn
theorem order_parts {r : RulesL} (h : pairsB r.streets = true) (T : List (List UInt8)) : order2 (T.map (addrTok r)) = (T.filter fun x => !numB x).map (canonL r.streets) ++ (T.filter numB).map shortL := by
  unfold order2
  congr 1
  · induction T with
    | nil => rfl
    | cons x T ih =>
      cases hx : numB x
      · simp only [List.map_cons, List.filter_cons, addr_num h, hx, Bool.not_false, if_true, ih]
        congr 1
        unfold addrTok; rw [hx]; simp
      · simp only [List.map_cons, List.filter_cons, addr_num h, hx, Bool.not_true, Bool.false_eq_true, if_false, ih]
  · induction T with
    | nil => rfl
    | cons x T ih =>
      cases hx : numB x
      · simp only [List.map_cons, List.filter_cons, addr_num h, hx, Bool.false_eq_true, if_false, ih]
      · simp only [List.map_cons, List.filter_cons, addr_num h, hx, if_true, ih]
        congr 1
        unfold addrTok; rw [hx]; simp
set_option maxHeartbeats 8000000 in
theorem raddr_yes (S : Nat → Prop) (vt vn vs : Value) (r : RulesL) (s : ByteArray) (w : World) (h : RulesAt w S vt vn vs r) (hc : checkR r = 0) (hv : foldV s.data.toList = true) :
    Calls Tryz.prog 56 #[.agg #[vt, vn, vs], .string s] w fun e w' => e = .returned (pairV (addrN r s.data.toList)) ∧ Below w.heap.size w w' := by
  obtain ⟨⟨k1, k2, k3⟩, g1, g2, g3, g4⟩ := check_zero hc
  have hfl := fold_len s.data.toList
  have h64 := foldV_len hv
  obtain ⟨avs, cvs, rfl⟩ := h.2.2.slice
  have G3 := Lib.hid g3
  have HR := Lib.hid h.any
  have HC := Lib.hid hc; have HV := Lib.hid hv
  have hfin : addrN r s.data.toList = (if 6 < (toks (foldL s.data.toList)).length ∨ 64 < (joinL (order2 ((toks (foldL s.data.toList)).map (addrTok r)))).length then ([], 1) else (joinL (order2 ((toks (foldL s.data.toList)).map (addrTok r))), 0)) := by
    unfold addrN; rw [if_pos HC.out, if_pos HV.out]
  have HF := Lib.hid hfin
  clear h hc hv g1 g2 g3 g4 hfin
  go_enter Tryz.func56, Tryz.ntmps56
  go_wp2_with fail
  refine (rncheck_any Any1 vt vn _ r _ (HR.out.below ((Below.refl _ _).alloc (Nat.le_refl _) _))).mono ?_
  rw [HC.out]
  rintro e w1 ⟨rfl, hb1⟩
  have HX1 := Lib.hid (show w1.heap[w.heap.size]? = some (.cells #[vt, vn, .slice avs r.streets.length cvs] 31 (0, 0)) from blk_below hb1 (by simp) (blk_new rfl))
  have HB1 := Lib.hid (((Below.refl w.heap.size w).alloc (Nat.le_refl _) _).trans (hb1.mono (by simp)))
  clear hb1
  go_wp2_with fail
  refine (rfold_yes s _ HV.out).mono ?_
  rintro e w2 ⟨rfl, hb2⟩
  have HX2 := Lib.hid (blk_below hb2 (lt_of_blk HX1.out) HX1.out)
  have HB2 := Lib.hid (HB1.out.trans (hb2.mono HB1.out.size))
  clear hb2 HX1 HB1
  obtain ⟨fl, hfl'⟩ : ∃ fl, foldL s.data.toList = fl := ⟨_, rfl⟩
  rw [hfl'] at hfl HF ⊢
  clear hfl'
  go_wp2_with fail
  refine (rtokens_any ⟨fl.toArray⟩ _ (by rw [mk_size]; omega)).mono ?_
  rw [show (⟨fl.toArray⟩ : ByteArray).data.toList = fl by simp]
  rintro e w3 ⟨v3, rfl, ho⟩
  obtain ⟨hT1, hT2⟩ := toks_len fl (by omega)
  obtain ⟨T, hT⟩ : ∃ T, toks fl = T := ⟨_, rfl⟩
  rw [hT] at ho hT1 hT2 HF
  have HX3 := Lib.hid (blk_below ho.2 (lt_of_blk HX2.out) HX2.out)
  have HB3 := Lib.hid (HB2.out.trans (ho.2.mono HB2.out.size))
  have HV3 := Lib.hid (Vec.owns (S := Any1) (k := 1) (enc := encS) (fun _ => rfl) ho.1 (fun _ _ _ => trivial))
  have HT2 := Lib.hid hT2
  clear ho hT hT2 HX2 HB2
  go_wp2_with fail
  refine (rparts_any Any1 _ T _ HV3.out (by omega)).mono ?_
  rintro e w4 ⟨u, v, rfl, ht⟩
  have hO := List.length_filter_le (fun x => !numB x) T
  have hN := List.length_filter_le numB T
  have hnum : ∀ x ∈ T.filter numB, numB x = true := fun x hx => (List.mem_filter.1 hx).2
  have hnl : ∀ x ∈ T.filter numB, x.length ≤ 64 := fun x hx => HT2.out x (List.mem_filter.1 hx).1
  have hol : ∀ x ∈ T.filter (fun x => !numB x), x.length ≤ 64 := fun x hx => HT2.out x (List.mem_filter.1 hx).1
  have hord := order_parts G3.out T
  have hsum := parts_len T
  rw [hord] at HF
  obtain ⟨O, hOe⟩ : ∃ O, (T.filter fun x => !numB x) = O := ⟨_, rfl⟩
  obtain ⟨N, hNe⟩ : ∃ N, T.filter numB = N := ⟨_, rfl⟩
  rw [hOe] at ht hO hol HF hsum
  rw [hNe] at ht hN hnum hnl HF hsum
  have HSum := Lib.hid hsum; clear hsum
  obtain ⟨au, cu, rfl⟩ := own_slice ht.2.1
  obtain ⟨av, cv, rfl⟩ := own_slice ht.1
  have HT := Lib.hid ht; have HNum := Lib.hid hnum; have HNl := Lib.hid hnl; have HOl := Lib.hid hol
  have z3 := lt_of_blk HX3.out
  clear ht hnum hnl hol hord hOe hNe HV3
  go_wp2_with fail
  go_loopw [11] (fun i wr => ∃ k : Nat, k ≤ O.length ∧ i = .int .i64 k ∧ TwoAt w3 (.slice av N.length cv) (.slice au O.length cu) N (midL (canonL r.streets) O k) wr) (fun i _ => O.length - (intOf i).toNat)
  case atStart => exact ⟨0, by omega, rfl, by simpa [midL] using HT.out⟩
  case round =>
    obtain ⟨k, hk, rfl, ht⟩ := hrel
    have HW := Lib.hid ht.2.2.2
    have HTk := Lib.hid ht
    have HXk := Lib.hid (blk_below ht.2.2.2 z3 HX3.out)
    have zk := lt_of_blk HXk.out
    obtain ⟨p0, p1, p2⟩ := cells3 HXk.out
    clear ht
    by_cases hlt : k < O.length
    · have hq : decide ((k : Int) < O.length) = true := by simp; omega
      have hi : (k : Int) < (O.length : Int) := by omega
      have hml : (midL (canonL r.streets) O k).length = O.length := mid_len _ _ _ hk
      have hown := HTk.out.2.1
      rw [hml] at hown
      obtain ⟨g, rfl, hg1, hg2⟩ := own_ptr hown (by omega)
      have c1 := hown.cellAt k (by omega)
      rw [flat_cell _ k (by omega), mid_get _ _ _ hlt] at c1
      have f1 := hown.frozenAt k
      have hset := mid_set (canonL r.streets) O k hlt _ rfl
      obtain ⟨x, hx⟩ : ∃ x, O.getD k [] = x := ⟨_, rfl⟩
      rw [hx] at c1 hset
      have HSet := Lib.hid hset
      have hK := Lib.hid (fun (W : World) (hW : Below wr.heap.size wr W) => rreplace_any Any1 (.slice avs r.streets.length cvs) r.streets x W (HR.out.2.2.below (HB3.out.trans ((HW.out.trans (hW.mono HW.out.size)).mono HB3.out.size))) (by omega))
      have hst := HTk.out
      rw [← hml] at hst
      have HSt := Lib.hid hst
      have hne : w.heap.size ≠ g := by have := HB3.out.size; omega
      clear hown hset hx hst
      go_wp2_with fail
      go_region_with ((refine (hK.out _ (Below.refl _ _).drew).mono ?_; rintro e w' ⟨rfl, rfl⟩))
      all_goals
        have HN2 := Lib.hid ((HSt.out.store k (canonL r.streets x)).below (Below.refl _ _).drew)
        rw [HSet.out, hml] at HN2
        go_wp2_with fail
        go_roundw
        case rel => exact ⟨k + 1, by omega, by go_num, HN2.out⟩
        case measure => simp [intOf]; omega
    · have hq : decide ((k : Int) < O.length) = false := by simp; omega
      have hmid : midL (canonL r.streets) O k = O.map (canonL r.streets) := by unfold midL; rw [List.take_of_length_le (by omega), List.drop_eq_nil_of_le (by omega), List.append_nil]
      rw [hmid] at HTk
      have hml : (O.map (canonL r.streets)).length = O.length := List.length_map _
      have hsmall : ∀ x ∈ O.map (canonL r.streets), x.length ≤ 64 := by
        intro x hx
        obtain ⟨y, hy, rfl⟩ := List.mem_map.1 hx
        exact canon_len G3.out y (HOl.out y hy)
      obtain ⟨O2, hO2⟩ : ∃ O2, O.map (canonL r.streets) = O2 := ⟨_, rfl⟩
      rw [hO2] at HTk hml hsmall HF
      have HSm := Lib.hid hsmall
      obtain ⟨wo, rfl⟩ : ∃ wo : World, wo = wr := ⟨_, rfl⟩
      clear hmid hO2 hsmall
      go_wp2_with fail
      go_loopw [12] (fun i wr => ∃ k : Nat, k ≤ N.length ∧ i = .int .i64 k ∧ TwoAt w3 (.slice av N.length cv) (.slice au O.length cu) (midL shortL N k) O2 wr) (fun i _ => N.length - (intOf i).toNat)
      case atStart => exact ⟨0, by omega, rfl, by simpa [midL] using HTk.out⟩
      case round =>
        obtain ⟨k, hk2, rfl, ht⟩ := hrel
        have HW2 := Lib.hid ht.2.2.2
        have HTj := Lib.hid ht
        clear ht
        by_cases hlt2 : k < N.length
        · have hq2 : decide ((k : Int) < N.length) = true := by simp; omega
          have hi : (k : Int) < (N.length : Int) := by omega
          have hml2 : (midL shortL N k).length = N.length := mid_len _ _ _ hk2
          have hown := HTj.out.1
          rw [hml2] at hown
          obtain ⟨g, rfl, hg1, hg2⟩ := own_ptr hown (by omega)
          have c1 := hown.cellAt k (by omega)
          rw [flat_cell _ k (by omega), mid_get _ _ _ hlt2] at c1
          have f1 := hown.frozenAt k
          have hset := mid_set shortL N k hlt2 _ rfl
          have hmem : N.getD k [] ∈ N := by rw [List.getD, List.getElem?_eq_getElem hlt2]; exact List.getElem_mem hlt2
          obtain ⟨x, hx⟩ : ∃ x, N.getD k [] = x := ⟨_, rfl⟩
          rw [hx] at c1 hset hmem
          have HSet := Lib.hid hset
          have hst := HTj.out.swap
          rw [← hml2] at hst
          have HSt := Lib.hid hst
          have HK := Lib.hid (fun W => rtrimmed_any x W (HNum.out x hmem) (by have := HNl.out x hmem; omega))
          clear hown hset hx hst hmem
          go_wp2_with fail
          refine (HK.out _).mono ?_
          rintro e w' ⟨rfl, rfl⟩
          have HN2 := Lib.hid ((HSt.out.store k (shortL x)).swap)
          rw [HSet.out, hml2] at HN2
          go_wp2_with fail
          go_roundw
          case rel => exact ⟨k + 1, by omega, by go_num, HN2.out⟩
          case measure => simp [intOf]; omega
        · have hq2 : decide ((k : Int) < N.length) = false := by simp; omega
          have hmid : midL shortL N k = N.map shortL := by unfold midL; rw [List.take_of_length_le (by omega), List.drop_eq_nil_of_le (by omega), List.append_nil]
          rw [hmid] at HTj
          have hml2 : (N.map shortL).length = N.length := List.length_map _
          have hsmall2 : ∀ x ∈ N.map shortL, x.length ≤ 65 := by
            intro x hx
            obtain ⟨y, hy, rfl⟩ := List.mem_map.1 hx
            have := short_len y; have := HNl.out y hy; omega
          obtain ⟨N2, hN2⟩ : ∃ N2, N.map shortL = N2 := ⟨_, rfl⟩
          rw [hN2] at HTj hml2 hsmall2 HF
          have HSm2 := Lib.hid hsmall2
          have ho1 := HTj.out.2.1
          have ho2 := HTj.out.1
          rw [hml] at ho1
          rw [hml2] at ho2
          have HO1 := Lib.hid ho1; have HO2 := Lib.hid ho2
          have hjl := join_le (m := 65) (O2 ++ N2) (fun x hx => by
            rcases List.mem_append.1 hx with hx | hx
            · have := HSm.out x hx; omega
            · have := HSm2.out x hx; omega)
          clear hmid hN2 hsmall2 ho1 ho2
          obtain ⟨i0, hi, hz0, hz1, hz2⟩ := info_parts infoS
          have hlenJ : (O2 ++ N2).length = O.length + N.length := by rw [List.length_append, hml, hml2]
          have hTJ : T.length = (O2 ++ N2).length := by rw [hlenJ]; exact HSum.out.symm
          rw [hTJ] at HF
          have HLJ := Lib.hid hlenJ
          have hJ65 : (O2 ++ N2).length ≤ 65 := by omega
          have hJl : (joinL (O2 ++ N2)).length ≤ 1000000 := by
            have : (O2 ++ N2).length * 66 ≤ 65 * 66 := Nat.mul_le_mul_right 66 hJ65
            omega
          have HHi := Lib.hid hi; have HZ0 := Lib.hid hz0; have HZ1 := Lib.hid hz1; have HZ2 := Lib.hid hz2
          have hbz := HW2.out.size
          have hol2 : O.length ≤ 65 := by omega
          have hnl2 : N.length ≤ 65 := by omega
          clear hTJ hlenJ hjl hi hz0 hz1 hz2 hml hml2
          go_upto_region 16 with (fail)
          go_cut [13] (fun s13 wx => ∃ a c, s13 = .slice a (O2 ++ N2).length c ∧ Vec wx Any1 1 encS s13 (O2 ++ N2) ∧ Below w3.heap.size w3 wx)
          case first =>
            rcases HO2.out.2 with ⟨hv, h0⟩ | ⟨g, cap, cur, hv, hg, hh, _⟩
            · obtain rfl : N = [] := List.length_eq_zero_iff.1 h0
              simp only [Value.slice.injEq, List.length_nil, true_and] at hv
              obtain ⟨rfl, rfl⟩ := hv
              have hfin : wr.ownsRow w3.heap.size 9 1 (.slice au O.length cu) (O2 ++ N2).length ((O2 ++ N2).flatMap encS) := by
                have h1 := HO1.out
                have h2 : N2 = [] := by
                  have := HLJ.out
                  have h3 := HO1.out.1
                  rw [flat_len (k := 1) (enc := encS) (fun _ => rfl)] at h3
                  refine List.length_eq_zero_iff.1 ?_
                  simp only [List.length_append, List.length_nil] at this
                  omega
                rw [h2, List.append_nil]
                have h3 := HO1.out.1
                rw [flat_len (k := 1) (enc := encS) (fun _ => rfl)] at h3
                rw [show O2.length = O.length by omega]; exact h1
              have HFin := Lib.hid (Vec.owns (S := Any1) (k := 1) (enc := encS) (fun _ => rfl) hfin (fun _ _ _ => trivial))
              have hlenO : O.length = (O2 ++ N2).length := by have := HLJ.out; simpa using this.symm
              have HLO := Lib.hid hlenO
              clear h0 hfin hlenO
              go_wp2_with (at_builtin; refine wpList_append_own_none rfl _ _ 28 rfl w3.heap.size 9 i0 1 Tryz.underlying28 HHi.out _ _ _ rfl HO1.out rfl ?_)
              go_meet
              exact ⟨au, cu, by rw [← HLO.out], HFin.out, HW2.out⟩
            · simp only [Value.slice.injEq, true_and] at hv
              obtain ⟨rfl, rfl⟩ := hv
              have hcells := HO2.out
              have hl : (N2.flatMap encS).length = N.length * 1 := HO2.out.1
              have hnews : ∀ j u, (N2.flatMap encS)[j]? = some u → wr.cell? ((⟨g, 0, none⟩ : Addr).add j) = some u := fun j u hu => by
                have hj := (List.getElem?_eq_some_iff.1 hu).1
                rw [add_plain, Nat.zero_add, hcells.cellAt j (by omega)]; exact hu
              have hone : ∀ u ∈ N2.flatMap encS, u.oneCell' = true := by
                intro u hu
                obtain ⟨y, _, hy⟩ := List.mem_flatMap.1 hu
                simp at hy; subst hy; rfl
              have HL := Lib.hid hl; have HNews := Lib.hid hnews; have HOne := Lib.hid hone
              clear hcells hl hnews hone hh
              go_wp2_with (at_builtin; refine wpList_append_own _ rfl _ _ 28 rfl w3.heap.size 9 i0 (.string ⟨#[]⟩) 1 16 Tryz.underlying28 HHi.out HZ0.out HZ1.out HZ2.out rfl (by decide) _ _ _ rfl HO1.out ⟨g, 0, none⟩ N.length _ (N2.flatMap encS) rfl HL.out HNews.out HOne.out (by unfold maxLen; omega) (by omega) hbz ?_; intro v' w8 ho8 hg8 _)
              go_meet
              have ho9 := ho8
              rw [← List.flatMap_append, ← HLJ.out] at ho9
              obtain ⟨a9, c9, rfl⟩ := own_slice ho9
              refine ⟨a9, c9, by rw [HLJ.out], ?_, HW2.out.grown hg8 hbz fun q hq => (HO1.out.lt q hq).1⟩
              rw [HLJ.out] at ho9
              exact Vec.owns (S := Any1) (k := 1) (enc := encS) (fun _ => rfl) (by rw [HLJ.out]; exact ho9) (fun _ _ _ => trivial)
          case rest =>
            obtain ⟨aj, cj, rfl, hvj, hbj⟩ := hcut
            have HVj := Lib.hid hvj
            have HBj := Lib.hid (HB3.out.trans (hbj.mono HB3.out.size))
            clear hvj hbj HO1 HO2 HLJ
            obtain ⟨J, hJ⟩ : ∃ J, O2 ++ N2 = J := ⟨_, rfl⟩
            rw [hJ] at HVj HF hJ65 hJl ⊢
            clear hJ
            go_wp2_with fail
            refine (rjoin_any Any1 _ J _ HVj.out (by omega) (by omega)).mono ?_
            rintro e w' ⟨rfl, rfl⟩
            obtain ⟨Q, hQ⟩ : ∃ Q, joinL J = Q := ⟨_, rfl⟩
            rw [hQ] at HF hJl ⊢
            clear hQ
            by_cases g1 : 6 < J.length
            · have d1 : decide ((6 : Int) < J.length) = true := by simp; omega
              rw [if_pos (.inl g1)] at HF
              go_wp2_with fail
              go_ret2
              exact ⟨by rw [HF.out]; rfl, HBj.out⟩
            · have d1 : decide ((6 : Int) < J.length) = false := by simp; omega
              by_cases g2 : 64 < Q.length
              · have d2 : decide ((64 : Int) < Q.length) = true := by simp; omega
                rw [if_pos (.inr g2)] at HF
                go_wp2_with fail
                go_ret2
                exact ⟨by rw [HF.out]; rfl, HBj.out⟩
              · have d2 : decide ((64 : Int) < Q.length) = false := by simp; omega
                rw [if_neg (by omega)] at HF
                go_wp2_with fail
                go_ret2
                exact ⟨by rw [HF.out]; rfl, HBj.out⟩
set_option maxHeartbeats 1000000 in
theorem raddr_no (S : Nat → Prop) (vt vn vs : Value) (r : RulesL) (s : ByteArray) (w : World) (h : RulesAt w S vt vn vs r) (hs : s.size ≤ 9223372036854775000) (hc : checkR r = 0) (hv : foldV s.data.toList = false) :
    Calls Tryz.prog 56 #[.agg #[vt, vn, vs], .string s] w fun e w' => e = .returned (pairV (addrN r s.data.toList)) ∧ Below w.heap.size w w' := by
  have HR := Lib.hid h.any
  have HC := Lib.hid hc; have HV := Lib.hid hv
  clear h hc hv
  have HF := Lib.hid (show addrN r s.data.toList = ([], 3) by unfold addrN; rw [if_pos HC.out, if_neg (by rw [HV.out]; simp)])
  go_enter Tryz.func56, Tryz.ntmps56
  go_wp2_with fail
  refine (rncheck_any Any1 vt vn vs r _ (HR.out.below ((Below.refl _ _).alloc (Nat.le_refl _) _))).mono ?_
  rw [HC.out]
  rintro e w1 ⟨rfl, hb1⟩
  have HB1 := Lib.hid (((Below.refl w.heap.size w).alloc (Nat.le_refl _) _).trans (hb1.mono (by simp)))
  clear hb1
  go_wp2_with fail
  refine (rfold_no s _ hs HV.out).mono ?_
  rintro e w2 ⟨rfl, hb2⟩
  have HB2 := Lib.hid (HB1.out.trans (hb2.mono HB1.out.size))
  clear hb2 HB1
  go_wp2_with fail
  go_ret2
  exact ⟨by rw [HF.out]; rfl, HB2.out⟩
set_option maxHeartbeats 1000000 in
theorem raddr_bad (S : Nat → Prop) (vt vn vs : Value) (r : RulesL) (s : ByteArray) (w : World) (h : RulesAt w S vt vn vs r) (hc : checkR r ≠ 0) :
    Calls Tryz.prog 56 #[.agg #[vt, vn, vs], .string s] w fun e w' => e = .returned (pairV (addrN r s.data.toList)) ∧ Below w.heap.size w w' := by
  have HR := Lib.hid h.any
  have HF := Lib.hid (show addrN r s.data.toList = ([], checkR r) by unfold addrN; rw [if_neg hc])
  have hne : (checkR r != 0) = true := by simpa using hc
  clear h hc
  go_enter Tryz.func56, Tryz.ntmps56
  go_wp2_with fail
  refine (rncheck_any Any1 vt vn vs r _ (HR.out.below ((Below.refl _ _).alloc (Nat.le_refl _) _))).mono ?_
  obtain ⟨c, hcc⟩ : ∃ c, checkR r = c := ⟨_, rfl⟩
  rw [hcc] at hne HF ⊢
  clear hcc
  rintro e w1 ⟨rfl, hb1⟩
  have HB1 := Lib.hid (((Below.refl w.heap.size w).alloc (Nat.le_refl _) _).trans (hb1.mono (by simp)))
  clear hb1
  go_wp2_with fail
  go_ret2
  exact ⟨by rw [HF.out]; rfl, HB1.out⟩
theorem raddr_any (S : Nat → Prop) (vt vn vs : Value) (r : RulesL) (s : ByteArray) (w : World) (h : RulesAt w S vt vn vs r) (hs : s.size ≤ 9223372036854775000) :
    Calls Tryz.prog 56 #[.agg #[vt, vn, vs], .string s] w fun e w' => e = .returned (pairV (addrN r s.data.toList)) ∧ Below w.heap.size w w' := by
  by_cases hc : checkR r = 0
  · cases hv : foldV s.data.toList with
    | true => exact raddr_yes S vt vn vs r s w h hc hv
    | false => exact raddr_no S vt vn vs r s w h hs hc hv
  · exact raddr_bad S vt vn vs r s w h hc
set_option maxHeartbeats 1000000 in
theorem ranormal_any (S : Nat → Prop) (vt vn vs : Value) (r : RulesL) (s : ByteArray) (w : World) (h : RulesAt w S vt vn vs r) (hs : s.size ≤ 9223372036854775000) :
    Calls Tryz.prog 63 #[.agg #[vt, vn, vs], .string s] w fun e w' => e = .returned (.bool (isOwn (addrN r s.data.toList) s.data.toList)) ∧ Below w.heap.size w w' := by
  have HR := Lib.hid h.any; clear h
  have HS := Lib.hid (Lib.toList_data s)
  go_enter Tryz.func63, Tryz.ntmps63
  go_wp2_with fail
  refine (raddr_any Any1 vt vn vs r s _ (HR.out.below ((Below.refl _ _).alloc (Nat.le_refl _) _)) hs).mono ?_
  obtain ⟨p, hp⟩ : ∃ p, addrN r s.data.toList = p := ⟨_, rfl⟩
  rw [hp]
  have HP := Lib.hid hp; clear hp
  obtain ⟨pl, pe⟩ := p
  unfold pairV
  rintro e w1 ⟨rfl, hb1⟩
  have HB1 := Lib.hid (((Below.refl w.heap.size w).alloc (Nat.le_refl _) _).trans (hb1.mono (by simp)))
  clear hb1
  cases he : (pe == 0)
  all_goals
    go_wp2_with fail
    go_ret
    refine ⟨ret_bool ?_, HB1.out⟩
    rw [HP.out]
    simp [isOwn, he, HS.out]
end Go.Proofs.YtfgoiojmbphmnaaGreatDoor
end
section
/- Contracts of the reference of dates (recordlinkref03): length, Valid, number, made, Read, Parse: as those of the program. -/
set_option linter.unusedSimpArgs false
set_option linter.unusedVariables false
namespace Go.Proofs.YtfgoiojmbphmnaaGreatDoor
open Go.RowKit Cal
set_option maxHeartbeats 1000000 in
theorem rlen_any (y m : Int) (w : World) (h : 0 ≤ y) (h1 : 1 ≤ m) (h2 : m ≤ 12) :
    Calls Tryz.prog 80 #[.int .i64 y, .int .i64 m] w fun e w' => e = .returned (.int .i64 (dim y m)) ∧ w = w' := by
  go_enter Tryz.func80, Tryz.ntmps80
  go_wp2
  all_goals go_ret
  all_goals refine ⟨ret_int ?_, rfl⟩
  all_goals simp only [beq_iff_eq, beq_eq_false_iff_ne, ne_eq, bne_iff_ne] at *
  all_goals simp [dim, leapB, *]
set_option maxHeartbeats 1000000 in
theorem rvalid_no (y m d : Int) (w : World) (hv : vldB y m d = false) :
    Calls Tryz.prog 48 #[.agg #[.int .i64 y, .int .i64 m, .int .i64 d]] w fun e w' => e = .returned (.bool false) ∧ Below w.heap.size w w' := by
  have hh : decide (1800 ≤ y) = false ∨ (1800 ≤ y ∧ decide (y ≤ 2199) = false) ∨ (1800 ≤ y ∧ y ≤ 2199 ∧ decide (1 ≤ m) = false) ∨ (1800 ≤ y ∧ y ≤ 2199 ∧ 1 ≤ m ∧ decide (m ≤ 12) = false) ∨ (1800 ≤ y ∧ y ≤ 2199 ∧ 1 ≤ m ∧ m ≤ 12 ∧ decide (1 ≤ d) = false) ∨ (1800 ≤ y ∧ y ≤ 2199 ∧ 1 ≤ m ∧ m ≤ 12 ∧ 1 ≤ d ∧ decide (d ≤ dim y m) = false) := by
    have := vld_iff y m d
    rw [hv] at this
    simp at this ⊢
    omega
  clear hv
  rcases hh with h | ⟨_, h⟩ | ⟨_, _, h⟩ | ⟨_, _, _, h⟩ | ⟨_, _, _, _, h⟩ | ⟨_, _, _, _, _, h⟩
  iterate 5
    · go_enter Tryz.func48, Tryz.ntmps48
      go_wp2
      go_quiet (fail)
      go_wp2
      go_ret
      exact ⟨rfl, below_drewN ((Below.refl _ _).alloc (Nat.le_refl _) _) _⟩
  go_enter Tryz.func48, Tryz.ntmps48
  go_wp2
  go_quiet ((go_at_call 80; exact quiet_eq (rlen_any _ _ _ (by omega) (by omega) (by omega))))
  go_wp2
  go_ret
  exact ⟨rfl, below_drewN ((Below.refl _ _).alloc (Nat.le_refl _) _) _⟩
set_option maxHeartbeats 1000000 in
theorem rvalid_yes (y m d : Int) (w : World) (hv : vldB y m d = true) :
    Calls Tryz.prog 48 #[.agg #[.int .i64 y, .int .i64 m, .int .i64 d]] w fun e w' => e = .returned (.bool true) ∧ Below w.heap.size w w' := by
  obtain ⟨h1, h2, h3, h4, h5, h6⟩ := (vld_iff y m d).1 hv
  clear hv
  go_enter Tryz.func48, Tryz.ntmps48
  go_wp2
  go_quiet ((go_at_call 80; exact quiet_eq (rlen_any _ _ _ (by omega) (by omega) (by omega))))
  go_wp2
  go_ret
  exact ⟨rfl, below_drewN ((Below.refl _ _).alloc (Nat.le_refl _) _) _⟩
theorem rvalid_any (y m d : Int) (w : World) :
    Calls Tryz.prog 48 #[.agg #[.int .i64 y, .int .i64 m, .int .i64 d]] w fun e w' => e = .returned (.bool (vldB y m d)) ∧ Below w.heap.size w w' := by
  cases h : vldB y m d with
  | true => exact rvalid_yes y m d w h
  | false => exact rvalid_no y m d w h

set_option maxHeartbeats 400000 in
theorem rnumber_any (s : ByteArray) (w : World) (hs : s.size ≤ 4) :
    Calls Tryz.prog 131 #[.string s] w fun e w' => e = .returned (.tuple #[.int .i64 ((numFrom 0 s.data.toList).getD 0), .bool (numFrom 0 s.data.toList).isSome]) ∧ w = w' := by
  go_enter Tryz.func131, Tryz.ntmps131
  go_wp2
  go_loop [4, 5] (fun n i => ∃ (k : Nat) (N : Int), k ≤ s.size ∧ i = .int .i64 k ∧ n = .int .i64 N ∧ numFrom 0 (s.data.toList.take k) = some N ∧ 0 ≤ N ∧ N < 10 ^ k) (fun _ i => s.size - (intOf i).toNat)
  case atStart => exact ⟨0, 0, Nat.zero_le _, rfl, rfl, rfl, by decide, by decide⟩
  case round =>
    obtain ⟨k, N, hk, rfl, rfl, hN, h0, h1⟩ := hrel
    have HN := Lib.hid hN; clear hN
    have hp : (10 : Int) ^ k ≤ 10000 := by
      have : k = 0 ∨ k = 1 ∨ k = 2 ∨ k = 3 ∨ k = 4 := by omega
      rcases this with rfl | rfl | rfl | rfl | rfl <;> decide
    have hN4 : N < 10000 := by omega
    have H1 := Lib.hid h1; clear h1 hp
    by_cases hlt : k < s.size
    · go_wp2
      · go_ret2
        exact ⟨by have := numFrom_bad s k hlt N HN.out (by omega); rw [this]; rfl, rfl⟩
      · have hs := numFrom_snoc s k hlt N HN.out
        rw [if_pos ‹_›] at hs
        have h1 := H1.out
        have e1 : (10 : Int) ^ (k + 1) = 10 ^ k * 10 := by rw [Int.pow_succ]
        go_round
        case rel => exact ⟨k + 1, _, by omega, by go_num, rfl, hs, by omega, by omega⟩
        case measure => simp [intOf]; omega
      · go_ret2
        exact ⟨by have := numFrom_bad s k hlt N HN.out (by omega); rw [this]; rfl, rfl⟩
    · go_wp2
      go_ret2
      obtain rfl : k = s.size := by omega
      exact ⟨by have := HN.out; rw [List.take_of_length_le (by simp)] at this; rw [this]; rfl, rfl⟩
theorem numI_none {l : List UInt8} (h : numFrom 0 l = none) : numI l = -1 := by simp [numI, h]
theorem numI_some {l : List UInt8} {N : Int} (h : numFrom 0 l = some N) : numI l = N := by simp [numI, h]
theorem dateR_no {a b c : List UInt8} (h : vldB (numI a) (numI b) (numI c) = false) : dateL a b c = .tuple #[.agg #[.int .i64 0, .int .i64 0, .int .i64 0], .int .i64 4] := by
  unfold dateL dateR dateV; rw [h]; rfl
theorem dateR_yes {a b c : List UInt8} (h : vldB (numI a) (numI b) (numI c) = true) : dateL a b c = .tuple #[.agg #[.int .i64 (numI a), .int .i64 (numI b), .int .i64 (numI c)], .int .i64 0] := by
  unfold dateL dateR dateV; rw [h]; rfl
set_option maxHeartbeats 2000000 in
theorem rmade_any (a b c : ByteArray) (w : World) (ha : a.size ≤ 4) (hb : b.size ≤ 4) (hc : c.size ≤ 4) :
    Calls Tryz.prog 98 #[.string a, .string b, .string c] w fun e w' => e = .returned (dateR (numI a.data.toList) (numI b.data.toList) (numI c.data.toList) 4) ∧ Below w.heap.size w w' := by
  have Ka := fun w => Lib.hid (rnumber_any a w ha)
  have Kb := fun w => Lib.hid (rnumber_any b w hb)
  have Kc := fun w => Lib.hid (rnumber_any c w hc)
  rw [show dateR (numI a.data.toList) (numI b.data.toList) (numI c.data.toList) 4 = dateL a.data.toList b.data.toList c.data.toList from rfl]
  have bad : (numFrom 0 a.data.toList).isSome = false ∨ (numFrom 0 b.data.toList).isSome = false ∨ (numFrom 0 c.data.toList).isSome = false → vldB (numI a.data.toList) (numI b.data.toList) (numI c.data.toList) = false := by
    intro h
    have : ¬ vldB (numI a.data.toList) (numI b.data.toList) (numI c.data.toList) = true := by
      rw [vld_iff]
      simp only [Option.isSome_eq_false_iff, Option.isNone_iff_eq_none] at h
      rcases h with h | h | h <;> (have := numI_none h; omega)
    simpa using this
  by_cases hall : (numFrom 0 a.data.toList).isSome = true ∧ (numFrom 0 b.data.toList).isSome = true ∧ (numFrom 0 c.data.toList).isSome = true
  · obtain ⟨h1, h2, h3⟩ := hall
    have e1 : (numFrom 0 a.data.toList).getD 0 = numI a.data.toList := by obtain ⟨N, h⟩ := Option.isSome_iff_exists.1 h1; rw [numI_some h, h]; rfl
    have e2 : (numFrom 0 b.data.toList).getD 0 = numI b.data.toList := by obtain ⟨N, h⟩ := Option.isSome_iff_exists.1 h2; rw [numI_some h, h]; rfl
    have e3 : (numFrom 0 c.data.toList).getD 0 = numI c.data.toList := by obtain ⟨N, h⟩ := Option.isSome_iff_exists.1 h3; rw [numI_some h, h]; rfl
    simp only [h1, e1] at Ka; simp only [h2, e2] at Kb; simp only [h3, e3] at Kc
    clear h1 h2 h3 e1 e2 e3 bad
    cases hv : vldB (numI a.data.toList) (numI b.data.toList) (numI c.data.toList)
    all_goals
      first | rw [dateR_no hv] | rw [dateR_yes hv]
      first | have KV := fun w => Lib.hid (rvalid_no _ _ _ w hv) | have KV := fun w => Lib.hid (rvalid_yes _ _ _ w hv)
      clear hv
      go_enter Tryz.func98, Tryz.ntmps98
      go_wp2_with fail
      refine (Ka _).out.mono ?_; rintro e w' ⟨rfl, rfl⟩
      go_wp2_with fail
      refine (Kb _).out.mono ?_; rintro e w' ⟨rfl, rfl⟩
      go_wp2_with fail
      refine (Kc _).out.mono ?_; rintro e w' ⟨rfl, rfl⟩
      go_wp2_with fail
      refine (KV _).out.mono ?_; rintro e w1 ⟨rfl, hb1⟩
      obtain ⟨hc1, hf1⟩ := bcell hb1
      have hz1 : w.heap.size + 1 < w1.heap.size := by have := hb1.size; simp at this; omega
      go_wp2_with fail
      have hg : w1.heap[w.heap.size]? = some (.cells #[.int .i64 0, .int .i64 0, .int .i64 0] 49 (0, 0)) := blk_below hb1 (by simp; omega) (blk_old (blk_new rfl))
      exact bodyPost_row2 rfl rfl (blk_set (blk_set (blk_set hg))) Tryz.underlying49 rfl (by kernel_rfl) ⟨rfl, ((((((Below.refl _ _).alloc (Nat.le_refl _) _).alloc (by simp) _).trans (hb1.mono (by simp; omega))).setCell (by simp) _).setCell (by simp) _).setCell (by simp) _⟩
  · have hcase : (numFrom 0 a.data.toList).isSome = false ∨ ((numFrom 0 a.data.toList).isSome = true ∧ (numFrom 0 b.data.toList).isSome = false) ∨ ((numFrom 0 a.data.toList).isSome = true ∧ (numFrom 0 b.data.toList).isSome = true ∧ (numFrom 0 c.data.toList).isSome = false) := by
      cases h1 : (numFrom 0 a.data.toList).isSome <;> cases h2 : (numFrom 0 b.data.toList).isSome <;> cases h3 : (numFrom 0 c.data.toList).isSome <;> simp_all
    have hbad := bad (by rcases hcase with h | ⟨_, h⟩ | ⟨_, _, h⟩ <;> simp [h])
    rw [dateR_no hbad]
    clear bad hall hbad
    rcases hcase with h1 | ⟨h1, h2⟩ | ⟨h1, h2, h3⟩
    all_goals
      try simp only [h1] at Ka
      try simp only [h2] at Kb
      try simp only [h3] at Kc
      try clear h1
      try clear h2
      try clear h3
      go_enter Tryz.func98, Tryz.ntmps98
      go_wp2_with fail
      refine (Ka _).out.mono ?_; rintro e w' ⟨rfl, rfl⟩
      go_wp2_with fail
      refine (Kb _).out.mono ?_; rintro e w' ⟨rfl, rfl⟩
      go_wp2_with fail
      refine (Kc _).out.mono ?_; rintro e w' ⟨rfl, rfl⟩
      go_wp2_with fail
      exact bodyPost_row2 rfl rfl (blk_old (blk_new rfl)) Tryz.underlying49 rfl (by kernel_rfl) ⟨rfl, ((Below.refl _ _).alloc (Nat.le_refl _) _).alloc (by simp) _⟩
set_option maxHeartbeats 1000000 in
theorem rread_any (s : ByteArray) (w : World) :
    Calls Tryz.prog 64 #[.string s] w fun e w' => e = .returned (bif decide (s.size = 8) then dateL (s.data.toList.take 4) ((s.data.toList.drop 4).take 2) ((s.data.toList.drop 6).take 2) else dateV false 0 0 0 4) ∧ Below w.heap.size w w' := by
  by_cases h : s.size = 8
  · have hs : ((s.size : Int) == 8) = true := by simp; omega
    simp only [h, decide_true, cond_true]
    go_enter Tryz.func64, Tryz.ntmps64
    go_wp2
    go_region_held3 (fun _ => True) (trivial) (first | (go_at_call 98; refine (rmade_any _ _ _ _ (by simp; omega) (by simp; omega) (by simp; omega)).mono ?_; rintro e w1 ⟨rfl, hb1⟩; obtain ⟨hc1, hf1⟩ := bcell hb1; have hz1 : w.heap.size < w1.heap.size := (by have := hb1.size; simp at this; omega)))
    go_wp2
    have hg : w1.heap[w.heap.size]? = some (.cells #[.int .i64 0, .int .i64 0, .int .i64 0] 49 (0, 0)) := blk_below hb1 (by simp) (heap_alloc_new _ _)
    exact bodyPost_row2 rfl rfl (blk_set (blk_set (blk_set hg))) Tryz.underlying49 rfl (by kernel_rfl) ⟨rfl, (((((Below.refl _ _).alloc (Nat.le_refl _) _).drew.trans (hb1.mono (by simp))).setCell (by simp) _).setCell (by simp) _).setCell (by simp) _⟩
  · have hs : ((s.size : Int) == 8) = false := by simp; omega
    simp only [h, decide_false, cond_false]
    go_enter Tryz.func64, Tryz.ntmps64
    go_wp2
    exact bodyPost_row2 rfl rfl (heap_alloc_new _ _) Tryz.underlying49 rfl (by kernel_rfl) ⟨rfl, ((Below.refl _ _).alloc (Nat.le_refl _) _)⟩

set_option maxHeartbeats 4000000 in
theorem rparse_ten (s : ByteArray) (w : World) (h : s.size = 10) :
    Calls Tryz.prog 57 #[.string s] w fun e w' => e = .returned (parseV s) ∧ Below w.heap.size w w' := by
  have hs : ((s.size : Int) == 10) = true := by simp; omega
  go_enter Tryz.func57, Tryz.ntmps57
  go_wp2
  all_goals
    have e2 := byteAt_get s 2 (by omega)
    have e4 := byteAt_get s 4 (by omega)
    have e5 := byteAt_get s 5 (by omega)
    have e7 := byteAt_get s 7 (by omega)
  all_goals
    first
    | exact bodyPost_row2 rfl rfl (heap_alloc_new _ _) Tryz.underlying49 rfl (by kernel_rfl) ⟨congrArg Ending.returned (by (try simp only [beq_iff_eq, beq_eq_false_iff_ne, ne_eq] at *); simp [parseV, pk_false, cd_false, *]; try rfl), ((Below.refl _ _).alloc (Nat.le_refl _) _)⟩
    | (clear e2 e4 e5 e7
       go_region_held3 (fun _ => True) (trivial) (first | (go_at_call 98; refine (rmade_any _ _ _ _ (by simp; omega) (by simp; omega) (by simp; omega)).mono ?_; rintro e w1 ⟨rfl, hb1⟩; obtain ⟨hc1, hf1⟩ := bcell hb1; have hz1 : w.heap.size < w1.heap.size := (by have := hb1.size; simp at this; omega)))
       go_wp2
       have hg : w1.heap[w.heap.size]? = some (.cells #[.int .i64 0, .int .i64 0, .int .i64 0] 49 (0, 0)) := blk_below hb1 (by simp) (heap_alloc_new _ _)
       have e2 := byteAt_get s 2 (by omega)
       have e4 := byteAt_get s 4 (by omega)
       have e5 := byteAt_get s 5 (by omega)
       have e7 := byteAt_get s 7 (by omega)
       exact bodyPost_row2 rfl rfl (blk_set (blk_set (blk_set hg))) Tryz.underlying49 rfl (by kernel_rfl) ⟨congrArg Ending.returned (by (try simp only [beq_iff_eq, beq_eq_false_iff_ne, ne_eq] at *); simp [parseV, pk_false, cd_false, *]; try rfl), (((((Below.refl _ _).alloc (Nat.le_refl _) _).drew.trans (hb1.mono (by simp))).setCell (by simp) _).setCell (by simp) _).setCell (by simp) _⟩)
theorem rparse_any (s : ByteArray) (w : World) :
    Calls Tryz.prog 57 #[.string s] w fun e w' => e = .returned (parseV s) ∧ Below w.heap.size w w' := by
  by_cases h : s.size = 10
  · exact rparse_ten s w h
  · have hs : ((s.size : Int) == 10) = false := by simp; omega
    rw [parseV, if_neg h]
    go_enter Tryz.func57, Tryz.ntmps57
    go_wp2
    exact bodyPost_row2 rfl rfl (heap_alloc_new _ _) Tryz.underlying49 rfl (by kernel_rfl) ⟨rfl, ((Below.refl _ _).alloc (Nat.le_refl _) _)⟩
end Go.Proofs.YtfgoiojmbphmnaaGreatDoor
end
section
/- Contracts of date.Age and date.Swapped: for all dates. -/
set_option linter.unusedSimpArgs false
set_option linter.unusedVariables false
namespace Go.Proofs.YtfgoiojmbphmnaaGreatDoor
open Go.RowKit Cal
/-- the age in years, of two valid dates -/
def ageI (y m d y' m' d' : Int) : Int := bif befB m' d' m d then y' - y - 1 else y' - y
def ageV (y m d y' m' d' : Int) : Value :=
  if vldB y m d = true ∧ vldB y' m' d' = true then (if ageI y m d y' m' d' < 0 then .tuple #[.int .i64 0, .int .i64 2] else .tuple #[.int .i64 (ageI y m d y' m' d'), .int .i64 0]) else .tuple #[.int .i64 0, .int .i64 4]
def swV (y m d : Int) : Value :=
  if vldB y m d = true ∧ vldB y d m = true then .tuple #[.agg #[.int .i64 y, .int .i64 d, .int .i64 m], .bool true] else .tuple #[.agg #[.int .i64 0, .int .i64 0, .int .i64 0], .bool false]
end Go.Proofs.YtfgoiojmbphmnaaGreatDoor
end
section
/- Contracts of date.Day and date.FromDay: for every date and every number. -/
set_option linter.unusedSimpArgs false
set_option linter.unusedVariables false
namespace Go.Proofs.YtfgoiojmbphmnaaGreatDoor
open Go.RowKit Cal
def FromPost (n : Int) (w : World) (e : Ending) (w' : World) : Prop :=
  (∃ y m d : Int, e = .returned (.tuple #[.agg #[.int .i64 y, .int .i64 m, .int .i64 d], .int .i64 0]) ∧ vldB y m d = true ∧ num y m d = n) ∧ Below w.heap.size w w'
end Go.Proofs.YtfgoiojmbphmnaaGreatDoor
end
section
/- Contracts of the reference of dates (recordlinkref03): two, Format, Day, FromDay, Swapped, Age: as those of the program. -/
set_option linter.unusedSimpArgs false
set_option linter.unusedVariables false
namespace Go.Proofs.YtfgoiojmbphmnaaGreatDoor
open Go.RowKit Cal
theorem hcv_two (n : Int) (h0 : 0 ≤ n) (h1 : n ≤ 99) : ∀ w : World, (convert 66 9 (.slice (some ⟨w.heap.size, 0, none⟩) 2 2)).run Tryz.prog (w.alloc (.cells #[.int .u8 (48 + n / 10), .int .u8 (48 + n % 10)] 5)) = .ok (.string ⟨(dg n 2).toArray⟩) (w.alloc (.cells #[.int .u8 (48 + n / 10), .int .u8 (48 + n % 10)] 5)) := by
  intro w
  have ho := owns_new (w := w) (B := 0) (e := 5) (dg n 2) (Nat.zero_le _) (by rw [dg_len]; omega)
  rw [dg_len] at ho
  have e1 : (dg n 2).map byteV = [.int .u8 (48 + n / 10), .int .u8 (48 + n % 10)] := by
    simp only [dg, List.nil_append, List.cons_append, List.map_cons, List.map_nil]
    rw [dgb _ (by omega), dgb _ h0]
    have : n / 10 % 10 = n / 10 := by omega
    rw [this]
  rw [e1] at ho
  exact run_convert_owned (dg n 2) (by rw [e1]; exact ho) Tryz.underlying66 Tryz.underlying5 Tryz.underlying9
set_option maxHeartbeats 400000 in
theorem rtwo_any (n : Int) (w : World) (h0 : 0 ≤ n) (h1 : n ≤ 99) :
    Calls Tryz.prog 99 #[.int .i64 n] w fun e w' => e = .returned (.string ⟨(dg n 2).toArray⟩) ∧ Below w.heap.size w w' := by
  have ha : 0 ≤ n / 10 ∧ n / 10 ≤ 9 := by omega
  have hb : 0 ≤ n % 10 ∧ n % 10 ≤ 9 := by omega
  obtain ⟨ha1, ha2⟩ := ha
  obtain ⟨hb1, hb2⟩ := hb
  have hcv := hcv_two n h0 h1
  go_enter Tryz.func99, Tryz.ntmps99
  go_wp2
  go_ret
  exact ⟨rfl, (Below.refl _ _).alloc (Nat.le_refl _) _⟩
attribute [local go_sem] dg_len bytes_append
set_option maxHeartbeats 2000000 in
theorem rformat_yes (y m d : Int) (w : World) (hv : vldB y m d = true) :
    Calls Tryz.prog 58 #[.agg #[.int .i64 y, .int .i64 m, .int .i64 d]] w fun e w' => e = .returned (.tuple #[.string ⟨(digits8 y m d).toArray⟩, .int .i64 0]) ∧ Below w.heap.size w w' := by
  obtain ⟨b1, b2, b3, b4, b5, b6⟩ := vld_bd hv
  have q1 : 0 ≤ y / 100 ∧ y / 100 ≤ 99 := by omega
  have q2 : 0 ≤ y % 100 ∧ y % 100 ≤ 99 := by omega
  obtain ⟨q1, q1'⟩ := q1
  obtain ⟨q2, q2'⟩ := q2
  have HD : Hid (dg (y / 100) 2 ++ (dg (y % 100) 2 ++ (dg m 2 ++ dg d 2)) = digits8 y m d) := by
    show _ = _
    rw [dg_mod y (by omega), digits8, dg_two y]; simp
  have KV := fun w => Lib.hid (rvalid_yes y m d w hv)
  clear hv
  have m99 : m ≤ 99 := by omega
  have d99 : d ≤ 99 := by omega
  have d0 : 0 ≤ d := by omega
  have m0 : 0 ≤ m := by omega
  have e1 : IntKind.i64.wrap (y.tdiv 100) = y / 100 := by rw [Int.tdiv_eq_ediv_of_nonneg (by omega)]; exact IntWalk.i64_in _ ⟨by omega, by omega⟩
  have e2 : y.tmod 100 = y % 100 := Int.tmod_eq_emod_of_nonneg (by omega)
  go_enter Tryz.func58, Tryz.ntmps58
  go_wp2_with fail
  refine (KV _).out.mono ?_; rintro e w0 ⟨rfl, hb0⟩
  have z0 : w.heap.size < w0.heap.size := by clear e1 e2; have := hb0.size; simp at this; omega
  have HB0 := Lib.hid (((Below.refl _ _).alloc (Nat.le_refl _) _).trans (hb0.mono (by simp))).drew
  have c00 : w0.cell? ⟨w.heap.size, 0, none⟩ = some (.int .i64 y) := (hb0.cell (p := ⟨w.heap.size, 0, none⟩) (by simp)).trans (by simp)
  have c10 : w0.cell? ⟨w.heap.size, 1, none⟩ = some (.int .i64 m) := (hb0.cell (p := ⟨w.heap.size, 1, none⟩) (by simp)).trans (by simp)
  have c20 : w0.cell? ⟨w.heap.size, 2, none⟩ = some (.int .i64 d) := (hb0.cell (p := ⟨w.heap.size, 2, none⟩) (by simp)).trans (by simp)
  clear hb0
  go_wp2_with fail
  refine wp_region_noPanic ?_
  refine wp_region_held_drew (S := (fun w' => w'.cell? ⟨w.heap.size, 0, none⟩ = some (.int .i64 y) ∧ w'.cell? ⟨w.heap.size, 1, none⟩ = some (.int .i64 m) ∧ w'.cell? ⟨w.heap.size, 2, none⟩ = some (.int .i64 d))) (by kernel_rfl) (⟨c00, c10, c20⟩) (fun hHeld => ?_)
  refine wpAnyH_take (i := 0) (v := ?_) rfl (by kernel_rfl) (by kernel_rfl) (by kernel_rfl) (fun _ _ _ h => h) (Or.inl ⟨by rfl, ?_⟩) (by assumption) ?_
  rotate_left 1
  · (intro wS hSw; (try dsimp only at hSw); go_simp; try with_reducible rfl)
  try simp only [List.getElem_toArray, List.getElem_cons_zero, List.getElem_cons_succ, Act.put, List.setIfInBounds_toArray, List.set_cons_zero, List.set_cons_succ]
  refine wpAnyH_take (i := 1) (v := ?_) rfl (by kernel_rfl) (by kernel_rfl) (by kernel_rfl) (fun _ _ _ h => h) (Or.inl ⟨by rfl, ?_⟩) (by assumption) ?_
  rotate_left 1
  · (intro wS hSw; (try dsimp only at hSw); go_simp; try with_reducible rfl)
  try simp only [List.getElem_toArray, List.getElem_cons_zero, List.getElem_cons_succ, Act.put, List.setIfInBounds_toArray, List.set_cons_zero, List.set_cons_succ]
  refine wpAnyH_take (i := 2) (v := ?_) rfl (by kernel_rfl) (by kernel_rfl) (by kernel_rfl) (fun _ _ _ h => h) (Or.inl ⟨by rfl, ?_⟩) (by assumption) ?_
  rotate_left 1
  · (intro wS hSw; (try dsimp only at hSw); go_simp; try with_reducible rfl)
  try simp only [List.getElem_toArray, List.getElem_cons_zero, List.getElem_cons_succ, Act.put, List.setIfInBounds_toArray, List.set_cons_zero, List.set_cons_succ]
  refine wpAnyH_take (i := 4) (v := ?_) rfl (by kernel_rfl) (by kernel_rfl) (by kernel_rfl) (fun _ _ _ h => h) (Or.inl ⟨by rfl, ?_⟩) (by assumption) ?_
  rotate_left 1
  · (intro wS hSw; (try dsimp only at hSw); go_simp; try with_reducible rfl)
  try simp only [List.getElem_toArray, List.getElem_cons_zero, List.getElem_cons_succ, Act.put, List.setIfInBounds_toArray, List.set_cons_zero, List.set_cons_succ]
  refine wpAnyH_take (i := 5) (v := ?_) rfl (by kernel_rfl) (by kernel_rfl) (by kernel_rfl) (fun _ _ _ h => h) (Or.inl ⟨by rfl, ?_⟩) (by assumption) ?_
  rotate_left 1
  · (intro wS hSw; (try dsimp only at hSw); go_simp; try with_reducible rfl)
  try simp only [List.getElem_toArray, List.getElem_cons_zero, List.getElem_cons_succ, Act.put, List.setIfInBounds_toArray, List.set_cons_zero, List.set_cons_succ]
  refine wpAnyH_take (i := 6) (v := ?_) rfl (by kernel_rfl) (by kernel_rfl) (by kernel_rfl) (fun _ _ _ h => h) (Or.inl ⟨by rfl, ?_⟩) (by assumption) ?_
  rotate_left 1
  · (intro wS hSw; (try dsimp only at hSw); go_simp; try with_reducible rfl)
  try simp only [List.getElem_toArray, List.getElem_cons_zero, List.getElem_cons_succ, Act.put, List.setIfInBounds_toArray, List.set_cons_zero, List.set_cons_succ]
  refine wpAnyH_take (i := 9) (v := ?_) rfl (by kernel_rfl) (by kernel_rfl) (by kernel_rfl) (fun _ _ _ h => h) (Or.inl ⟨by rfl, ?_⟩) (by assumption) ?_
  rotate_left 1
  · (intro wS hSw; (try dsimp only at hSw); go_simp; try with_reducible rfl)
  try simp only [List.getElem_toArray, List.getElem_cons_zero, List.getElem_cons_succ, Act.put, List.setIfInBounds_toArray, List.set_cons_zero, List.set_cons_succ]
  refine wpAnyH_take (i := 10) (v := ?_) rfl (by kernel_rfl) (by kernel_rfl) (by kernel_rfl) (fun _ _ _ h => h) (Or.inl ⟨by rfl, ?_⟩) (by assumption) ?_
  rotate_left 1
  · (intro wS hSw; (try dsimp only at hSw); go_simp; try with_reducible rfl)
  try simp only [List.getElem_toArray, List.getElem_cons_zero, List.getElem_cons_succ, Act.put, List.setIfInBounds_toArray, List.set_cons_zero, List.set_cons_succ]
  refine wpAnyH_take (i := 13) (v := ?_) rfl (by kernel_rfl) (by kernel_rfl) (by kernel_rfl) (fun _ _ _ h => h) (Or.inl ⟨by rfl, ?_⟩) (by assumption) ?_
  rotate_left 1
  · (intro wS hSw; (try dsimp only at hSw); go_simp; try with_reducible rfl)
  try simp only [List.getElem_toArray, List.getElem_cons_zero, List.getElem_cons_succ, Act.put, List.setIfInBounds_toArray, List.set_cons_zero, List.set_cons_succ]
  refine wpAnyH_take (i := 14) (v := ?_) rfl (by kernel_rfl) (by kernel_rfl) (by kernel_rfl) (fun _ _ _ h => h) (Or.inl ⟨by rfl, ?_⟩) (by assumption) ?_
  rotate_left 1
  · (intro wS hSw; (try dsimp only at hSw); go_simp; try with_reducible rfl)
  try simp only [List.getElem_toArray, List.getElem_cons_zero, List.getElem_cons_succ, Act.put, List.setIfInBounds_toArray, List.set_cons_zero, List.set_cons_succ]
  refine wpAnyH_ready (rs := [3]) (by kernel_rfl) (by simp) ?_
  refine AllReadyH.cons rfl (fun K hK => ?_) AllReadyH.nil
  go_simp
  refine (rtwo_any _ _ q1 q1').mono ?_; rintro e w1 ⟨rfl, hb1⟩; have z1 : w.heap.size < w1.heap.size := (by clear e1 e2; have := hb1.size; (try simp at this); omega); have HB1 := Lib.hid (HB0.out.trans (hb1.mono (by have := HB0.out.size; simpa using this))); have c01 := (hb1.cell (p := ⟨w.heap.size, 0, none⟩) (by simpa using z0)).trans c00; have c11 := (hb1.cell (p := ⟨w.heap.size, 1, none⟩) (by simpa using z0)).trans c10; have c21 := (hb1.cell (p := ⟨w.heap.size, 2, none⟩) (by simpa using z0)).trans c20; clear hb1 c00 c10 c20
  refine hK.out _ _ (⟨c01, c11, c21⟩) (fun hHeld => ?_)
  clear hK K
  try simp only [List.getElem_toArray, List.getElem_cons_zero, List.getElem_cons_succ, Act.put, List.setIfInBounds_toArray, List.set_cons_zero, List.set_cons_succ]
  refine wpAnyH_ready (rs := [7]) (by kernel_rfl) (by simp) ?_
  refine AllReadyH.cons rfl (fun K hK => ?_) AllReadyH.nil
  go_simp
  refine (rtwo_any _ _ q2 q2').mono ?_; rintro e w2 ⟨rfl, hb2⟩; have z2 : w.heap.size < w2.heap.size := (by clear e1 e2; have := hb2.size; (try simp at this); omega); have HB2 := Lib.hid (HB1.out.trans (hb2.mono (by have := HB1.out.size; simpa using this))); have c02 := (hb2.cell (p := ⟨w.heap.size, 0, none⟩) (by simpa using z1)).trans c01; have c12 := (hb2.cell (p := ⟨w.heap.size, 1, none⟩) (by simpa using z1)).trans c11; have c22 := (hb2.cell (p := ⟨w.heap.size, 2, none⟩) (by simpa using z1)).trans c21; clear hb2 c01 c11 c21
  refine hK.out _ _ (⟨c02, c12, c22⟩) (fun hHeld => ?_)
  clear hK K
  try simp only [List.getElem_toArray, List.getElem_cons_zero, List.getElem_cons_succ, Act.put, List.setIfInBounds_toArray, List.set_cons_zero, List.set_cons_succ]
  refine wpAnyH_take (i := 8) (v := ?_) rfl (by kernel_rfl) (by kernel_rfl) (by kernel_rfl) (fun _ _ _ h => h) (Or.inl ⟨by rfl, ?_⟩) (by assumption) ?_
  rotate_left 1
  · (intro wS hSw; (try dsimp only at hSw); go_simp; try with_reducible rfl)
  try simp only [List.getElem_toArray, List.getElem_cons_zero, List.getElem_cons_succ, Act.put, List.setIfInBounds_toArray, List.set_cons_zero, List.set_cons_succ]
  refine wpAnyH_ready (rs := [11]) (by kernel_rfl) (by simp) ?_
  refine AllReadyH.cons rfl (fun K hK => ?_) AllReadyH.nil
  go_simp
  refine (rtwo_any _ _ m0 m99).mono ?_; rintro e w3 ⟨rfl, hb3⟩; have z3 : w.heap.size < w3.heap.size := (by clear e1 e2; have := hb3.size; (try simp at this); omega); have HB3 := Lib.hid (HB2.out.trans (hb3.mono (by have := HB2.out.size; simpa using this))); have c03 := (hb3.cell (p := ⟨w.heap.size, 0, none⟩) (by simpa using z2)).trans c02; have c13 := (hb3.cell (p := ⟨w.heap.size, 1, none⟩) (by simpa using z2)).trans c12; have c23 := (hb3.cell (p := ⟨w.heap.size, 2, none⟩) (by simpa using z2)).trans c22; clear hb3 c02 c12 c22
  refine hK.out _ _ (⟨c03, c13, c23⟩) (fun hHeld => ?_)
  clear hK K
  try simp only [List.getElem_toArray, List.getElem_cons_zero, List.getElem_cons_succ, Act.put, List.setIfInBounds_toArray, List.set_cons_zero, List.set_cons_succ]
  refine wpAnyH_take (i := 12) (v := ?_) rfl (by kernel_rfl) (by kernel_rfl) (by kernel_rfl) (fun _ _ _ h => h) (Or.inl ⟨by rfl, ?_⟩) (by assumption) ?_
  rotate_left 1
  · (intro wS hSw; (try dsimp only at hSw); go_simp; try with_reducible rfl)
  try simp only [List.getElem_toArray, List.getElem_cons_zero, List.getElem_cons_succ, Act.put, List.setIfInBounds_toArray, List.set_cons_zero, List.set_cons_succ]
  refine wpAnyH_ready (rs := [15]) (by kernel_rfl) (by simp) ?_
  refine AllReadyH.cons rfl (fun K hK => ?_) AllReadyH.nil
  go_simp
  refine (rtwo_any _ _ d0 d99).mono ?_; rintro e w4 ⟨rfl, hb4⟩; have z4 : w.heap.size < w4.heap.size := (by clear e1 e2; have := hb4.size; (try simp at this); omega); have HB4 := Lib.hid (HB3.out.trans (hb4.mono (by have := HB3.out.size; simpa using this))); have c04 := (hb4.cell (p := ⟨w.heap.size, 0, none⟩) (by simpa using z3)).trans c03; have c14 := (hb4.cell (p := ⟨w.heap.size, 1, none⟩) (by simpa using z3)).trans c13; have c24 := (hb4.cell (p := ⟨w.heap.size, 2, none⟩) (by simpa using z3)).trans c23; clear hb4 c03 c13 c23
  refine hK.out _ _ (⟨c04, c14, c24⟩) (fun hHeld => ?_)
  clear hK K
  try simp only [List.getElem_toArray, List.getElem_cons_zero, List.getElem_cons_succ, Act.put, List.setIfInBounds_toArray, List.set_cons_zero, List.set_cons_succ]
  refine wpAnyH_take (i := 16) (v := ?_) rfl (by kernel_rfl) (by kernel_rfl) (by kernel_rfl) (fun _ _ _ h => h) (Or.inl ⟨by rfl, ?_⟩) (by assumption) ?_
  rotate_left 1
  · (intro wS hSw; (try dsimp only at hSw); go_simp; try with_reducible rfl)
  try simp only [List.getElem_toArray, List.getElem_cons_zero, List.getElem_cons_succ, Act.put, List.setIfInBounds_toArray, List.set_cons_zero, List.set_cons_succ]
  refine wpAnyH_take (i := 17) (v := ?_) rfl (by kernel_rfl) (by kernel_rfl) (by kernel_rfl) (fun _ _ _ h => h) (Or.inl ⟨by rfl, ?_⟩) (by assumption) ?_
  rotate_left 1
  · (intro wS hSw; (try dsimp only at hSw); go_simp; try with_reducible rfl)
  try simp only [List.getElem_toArray, List.getElem_cons_zero, List.getElem_cons_succ, Act.put, List.setIfInBounds_toArray, List.set_cons_zero, List.set_cons_succ]
  refine wpAnyH_take (i := 18) (v := ?_) rfl (by kernel_rfl) (by kernel_rfl) (by kernel_rfl) (fun _ _ _ h => h) (Or.inl ⟨by rfl, ?_⟩) (by assumption) ?_
  rotate_left 1
  · (intro wS hSw; (try dsimp only at hSw); go_simp; try with_reducible rfl)
  try simp only [List.getElem_toArray, List.getElem_cons_zero, List.getElem_cons_succ, Act.put, List.setIfInBounds_toArray, List.set_cons_zero, List.set_cons_succ]
  refine wpAnyH_done (by kernel_rfl) ?_ _
  refine NoPanic.normal ?_
  clear e1 e2
  go_wp2
  go_ret2
  exact ⟨by rw [← HD.out]; simp, HB4.out⟩
set_option maxHeartbeats 400000 in
theorem rformat_no (y m d : Int) (w : World) (hv : vldB y m d = false) :
    Calls Tryz.prog 58 #[.agg #[.int .i64 y, .int .i64 m, .int .i64 d]] w fun e w' => e = .returned (.tuple #[.string ⟨#[]⟩, .int .i64 4]) ∧ Below w.heap.size w w' := by
  go_enter Tryz.func58, Tryz.ntmps58
  go_wp2_with fail
  refine (rvalid_no _ _ _ _ hv).mono ?_
  rintro e w1 ⟨rfl, hb1⟩
  go_wp2_with fail
  go_ret2
  exact ⟨rfl, ((Below.refl _ _).alloc (Nat.le_refl _) _).trans (hb1.mono (by simp))⟩
theorem rformat_any (y m d : Int) (w : World) :
    Calls Tryz.prog 58 #[.agg #[.int .i64 y, .int .i64 m, .int .i64 d]] w fun e w' => e = .returned (.tuple #[.string ⟨(fmtL y m d).toArray⟩, .int .i64 (cd (vldB y m d) 4)]) ∧ Below w.heap.size w w' := by
  unfold fmtL
  cases hv : vldB y m d with
  | true => exact rformat_yes y m d w hv
  | false => exact rformat_no y m d w hv
theorem age_neg {y m d y' m' d' : Int} (h : vldB y m d = true) (h' : vldB y' m' d' = true) : ageI y m d y' m' d' < 0 ↔ num y' m' d' < num y m d := by
  have b1 := vld_bd h; have b2 := vld_bd h'
  rw [num_lt _ _ _ _ _ _ h' h]
  cases hb : befB m' d' m d with
  | true =>
    have : m' < m ∨ (m' = m ∧ d' < d) := by simpa [befB] using hb
    unfold ageI; rw [hb]; simp only [cond_true]; omega
  | false =>
    have : ¬ (m' < m ∨ (m' = m ∧ d' < d)) := by simpa [befB] using hb
    unfold ageI; rw [hb]; simp only [cond_false]; omega
end Go.Proofs.YtfgoiojmbphmnaaGreatDoor
end
section
/- The reference of layer 12 (schema): Normalise. -/
set_option linter.unusedSimpArgs false
set_option linter.unusedVariables false
set_option maxRecDepth 100000
namespace Go.Proofs.YtfgoiojmbphmnaaGreatDoor
open Go.RowKit Cal
attribute [local go_sem] toList_mk mk_size
set_option maxHeartbeats 4000000 in
theorem rvalue_any (S : Nat → Prop) (vf vt vn vs : Value) (s : SchemaL) (f : Int) (x : ByteArray) (w : World) (h : SchemaAt w S vf vt vn vs s) (hx : x.size ≤ 9223372036854775000) :
    Calls Tryz.prog 30 #[.agg #[vf, vt, vn, vs], .int .i64 f, .string x] w fun e w' => e = .returned (pairV (valueN s f x.data.toList)) ∧ Below w.heap.size w w' := by
  have HS := Lib.hid h.any
  have HL := Lib.hid (Lib.toList_data x)
  obtain ⟨hf1, hf2⟩ := h
  obtain ⟨af, cf, rfl⟩ := hf1.slice
  have HV1 := Lib.hid hf1.any
  have hfin : ∀ p, valueN s f x.data.toList = p → Ending.returned (pairV p) = .returned (pairV (valueN s f x.data.toList)) := fun p h => by rw [h]
  have HF := Lib.hid hfin
  clear hf1 hf2 hfin
  have hval : valueN s f x.data.toList = if (findN s f).2 = 0 then (if x.data.toList = [] then ([], 0) else normK (findN s f).1 s.rules x.data.toList) else ([], (findN s f).2) := rfl
  have hkk := findN_kind (s := s) (f := f)
  have hfn : findN s f = if checkS s = 0 then (if 0 ≤ f ∧ f < s.fields.length then ((s.fields.getD f.toNat default).2, 0) else (0, 2)) else (0, checkS s) := rfl
  have K := rscheck_any Any1 (.slice af s.fields.length cf) vt vn vs s (w.alloc (.cells #[.slice af s.fields.length cf, vt, vn, vs] 33)) (HS.out.below ((Below.refl _ _).alloc (Nat.le_refl _) _))
  have hcf := fun h => (check_fields (s := s) h).1
  obtain ⟨c, hc⟩ : ∃ c, checkS s = c := ⟨_, rfl⟩
  rw [hc] at K hfn hcf
  have HK := Lib.hid K; clear K
  have START := Lib.hid (trivial : True)
  by_cases he : c = 0
  · subst he
    have hlen := (hcf rfl).2
    clear hcf
    rw [if_pos rfl] at hfn
    by_cases hr : 0 ≤ f ∧ f < s.fields.length
    · rw [if_pos hr] at hfn
      obtain ⟨r1, r2⟩ := hr
      obtain ⟨k, rfl⟩ := Int.eq_ofNat_of_zero_le r1
      rw [Int.toNat_natCast] at hfn
      have hk : k < s.fields.length := by omega
      obtain ⟨b, off, rfl, _, hb, hcell⟩ := vec_cell2 HV1.out (by omega)
      obtain ⟨y, hy⟩ : ∃ y, s.fields.getD k default = y := ⟨_, rfl⟩
      have hck := hcell k hk
      rw [hy] at hck hfn
      obtain ⟨nm, kd⟩ := y
      have C1 := Lib.hid (show w.cell? ⟨b, off + k * 2 + 1, none⟩ = some (.int .i64 kd) from hck 1 _ rfl)
      rw [hfn] at hval hkk
      dsimp only at hval hkk
      have hkd := hkk rfl
      rw [if_pos rfl] at hval
      have HVal := Lib.hid hval
      have t1 : decide ((k : Int) < 0) = false := by simp
      have t2 : decide ((s.fields.length : Int) ≤ k) = false := by simp; omega
      have t3 : (k : Int) < (s.fields.length : Int) := by omega
      clear hck hcell hfn hkk hval hy r1 r2
      by_cases hx0 : x.data.toList = []
      · have e1 : x.toList = [] := by rw [HL.out, hx0]
        have HE := Lib.hid (show valueN s (k : Int) x.data.toList = ([], 0) by rw [HVal.out, if_pos hx0])
        clear hx0 hkd
        go_enter Tryz.func30, Tryz.ntmps30
        go_wp2_with fail
        refine HK.out.mono ?_
        rintro e w1 ⟨rfl, hb1⟩
        have HB1 := Lib.hid (((Below.refl w.heap.size w).alloc (Nat.le_refl _) (.cells #[.slice (some ⟨b, off, none⟩) s.fields.length cf, vt, vn, vs] 33)).trans (hb1.mono (by simp)))
        have HX1 := Lib.hid (blk_below (b := w.heap.size) (o := .cells #[.slice (some ⟨b, off, none⟩) s.fields.length cf, vt, vn, vs] 33 (0, 0)) hb1 (by simp) (blk_new rfl))
        clear hb1 HK
        have z0 := lt_of_blk HX1.out
        obtain ⟨p0, p1, p2, p3⟩ := cells4 HX1.out
        go_wp2_with fail
        go_ret2
        exact ⟨HF.out _ HE.out, HB1.out⟩
      · have e1 : (x.toList == []) = false := by rw [HL.out]; simpa using hx0
        have e2 : x.toList.isEmpty = false := by rw [HL.out]; simpa using hx0
        have HE := Lib.hid (show valueN s (k : Int) x.data.toList = normK kd s.rules x.data.toList by rw [HVal.out, if_neg hx0])
        clear hx0
        rcases hkd with rfl | rfl | rfl | rfl
        · have HE2 := Lib.hid (show valueN s (k : Int) x.data.toList = nameN s.rules x.data.toList from HE.out)
          go_enter Tryz.func30, Tryz.ntmps30
          go_wp2_with fail
          refine HK.out.mono ?_
          rintro e w1 ⟨rfl, hb1⟩
          have HB1 := Lib.hid (((Below.refl w.heap.size w).alloc (Nat.le_refl _) (.cells #[.slice (some ⟨b, off, none⟩) s.fields.length cf, vt, vn, vs] 33)).trans (hb1.mono (by simp)))
          have HX1 := Lib.hid (blk_below (b := w.heap.size) (o := .cells #[.slice (some ⟨b, off, none⟩) s.fields.length cf, vt, vn, vs] 33 (0, 0)) hb1 (by simp) (blk_new rfl))
          clear hb1 HK
          have z0 := lt_of_blk HX1.out
          obtain ⟨p0, p1, p2, p3⟩ := cells4 HX1.out
          have c1 : w1.cell? ⟨b, off + k * 2 + 1, none⟩ = some (.int .i64 1) := (HB1.out.cell (p := ⟨b, off + k * 2 + 1, none⟩) hb).trans C1.out
          go_wp2_with fail
          refine (rnorm_any Any1 vt vn vs s.rules x _ (HS.out.2.below HB1.out) hx).mono ?_
          rw [← HE2.out]
          obtain ⟨⟨pl, pe⟩, hpp⟩ : ∃ p, valueN s (k : Int) x.data.toList = p := ⟨_, rfl⟩
          rw [hpp]
          have HPP := Lib.hid hpp
          unfold pairV
          rintro e w3 ⟨rfl, hb3⟩
          have HB3 := Lib.hid (HB1.out.trans (hb3.mono HB1.out.size))
          clear hb3 hpp HE HE2 p0 p1 p2 p3 c1
          go_wp2_with fail
          go_ret2
          exact ⟨HF.out _ HPP.out, HB3.out⟩
        · have HE2 := Lib.hid (show valueN s (k : Int) x.data.toList = dayN x.data.toList from HE.out)
          rcases parse_is x with ⟨da, db, dc, hv, hp, hd⟩ | ⟨hp, hd⟩
          · have HV := Lib.hid hv; have HP := Lib.hid hp
            have HE3 := Lib.hid (HE2.out.trans hd)
            clear hv hp hd HE HE2
            go_enter Tryz.func30, Tryz.ntmps30
            go_wp2_with fail
            refine HK.out.mono ?_
            rintro e w1 ⟨rfl, hb1⟩
            have HB1 := Lib.hid (((Below.refl w.heap.size w).alloc (Nat.le_refl _) (.cells #[.slice (some ⟨b, off, none⟩) s.fields.length cf, vt, vn, vs] 33)).trans (hb1.mono (by simp)))
            have HX1 := Lib.hid (blk_below (b := w.heap.size) (o := .cells #[.slice (some ⟨b, off, none⟩) s.fields.length cf, vt, vn, vs] 33 (0, 0)) hb1 (by simp) (blk_new rfl))
            clear hb1 HK
            have z0 := lt_of_blk HX1.out
            obtain ⟨p0, p1, p2, p3⟩ := cells4 HX1.out
            have c1 : w1.cell? ⟨b, off + k * 2 + 1, none⟩ = some (.int .i64 2) := (HB1.out.cell (p := ⟨b, off + k * 2 + 1, none⟩) hb).trans C1.out
            go_wp2_with fail
            refine (rparse_any x _).mono ?_
            rw [HP.out]
            rintro e w2 ⟨rfl, hb2⟩
            have HB2 := Lib.hid (HB1.out.trans (hb2.mono HB1.out.size))
            clear hb2 p0 p1 p2 p3 c1
            go_wp2_with fail
            refine (rformat_yes da db dc _ HV.out).mono ?_
            rintro e w3 ⟨rfl, hb3⟩
            have HB3 := Lib.hid ((HB2.out.alloc HB2.out.size (.cells #[.int .i64 da, .int .i64 db, .int .i64 dc] 49)).trans (hb3.mono (by have := HB2.out.size; simp; omega)))
            clear hb3
            go_wp2_with fail
            go_ret2
            exact ⟨HF.out _ HE3.out, HB3.out⟩
          · have HP := Lib.hid hp
            have HE3 := Lib.hid (HE2.out.trans hd)
            clear hp hd HE HE2
            go_enter Tryz.func30, Tryz.ntmps30
            go_wp2_with fail
            refine HK.out.mono ?_
            rintro e w1 ⟨rfl, hb1⟩
            have HB1 := Lib.hid (((Below.refl w.heap.size w).alloc (Nat.le_refl _) (.cells #[.slice (some ⟨b, off, none⟩) s.fields.length cf, vt, vn, vs] 33)).trans (hb1.mono (by simp)))
            have HX1 := Lib.hid (blk_below (b := w.heap.size) (o := .cells #[.slice (some ⟨b, off, none⟩) s.fields.length cf, vt, vn, vs] 33 (0, 0)) hb1 (by simp) (blk_new rfl))
            clear hb1 HK
            have z0 := lt_of_blk HX1.out
            obtain ⟨p0, p1, p2, p3⟩ := cells4 HX1.out
            have c1 : w1.cell? ⟨b, off + k * 2 + 1, none⟩ = some (.int .i64 2) := (HB1.out.cell (p := ⟨b, off + k * 2 + 1, none⟩) hb).trans C1.out
            go_wp2_with fail
            refine (rparse_any x _).mono ?_
            rw [HP.out]
            rintro e w2 ⟨rfl, hb2⟩
            have HB2 := Lib.hid (HB1.out.trans (hb2.mono HB1.out.size))
            clear hb2 p0 p1 p2 p3 c1
            go_wp2_with fail
            go_ret2
            exact ⟨HF.out _ HE3.out, HB2.out.alloc HB2.out.size _⟩
        · have HE2 := Lib.hid (show valueN s (k : Int) x.data.toList = codeN x.data.toList from HE.out)
          go_enter Tryz.func30, Tryz.ntmps30
          go_wp2_with fail
          refine HK.out.mono ?_
          rintro e w1 ⟨rfl, hb1⟩
          have HB1 := Lib.hid (((Below.refl w.heap.size w).alloc (Nat.le_refl _) (.cells #[.slice (some ⟨b, off, none⟩) s.fields.length cf, vt, vn, vs] 33)).trans (hb1.mono (by simp)))
          have HX1 := Lib.hid (blk_below (b := w.heap.size) (o := .cells #[.slice (some ⟨b, off, none⟩) s.fields.length cf, vt, vn, vs] 33 (0, 0)) hb1 (by simp) (blk_new rfl))
          clear hb1 HK
          have z0 := lt_of_blk HX1.out
          obtain ⟨p0, p1, p2, p3⟩ := cells4 HX1.out
          have c1 : w1.cell? ⟨b, off + k * 2 + 1, none⟩ = some (.int .i64 3) := (HB1.out.cell (p := ⟨b, off + k * 2 + 1, none⟩) hb).trans C1.out
          go_wp2_with fail
          refine (rcode_any x _ hx).mono ?_
          rw [← HE2.out]
          obtain ⟨⟨pl, pe⟩, hpp⟩ : ∃ p, valueN s (k : Int) x.data.toList = p := ⟨_, rfl⟩
          rw [hpp]
          have HPP := Lib.hid hpp
          unfold pairV
          rintro e w3 ⟨rfl, hb3⟩
          have HB3 := Lib.hid (HB1.out.trans (hb3.mono HB1.out.size))
          clear hb3 hpp HE HE2 p0 p1 p2 p3 c1
          go_wp2_with fail
          go_ret2
          exact ⟨HF.out _ HPP.out, HB3.out⟩
        · have HE2 := Lib.hid (show valueN s (k : Int) x.data.toList = addrN s.rules x.data.toList from HE.out)
          go_enter Tryz.func30, Tryz.ntmps30
          go_wp2_with fail
          refine HK.out.mono ?_
          rintro e w1 ⟨rfl, hb1⟩
          have HB1 := Lib.hid (((Below.refl w.heap.size w).alloc (Nat.le_refl _) (.cells #[.slice (some ⟨b, off, none⟩) s.fields.length cf, vt, vn, vs] 33)).trans (hb1.mono (by simp)))
          have HX1 := Lib.hid (blk_below (b := w.heap.size) (o := .cells #[.slice (some ⟨b, off, none⟩) s.fields.length cf, vt, vn, vs] 33 (0, 0)) hb1 (by simp) (blk_new rfl))
          clear hb1 HK
          have z0 := lt_of_blk HX1.out
          obtain ⟨p0, p1, p2, p3⟩ := cells4 HX1.out
          have c1 : w1.cell? ⟨b, off + k * 2 + 1, none⟩ = some (.int .i64 4) := (HB1.out.cell (p := ⟨b, off + k * 2 + 1, none⟩) hb).trans C1.out
          go_wp2_with fail
          refine (raddr_any Any1 vt vn vs s.rules x _ (HS.out.2.below HB1.out) hx).mono ?_
          rw [← HE2.out]
          obtain ⟨⟨pl, pe⟩, hpp⟩ : ∃ p, valueN s (k : Int) x.data.toList = p := ⟨_, rfl⟩
          rw [hpp]
          have HPP := Lib.hid hpp
          unfold pairV
          rintro e w3 ⟨rfl, hb3⟩
          have HB3 := Lib.hid (HB1.out.trans (hb3.mono HB1.out.size))
          clear hb3 hpp HE HE2 p0 p1 p2 p3 c1
          go_wp2_with fail
          go_ret2
          exact ⟨HF.out _ HPP.out, HB3.out⟩
    · rw [if_neg hr] at hfn
      have HE := Lib.hid (show valueN s f x.data.toList = ([], 2) by rw [hval, hfn]; rfl)
      clear hval hkk hfn
      by_cases r1 : 0 ≤ f
      · have t1 : decide (f < 0) = false := by simp; omega
        have t2 : decide ((s.fields.length : Int) ≤ f) = true := by simp; omega
        go_enter Tryz.func30, Tryz.ntmps30
        go_wp2_with fail
        refine HK.out.mono ?_
        rintro e w1 ⟨rfl, hb1⟩
        have HB1 := Lib.hid (((Below.refl w.heap.size w).alloc (Nat.le_refl _) (.cells #[.slice af s.fields.length cf, vt, vn, vs] 33)).trans (hb1.mono (by simp)))
        have HX1 := Lib.hid (blk_below (b := w.heap.size) (o := .cells #[.slice af s.fields.length cf, vt, vn, vs] 33 (0, 0)) hb1 (by simp) (blk_new rfl))
        clear hb1 HK
        have z0 := lt_of_blk HX1.out
        obtain ⟨p0, p1, p2, p3⟩ := cells4 HX1.out
        go_wp2_with fail
        go_ret2
        exact ⟨HF.out _ HE.out, HB1.out⟩
      · have t1 : decide (f < 0) = true := by simp; omega
        go_enter Tryz.func30, Tryz.ntmps30
        go_wp2_with fail
        refine HK.out.mono ?_
        rintro e w1 ⟨rfl, hb1⟩
        have HB1 := Lib.hid (((Below.refl w.heap.size w).alloc (Nat.le_refl _) (.cells #[.slice af s.fields.length cf, vt, vn, vs] 33)).trans (hb1.mono (by simp)))
        have HX1 := Lib.hid (blk_below (b := w.heap.size) (o := .cells #[.slice af s.fields.length cf, vt, vn, vs] 33 (0, 0)) hb1 (by simp) (blk_new rfl))
        clear hb1 HK
        have z0 := lt_of_blk HX1.out
        obtain ⟨p0, p1, p2, p3⟩ := cells4 HX1.out
        go_wp2_with fail
        go_ret2
        exact ⟨HF.out _ HE.out, HB1.out⟩
  · rw [if_neg he] at hfn
    have HE := Lib.hid (show valueN s f x.data.toList = ([], c) by rw [hval, hfn]; dsimp only; rw [if_neg he])
    have he1 : (c != 0) = true := by simpa using he
    clear hval hkk hfn hcf he
    go_enter Tryz.func30, Tryz.ntmps30
    go_wp2_with fail
    refine HK.out.mono ?_
    rintro e w1 ⟨rfl, hb1⟩
    have HB1 := Lib.hid (((Below.refl w.heap.size w).alloc (Nat.le_refl _) (.cells #[.slice af s.fields.length cf, vt, vn, vs] 33)).trans (hb1.mono (by simp)))
    have HX1 := Lib.hid (blk_below (b := w.heap.size) (o := .cells #[.slice af s.fields.length cf, vt, vn, vs] 33 (0, 0)) hb1 (by simp) (blk_new rfl))
    clear hb1 HK
    have z0 := lt_of_blk HX1.out
    obtain ⟨p0, p1, p2, p3⟩ := cells4 HX1.out
    go_wp2_with fail
    go_ret2
    exact ⟨HF.out _ HE.out, HB1.out⟩
end Go.Proofs.YtfgoiojmbphmnaaGreatDoor
end
section
/- The reference of layer 12 (schema): Normal. -/
set_option linter.unusedSimpArgs false
set_option linter.unusedVariables false
set_option maxRecDepth 100000
namespace Go.Proofs.YtfgoiojmbphmnaaGreatDoor
open Go.RowKit Cal
attribute [local go_sem] toList_mk mk_size
set_option maxHeartbeats 4000000 in
theorem rsnormal_any (S : Nat → Prop) (vf vt vn vs : Value) (s : SchemaL) (f : Int) (x : ByteArray) (w : World) (h : SchemaAt w S vf vt vn vs s) (hx : x.size ≤ 9223372036854775000) :
    Calls Tryz.prog 33 #[.agg #[vf, vt, vn, vs], .int .i64 f, .string x] w fun e w' => e = .returned (.bool (normalB s f x.data.toList)) ∧ Below w.heap.size w w' := by
  have HS := Lib.hid h.any
  have HL := Lib.hid (Lib.toList_data x)
  obtain ⟨hf1, hf2⟩ := h
  obtain ⟨af, cf, rfl⟩ := hf1.slice
  have HV1 := Lib.hid hf1.any
  have hfin : ∀ p, normalB s f x.data.toList = p → Ending.returned (.bool p) = .returned (.bool (normalB s f x.data.toList)) := fun p h => by rw [h]
  have HF := Lib.hid hfin
  clear hf1 hf2 hfin
  have hval : normalB s f x.data.toList = if (findN s f).2 = 0 then (if x.data.toList = [] then true else ownK (findN s f).1 s.rules x.data.toList) else false := rfl
  have hkk := findN_kind (s := s) (f := f)
  have hfn : findN s f = if checkS s = 0 then (if 0 ≤ f ∧ f < s.fields.length then ((s.fields.getD f.toNat default).2, 0) else (0, 2)) else (0, checkS s) := rfl
  have K := rscheck_any Any1 (.slice af s.fields.length cf) vt vn vs s (w.alloc (.cells #[.slice af s.fields.length cf, vt, vn, vs] 33)) (HS.out.below ((Below.refl _ _).alloc (Nat.le_refl _) _))
  have hcf := fun h => (check_fields (s := s) h).1
  obtain ⟨c, hc⟩ : ∃ c, checkS s = c := ⟨_, rfl⟩
  rw [hc] at K hfn hcf
  have HK := Lib.hid K; clear K
  have START := Lib.hid (trivial : True)
  by_cases he : c = 0
  · subst he
    have hlen := (hcf rfl).2
    clear hcf
    rw [if_pos rfl] at hfn
    by_cases hr : 0 ≤ f ∧ f < s.fields.length
    · rw [if_pos hr] at hfn
      obtain ⟨r1, r2⟩ := hr
      obtain ⟨k, rfl⟩ := Int.eq_ofNat_of_zero_le r1
      rw [Int.toNat_natCast] at hfn
      have hk : k < s.fields.length := by omega
      obtain ⟨b, off, rfl, _, hb, hcell⟩ := vec_cell2 HV1.out (by omega)
      obtain ⟨y, hy⟩ : ∃ y, s.fields.getD k default = y := ⟨_, rfl⟩
      have hck := hcell k hk
      rw [hy] at hck hfn
      obtain ⟨nm, kd⟩ := y
      have C1 := Lib.hid (show w.cell? ⟨b, off + k * 2 + 1, none⟩ = some (.int .i64 kd) from hck 1 _ rfl)
      rw [hfn] at hval hkk
      dsimp only at hval hkk
      have hkd := hkk rfl
      rw [if_pos rfl] at hval
      have HVal := Lib.hid hval
      have t1 : decide ((k : Int) < 0) = false := by simp
      have t2 : decide ((s.fields.length : Int) ≤ k) = false := by simp; omega
      have t3 : (k : Int) < (s.fields.length : Int) := by omega
      clear hck hcell hfn hkk hval hy r1 r2
      by_cases hx0 : x.data.toList = []
      · have e1 : x.toList = [] := by rw [HL.out, hx0]
        have HE := Lib.hid (show normalB s (k : Int) x.data.toList = true by rw [HVal.out, if_pos hx0])
        clear hx0 hkd
        go_enter Tryz.func33, Tryz.ntmps33
        go_wp2_with fail
        refine HK.out.mono ?_
        rintro e w1 ⟨rfl, hb1⟩
        have HB1 := Lib.hid (((Below.refl w.heap.size w).alloc (Nat.le_refl _) (.cells #[.slice (some ⟨b, off, none⟩) s.fields.length cf, vt, vn, vs] 33)).trans (hb1.mono (by simp)))
        have HX1 := Lib.hid (blk_below (b := w.heap.size) (o := .cells #[.slice (some ⟨b, off, none⟩) s.fields.length cf, vt, vn, vs] 33 (0, 0)) hb1 (by simp) (blk_new rfl))
        clear hb1 HK
        have z0 := lt_of_blk HX1.out
        obtain ⟨p0, p1, p2, p3⟩ := cells4 HX1.out
        go_wp2_with fail
        go_ret
        exact ⟨HF.out _ HE.out, HB1.out⟩
      · have e1 : (x.toList == []) = false := by rw [HL.out]; simpa using hx0
        have e2 : x.toList.isEmpty = false := by rw [HL.out]; simpa using hx0
        have HE := Lib.hid (show normalB s (k : Int) x.data.toList = ownK kd s.rules x.data.toList by rw [HVal.out, if_neg hx0])
        clear hx0
        rcases hkd with rfl | rfl | rfl | rfl
        · have HE2 := Lib.hid (show normalB s (k : Int) x.data.toList = isOwn (nameN s.rules x.data.toList) x.data.toList from HE.out)
          go_enter Tryz.func33, Tryz.ntmps33
          go_wp2_with fail
          refine HK.out.mono ?_
          rintro e w1 ⟨rfl, hb1⟩
          have HB1 := Lib.hid (((Below.refl w.heap.size w).alloc (Nat.le_refl _) (.cells #[.slice (some ⟨b, off, none⟩) s.fields.length cf, vt, vn, vs] 33)).trans (hb1.mono (by simp)))
          have HX1 := Lib.hid (blk_below (b := w.heap.size) (o := .cells #[.slice (some ⟨b, off, none⟩) s.fields.length cf, vt, vn, vs] 33 (0, 0)) hb1 (by simp) (blk_new rfl))
          clear hb1 HK
          have z0 := lt_of_blk HX1.out
          obtain ⟨p0, p1, p2, p3⟩ := cells4 HX1.out
          have c1 : w1.cell? ⟨b, off + k * 2 + 1, none⟩ = some (.int .i64 1) := (HB1.out.cell (p := ⟨b, off + k * 2 + 1, none⟩) hb).trans C1.out
          go_wp2_with fail
          refine (rnormal_any Any1 vt vn vs s.rules x _ (HS.out.2.below HB1.out) hx).mono ?_
          rw [← HE2.out]
          obtain ⟨pb, hpp⟩ : ∃ p, normalB s (k : Int) x.data.toList = p := ⟨_, rfl⟩
          rw [hpp]
          have HPP := Lib.hid hpp
          rintro e w3 ⟨rfl, hb3⟩
          have HB3 := Lib.hid (HB1.out.trans (hb3.mono HB1.out.size))
          clear hb3 hpp HE HE2 p0 p1 p2 p3 c1
          go_wp2_with fail
          go_ret
          exact ⟨HF.out _ HPP.out, HB3.out⟩
        · have HE2 := Lib.hid (show normalB s (k : Int) x.data.toList = readB x.data.toList from HE.out)
          obtain ⟨da, db, dc, hr⟩ := read_is x
          have HR := Lib.hid hr; clear hr HE
          go_enter Tryz.func33, Tryz.ntmps33
          go_wp2_with fail
          refine HK.out.mono ?_
          rintro e w1 ⟨rfl, hb1⟩
          have HB1 := Lib.hid (((Below.refl w.heap.size w).alloc (Nat.le_refl _) (.cells #[.slice (some ⟨b, off, none⟩) s.fields.length cf, vt, vn, vs] 33)).trans (hb1.mono (by simp)))
          have HX1 := Lib.hid (blk_below (b := w.heap.size) (o := .cells #[.slice (some ⟨b, off, none⟩) s.fields.length cf, vt, vn, vs] 33 (0, 0)) hb1 (by simp) (blk_new rfl))
          clear hb1 HK
          have z0 := lt_of_blk HX1.out
          obtain ⟨p0, p1, p2, p3⟩ := cells4 HX1.out
          have c1 : w1.cell? ⟨b, off + k * 2 + 1, none⟩ = some (.int .i64 2) := (HB1.out.cell (p := ⟨b, off + k * 2 + 1, none⟩) hb).trans C1.out
          go_wp2_with fail
          refine (rread_any x _).mono ?_
          rw [HR.out]
          obtain ⟨v, hv⟩ : ∃ v, readB x.data.toList = v := ⟨_, rfl⟩
          rw [hv]
          have HV := Lib.hid hv; clear hv HR
          rintro e w2 ⟨rfl, hb2⟩
          have HB2 := Lib.hid (HB1.out.trans (hb2.mono HB1.out.size))
          clear hb2 p0 p1 p2 p3 c1
          cases v
          all_goals
            simp only [cd_false, cd_true]
            go_wp2_with fail
            go_ret
            exact ⟨HF.out _ (by rw [HE2.out, HV.out]; try rfl), HB2.out.alloc HB2.out.size _⟩
        · have HE2 := Lib.hid (show normalB s (k : Int) x.data.toList = isOwn (codeN x.data.toList) x.data.toList from HE.out)
          go_enter Tryz.func33, Tryz.ntmps33
          go_wp2_with fail
          refine HK.out.mono ?_
          rintro e w1 ⟨rfl, hb1⟩
          have HB1 := Lib.hid (((Below.refl w.heap.size w).alloc (Nat.le_refl _) (.cells #[.slice (some ⟨b, off, none⟩) s.fields.length cf, vt, vn, vs] 33)).trans (hb1.mono (by simp)))
          have HX1 := Lib.hid (blk_below (b := w.heap.size) (o := .cells #[.slice (some ⟨b, off, none⟩) s.fields.length cf, vt, vn, vs] 33 (0, 0)) hb1 (by simp) (blk_new rfl))
          clear hb1 HK
          have z0 := lt_of_blk HX1.out
          obtain ⟨p0, p1, p2, p3⟩ := cells4 HX1.out
          have c1 : w1.cell? ⟨b, off + k * 2 + 1, none⟩ = some (.int .i64 3) := (HB1.out.cell (p := ⟨b, off + k * 2 + 1, none⟩) hb).trans C1.out
          go_wp2_with fail
          refine (rnormed_any x _ hx).mono ?_
          rw [← HE2.out]
          obtain ⟨pb, hpp⟩ : ∃ p, normalB s (k : Int) x.data.toList = p := ⟨_, rfl⟩
          rw [hpp]
          have HPP := Lib.hid hpp
          rintro e w3 ⟨rfl, hb3⟩
          have HB3 := Lib.hid (HB1.out.trans (hb3.mono HB1.out.size))
          clear hb3 hpp HE HE2 p0 p1 p2 p3 c1
          go_wp2_with fail
          go_ret
          exact ⟨HF.out _ HPP.out, HB3.out⟩
        · have HE2 := Lib.hid (show normalB s (k : Int) x.data.toList = isOwn (addrN s.rules x.data.toList) x.data.toList from HE.out)
          go_enter Tryz.func33, Tryz.ntmps33
          go_wp2_with fail
          refine HK.out.mono ?_
          rintro e w1 ⟨rfl, hb1⟩
          have HB1 := Lib.hid (((Below.refl w.heap.size w).alloc (Nat.le_refl _) (.cells #[.slice (some ⟨b, off, none⟩) s.fields.length cf, vt, vn, vs] 33)).trans (hb1.mono (by simp)))
          have HX1 := Lib.hid (blk_below (b := w.heap.size) (o := .cells #[.slice (some ⟨b, off, none⟩) s.fields.length cf, vt, vn, vs] 33 (0, 0)) hb1 (by simp) (blk_new rfl))
          clear hb1 HK
          have z0 := lt_of_blk HX1.out
          obtain ⟨p0, p1, p2, p3⟩ := cells4 HX1.out
          have c1 : w1.cell? ⟨b, off + k * 2 + 1, none⟩ = some (.int .i64 4) := (HB1.out.cell (p := ⟨b, off + k * 2 + 1, none⟩) hb).trans C1.out
          go_wp2_with fail
          refine (ranormal_any Any1 vt vn vs s.rules x _ (HS.out.2.below HB1.out) hx).mono ?_
          rw [← HE2.out]
          obtain ⟨pb, hpp⟩ : ∃ p, normalB s (k : Int) x.data.toList = p := ⟨_, rfl⟩
          rw [hpp]
          have HPP := Lib.hid hpp
          rintro e w3 ⟨rfl, hb3⟩
          have HB3 := Lib.hid (HB1.out.trans (hb3.mono HB1.out.size))
          clear hb3 hpp HE HE2 p0 p1 p2 p3 c1
          go_wp2_with fail
          go_ret
          exact ⟨HF.out _ HPP.out, HB3.out⟩
    · rw [if_neg hr] at hfn
      have HE := Lib.hid (show normalB s f x.data.toList = false by rw [hval, hfn]; rfl)
      clear hval hkk hfn
      by_cases r1 : 0 ≤ f
      · have t1 : decide (f < 0) = false := by simp; omega
        have t2 : decide ((s.fields.length : Int) ≤ f) = true := by simp; omega
        go_enter Tryz.func33, Tryz.ntmps33
        go_wp2_with fail
        refine HK.out.mono ?_
        rintro e w1 ⟨rfl, hb1⟩
        have HB1 := Lib.hid (((Below.refl w.heap.size w).alloc (Nat.le_refl _) (.cells #[.slice af s.fields.length cf, vt, vn, vs] 33)).trans (hb1.mono (by simp)))
        have HX1 := Lib.hid (blk_below (b := w.heap.size) (o := .cells #[.slice af s.fields.length cf, vt, vn, vs] 33 (0, 0)) hb1 (by simp) (blk_new rfl))
        clear hb1 HK
        have z0 := lt_of_blk HX1.out
        obtain ⟨p0, p1, p2, p3⟩ := cells4 HX1.out
        go_wp2_with fail
        go_ret
        exact ⟨HF.out _ HE.out, HB1.out⟩
      · have t1 : decide (f < 0) = true := by simp; omega
        go_enter Tryz.func33, Tryz.ntmps33
        go_wp2_with fail
        refine HK.out.mono ?_
        rintro e w1 ⟨rfl, hb1⟩
        have HB1 := Lib.hid (((Below.refl w.heap.size w).alloc (Nat.le_refl _) (.cells #[.slice af s.fields.length cf, vt, vn, vs] 33)).trans (hb1.mono (by simp)))
        have HX1 := Lib.hid (blk_below (b := w.heap.size) (o := .cells #[.slice af s.fields.length cf, vt, vn, vs] 33 (0, 0)) hb1 (by simp) (blk_new rfl))
        clear hb1 HK
        have z0 := lt_of_blk HX1.out
        obtain ⟨p0, p1, p2, p3⟩ := cells4 HX1.out
        go_wp2_with fail
        go_ret
        exact ⟨HF.out _ HE.out, HB1.out⟩
  · rw [if_neg he] at hfn
    have HE := Lib.hid (show normalB s f x.data.toList = false by rw [hval, hfn]; dsimp only; rw [if_neg he])
    have he1 : (c != 0) = true := by simpa using he
    clear hval hkk hfn hcf he
    go_enter Tryz.func33, Tryz.ntmps33
    go_wp2_with fail
    refine HK.out.mono ?_
    rintro e w1 ⟨rfl, hb1⟩
    have HB1 := Lib.hid (((Below.refl w.heap.size w).alloc (Nat.le_refl _) (.cells #[.slice af s.fields.length cf, vt, vn, vs] 33)).trans (hb1.mono (by simp)))
    have HX1 := Lib.hid (blk_below (b := w.heap.size) (o := .cells #[.slice af s.fields.length cf, vt, vn, vs] 33 (0, 0)) hb1 (by simp) (blk_new rfl))
    clear hb1 HK
    have z0 := lt_of_blk HX1.out
    obtain ⟨p0, p1, p2, p3⟩ := cells4 HX1.out
    go_wp2_with fail
    go_ret
    exact ⟨HF.out _ HE.out, HB1.out⟩
end Go.Proofs.YtfgoiojmbphmnaaGreatDoor
end
section
/- The reference of layer 5 (gram): Grams, Positional. -/
set_option linter.unusedSimpArgs false
set_option linter.unusedVariables false
set_option maxRecDepth 100000
namespace Go.Proofs.YtfgoiojmbphmnaaGreatDoor
open Go.RowKit
attribute [local go_sem] toList_mk mk_size bytes_append
theorem bigr_two : ∀ l : List UInt8, ∀ x ∈ bigrA l, x.length = 2 := by
  intro l
  induction l using bigrA.induct with
  | case1 a b r ih =>
    intro x hx; simp only [bigrA] at hx
    rcases List.mem_cons.1 hx with rfl | hx
    · rfl
    · exact ih x hx
  | case2 l h =>
    intro x hx
    match l, h with
    | [], _ => simp [bigrA] at hx
    | [a], _ => simp [bigrA] at hx
    | a :: b :: r, h => exact absurd rfl (h a b r)
set_option maxHeartbeats 4000000 in
theorem rgrams_any (s : ByteArray) (w : World) (hs : s.size ≤ 64) :
    Calls Tryz.prog 60 #[.string s] w fun e w' => ∃ v, e = .returned v ∧ OwnAt w v (gramsL s.data.toList) w' := by
  have hl : s.data.toList.length = s.size := by simp
  obtain ⟨hT1, hT2⟩ := toks_len s.data.toList (by omega)
  have hc := rtokens_any s w (by omega)
  obtain ⟨T, hT⟩ : ∃ T, toks s.data.toList = T := ⟨_, rfl⟩
  have hG : gramsL s.data.toList = setL (gramsAll T) := by unfold gramsL; rw [hT]
  rw [hT] at hT1 hT2 hc
  rw [hG]
  have HC := Lib.hid hc; have HT2 := Lib.hid hT2
  have d1 : decide ((64 : Int) < s.size) = false := by simp; omega
  clear hl hc hT hG hT2
  go_enter Tryz.func60, Tryz.ntmps60
  go_wp2_with fail
  refine HC.out.mono ?_
  rintro e w1 ⟨vt, rfl, ho⟩
  have HTV := Lib.hid (OwnV.vec (enc := encS) (fun _ => rfl) ho).any
  have HB1 := Lib.hid ho.2
  obtain ⟨at', ct, rfl⟩ := HTV.out.slice
  clear ho HC d1
  go_wp2_with fail
  go_loopw [3, 5] (fun v i wr => ∃ k : Nat, k ≤ T.length ∧ i = .int .i64 k ∧ OwnAt w1 v (gramsAll (T.take k)) wr) (fun _ i _ => T.length - (intOf i).toNat)
  case atStart => exact ⟨0, by omega, rfl, OwnAt.start w1⟩
  case round =>
    obtain ⟨k, hk, rfl, ho⟩ := hrel
    have HO := Lib.hid ho; clear ho
    by_cases hlt : k < T.length
    · have hq : decide ((k : Int) < T.length) = true := by simp; omega
      have hi0 : (k : Int) < (T.length : Int) := by omega
      have hgl := gramsAll_small (T.take k) (fun t ht => HT2.out t (List.mem_of_mem_take ht))
      have htl := List.length_take_le k T
      have hx1 : (T.getD k []).length ≤ 64 := by rw [List.getD, List.getElem?_eq_getElem hlt]; exact HT2.out _ (List.getElem_mem hlt)
      obtain ⟨bt, ot, rfl, _, hbt, hct⟩ := vec_cell1 HTV.out (by omega)
      have c1 := (HO.out.2.cell (p := ⟨bt, ot + k, none⟩) hbt).trans (hct k hlt)
      have HG := Lib.hid (gramsAll_take T k hlt)
      obtain ⟨t, ht⟩ : ∃ t, T.getD k [] = t := ⟨_, rfl⟩
      rw [ht] at c1 hx1 HG
      clear ht hct
      obtain ⟨wo, rfl⟩ : ∃ wo : World, wo = wr := ⟨_, rfl⟩
      go_wp2_with fail
      go_loopw [3, 7] (fun v i wr => ∃ j : Nat, j ≤ 1 + t.length ∧ i = .int .i64 j ∧ OwnAt w1 v (gramsAll (T.take k) ++ (bigrA (wrapT t)).take j) wr) (fun _ i _ => 1 + t.length - (intOf i).toNat)
      case atStart => exact ⟨0, by omega, rfl, by simpa using HO.out⟩
      case round =>
        obtain ⟨j, hj, rfl, ho2⟩ := hrel
        have HO2 := Lib.hid ho2; clear ho2
        have hwl : (wrapT t).length = t.length + 2 := by simp [wrapT]
        by_cases hlj : j < 1 + t.length
        · have hq2 : decide ((j : Int) < 1 + t.length) = true := by simp; omega
          have hq3 : decide ((j : Int) + 2 ≤ t.length + 1 + 1) = true := by simp; omega
          have hext := take_two (wrapT t) j (by omega)
          have hbg := bigr_getD (wrapT t) j (by omega)
          have hbl : j < (bigrA (wrapT t)).length := by rw [bigr_len]; omega
          have htk := take_snocA (bigrA (wrapT t)) j hbl
          rw [show (default : List UInt8) = [] from rfl, hbg] at htk
          obtain ⟨z, hz⟩ : ∃ z, [(wrapT t).getD j 0, (wrapT t).getD (j + 1) 0] = z := ⟨_, rfl⟩
          rw [hz] at hext htk
          rw [wrapT_cons] at hext
          have HTK := Lib.hid htk
          have hln : (gramsAll (T.take k) ++ (bigrA (wrapT t)).take j).length < 1099511627776 := by
            have := List.length_take_le j (bigrA (wrapT t))
            simp only [List.length_append]; omega
          have hone : ∀ u ∈ (#[strV z] : Array Value).toList, u.oneCell' = true := by intro u hu; simp at hu; subst hu; rfl
          clear hbg hbl htk hz hwl
          go_wp2_with (at_builtin; refine wpList_append_new rfl _ _ 28 rfl w1.heap.size 9 1 16 (.string ⟨#[]⟩) Tryz.underlying28 infoS rfl (by decide) (by decide) _ _ _ rfl HO2.out.1 #[strV z] 1 rfl rfl hone hln HO2.out.2.size ?_; intro v2 w8 ho8 hw8)
          go_roundw
          case rel => exact ⟨j + 1, by omega, by go_num, by rw [HTK.out, ← List.append_assoc]; exact ⟨by rw [List.length_append, flat_snoc]; exact ho8, hw8 _ HO2.out.2⟩⟩
          case measure => simp [intOf]; omega
        · have hq2 : decide ((j : Int) < 1 + t.length) = false := by simp; omega
          have hq3 : decide ((j : Int) + 2 ≤ t.length + 1 + 1) = false := by simp; omega
          rw [show (bigrA (wrapT t)).take j = bigrA (wrapT t) from List.take_of_length_le (by rw [bigr_len]; omega), ← HG.out] at HO2
          go_wp2_with fail
          go_roundw
          case rel => exact ⟨k + 1, by omega, by go_num, HO2.out⟩
          case measure => simp [intOf]; omega
    · have hq : decide ((k : Int) < T.length) = false := by simp; omega
      rw [List.take_of_length_le (by omega)] at HO
      have hgl := gramsAll_small T HT2.out
      have HV := Lib.hid (Vec.owns (S := Any1) (k := 1) (enc := encS) (fun _ => rfl) HO.out.1 (fun _ _ _ => trivial))
      go_wp2_with fail
      refine (rset_any Any1 _ (gramsAll T) _ HV.out (by omega)).mono ?_
      rw [foldI_set]
      rintro e w3 ⟨v3, rfl, ho3⟩
      have HB3 := Lib.hid (HB1.out.trans (HO.out.2.mono HB1.out.size))
      have HO3 := Lib.hid (OwnV.rebase ho3 HB3.out)
      clear ho3
      go_wp2_with fail
      go_ret
      exact ⟨v3, rfl, HO3.out⟩
theorem set_ascB {L : List (List UInt8)} (h : AscB L) : setL L = L := by
  have hp : L.Pairwise (· < ·) := by
    rw [List.pairwise_iff_getElem]
    intro i j hi hj hij
    have key : ∀ d, ∀ i, (hi : i + d + 1 < L.length) → L[i] < L[i + d + 1] := by
      intro d
      induction d with
      | zero =>
        intro i hi
        have := h i (by omega)
        rw [bytesLess_eq, decide_eq_true_iff, List.getD, List.getD, List.getElem?_eq_getElem (by omega), List.getElem?_eq_getElem (by omega)] at this
        exact this
      | succ d ih =>
        intro i hi
        have h1 := ih i (by omega)
        have h2 := h (i + d + 1) (by omega)
        rw [bytesLess_eq, decide_eq_true_iff, List.getD, List.getD, List.getElem?_eq_getElem (by omega), List.getElem?_eq_getElem (by omega)] at h2
        exact List.lt_trans h1 h2
    have := key (j - i - 1) i (by omega)
    simpa [show i + (j - i - 1) + 1 = j by omega] using this
  have hn : L.Nodup := hp.imp fun {a b} h e => by subst e; exact List.lt_irrefl a h
  have hs : L.mergeSort leB = L := List.mergeSort_of_pairwise (hp.imp fun {a b} h => by simpa [leB] using List.le_of_lt h)
  rw [← set_of_perm hn fun z => Iff.rfl, hs]
set_option maxHeartbeats 2000000 in
theorem rpositional_any (s : ByteArray) (w : World) (hs : s.size ≤ 26) :
    Calls Tryz.prog 59 #[.string s] w fun e w' => ∃ v, e = .returned v ∧ OwnAt w v (posL 0 s.data.toList) w' := by
  have hl : s.data.toList.length = s.size := by simp
  have HL := Lib.hid hl; clear hl
  have d1 : decide ((26 : Int) < s.size) = false := by simp; omega
  go_enter Tryz.func59, Tryz.ntmps59
  go_wp2_with fail
  clear d1
  go_loopw [3, 4] (fun v i wr => ∃ k : Nat, k ≤ s.size ∧ i = .int .i64 k ∧ OwnAt w v (posL 0 (s.data.toList.take k)) wr) (fun _ i _ => s.size - (intOf i).toNat)
  case atStart => exact ⟨0, by omega, rfl, OwnAt.start w⟩
  case round =>
    obtain ⟨k, hk, rfl, ho⟩ := hrel
    have HO := Lib.hid ho; clear ho
    by_cases hlt : k < s.size
    · have hq : decide ((k : Int) < s.size) = true := by simp; omega
      have ht := take_snoc' s k hlt
      have hsn := posL_snoc (s.data.toList.take k) s[k] 0
      have htl : (s.data.toList.take k).length = k := by rw [List.length_take, HL.out]; omega
      rw [htl, Nat.zero_add] at hsn
      have HT := Lib.hid ht; have HSn := Lib.hid hsn
      have hpl : (posL 0 (s.data.toList.take k)).length < 1099511627776 := by rw [posL_len, htl]; omega
      have hbz := HO.out.2.size
      have ha : ((UInt8.ofNat (97 + k)).toNat : Int) = 97 + (k : Int) := by rw [UInt8.toNat_ofNat']; omega
      have hcv := two_bytes wr (UInt8.ofNat (97 + k)) s[k]
      rw [ha] at hcv
      obtain ⟨z, hz⟩ : ∃ z, [UInt8.ofNat (97 + k), s[k]] = z := ⟨_, rfl⟩
      rw [hz] at hcv
      have HZ := Lib.hid hz
      have hone : ∀ u ∈ (#[strV z] : Array Value).toList, u.oneCell' = true := by intro u hu; simp at hu; subst hu; rfl
      have HO2 := Lib.hid (HO.out.below (w' := wr.alloc (.cells #[.int .u8 (97 + (k : Int)), .int .u8 s[k].toNat] 5)) ((Below.refl _ _).alloc (Nat.le_refl _) _))
      have HK1 := Lib.hid (show wr.heap.size + 1 = (wr.alloc (.cells #[.int .u8 (97 + (k : Int)), .int .u8 s[k].toNat] 5)).heap.size by simp)
      clear ht hsn htl ha hz
      go_wp2_with (at_builtin; refine wpList_append_newk rfl _ _ 28 rfl w.heap.size 9 1 16 (.string ⟨#[]⟩) Tryz.underlying28 infoS rfl (by decide) (by decide) _ _ _ rfl HO2.out.1 (wr.heap.size + 1) HK1.out #[strV z] 1 rfl rfl hone hpl HO2.out.2.size ?_; intro v2 w8 ho8 hw8)
      go_roundw
      case rel => exact ⟨k + 1, by omega, by go_num, by rw [HT.out, HSn.out]; exact ⟨by rw [List.length_append, flat_snoc, HZ.out]; exact ho8, hw8 _ HO2.out.2⟩⟩
      case measure => simp [intOf]; omega
    · have hq : decide ((k : Int) < s.size) = false := by simp; omega
      rw [List.take_of_length_le (by rw [HL.out]; omega)] at HO
      have hasc := Lib.hid (set_ascB (pos_asc s.data.toList 0 (by rw [HL.out]; omega)))
      have hpl : (posL 0 s.data.toList).length ≤ 1000000 := by rw [posL_len, HL.out]; omega
      have HV := Lib.hid (Vec.owns (S := Any1) (k := 1) (enc := encS) (fun _ => rfl) HO.out.1 (fun _ _ _ => trivial))
      go_wp2_with fail
      refine (rset_any Any1 _ (posL 0 s.data.toList) _ HV.out hpl).mono ?_
      rw [foldI_set, hasc.out]
      rintro e w3 ⟨v3, rfl, ho3⟩
      have HO3 := Lib.hid (OwnV.rebase ho3 HO.out.2)
      clear ho3
      go_wp2_with fail
      go_ret
      exact ⟨v3, rfl, HO3.out⟩
end Go.Proofs.YtfgoiojmbphmnaaGreatDoor
end
