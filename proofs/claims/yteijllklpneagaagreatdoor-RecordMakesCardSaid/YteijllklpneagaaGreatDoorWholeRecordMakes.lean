/-
  For every input the law RecordMakes returns true, and its arguments read afterwards as they read before; no condition.
-/
import Derived.Test.YteijllklpneagaaGreatDoorPartRm7
import Derived.Test.YteijllklpneagaaGreatDoorRows
import Derived.ProofKit
import Derived.JoinedOf
import Derived.WalkKit
import Derived.OpenShut
import Derived.ShutString
import Derived.ChangeOld
import Derived.Below
import Derived.Lib.SmallJoins
import Derived.Test.YteijllklpneagaaGreatDoorCards
import Derived.Test.YteijllklpneagaaGreatDoorTie
import Derived.LaidMore
import Derived.Lay
import Derived.SevenTiedAt
import Derived.Stop.Joined
section
/-
  The closed facts of the row of RecordMakes, each a lemma of its own (so that the kernel gives its memory back behind each).
-/
namespace Go.Proofs.YteijllklpneagaaGreatDoor.recordMakes
theorem and_tt {a b : Bool} (h : a = true) (h' : b = true) : (a && b) = true := by rw [h, h']; rfl
set_option maxRecDepth 100000 in
set_option maxHeartbeats 100000000 in
theorem closed : joinedFacts Tryz.pinned.checked.prog 7 Tryz.f7 Rows.recordMakesSpec Rows.recordMakesRow = true := by
  unfold joinedFacts
  repeat' (with_reducible refine and_tt ?_ ?_)
  · as_aux_lemma => kernel_rfl
  · as_aux_lemma => kernel_rfl
  · as_aux_lemma => kernel_rfl
  · as_aux_lemma => kernel_rfl
  · as_aux_lemma => kernel_rfl
  · as_aux_lemma => kernel_rfl
  · as_aux_lemma => kernel_rfl
  · as_aux_lemma => kernel_rfl
  · as_aux_lemma => kernel_rfl
  · as_aux_lemma => kernel_rfl
  · as_aux_lemma => kernel_rfl
  · as_aux_lemma => kernel_rfl
  · as_aux_lemma => kernel_rfl
  · as_aux_lemma => kernel_rfl
  · as_aux_lemma => kernel_rfl
  · as_aux_lemma => kernel_rfl
  · as_aux_lemma => kernel_rfl
  · as_aux_lemma => kernel_rfl
  · as_aux_lemma => kernel_rfl
  · as_aux_lemma => kernel_rfl
  · as_aux_lemma => kernel_rfl
  · as_aux_lemma => kernel_rfl
  · as_aux_lemma => kernel_rfl
  · as_aux_lemma => kernel_rfl
  · as_aux_lemma => kernel_rfl
  · as_aux_lemma => kernel_rfl
  · as_aux_lemma => kernel_rfl
  · as_aux_lemma => kernel_rfl
  · as_aux_lemma => kernel_rfl
  · as_aux_lemma => kernel_rfl
  · as_aux_lemma => kernel_rfl
  · as_aux_lemma => kernel_rfl
end Go.Proofs.YteijllklpneagaaGreatDoor.recordMakes
end
section
/- The law RecordMakes, walked: for every list of numbers it returns true and leaves what was there. -/
set_option linter.unusedSimpArgs false
set_option linter.unusedVariables false
set_option maxRecDepth 100000
namespace Go.Proofs.YteijllklpneagaaGreatDoor
open Go.RowKit Cal
attribute [local go_sem] toList_mk mk_size bytes_append
set_option maxHeartbeats 400000 in
theorem edates_any (y m d : Int) (w : World) : Calls Tryz.prog 36 #[.agg #[.int .i64 y, .int .i64 m, .int .i64 d]] w fun e w' => e = .returned (.bool (vldB y m d)) ∧ Below w.heap.size w w' := by
  go_enter Tryz.func36, Tryz.ntmps36
  go_wp2_with fail
  refine (rvalid_any y m d _).mono ?_
  rintro e w1 ⟨rfl, hb⟩
  have HB := Lib.hid (((Below.refl w.heap.size w).alloc (Nat.le_refl _) (.cells #[.int .i64 y, .int .i64 m, .int .i64 d] 72)).trans (hb.mono (by simp)))
  clear hb
  go_wp2_with fail
  go_ret
  exact ⟨rfl, HB.out⟩
/-- where the law stands: the deck in block D, the schema in block y -/
structure MsAt (D : Nat) (w : World) (y : Nat) (S : Nat → Prop) (vf vt vn vs : Value) (s : SchemaL) (wr : World) : Prop where
  m : Moved D w wr
  b : wr.heap[y]? = some (.cells #[vf, vt, vn, vs] 33 (0, 0))
  s : SchemaAt wr S vf vt vn vs s
  ne : ∀ b, S b → b ≠ D
  yD : y ≠ D
theorem MsAt.moved {D : Nat} {w : World} {y : Nat} {S : Nat → Prop} {vf vt vn vs : Value} {s : SchemaL} {wr wd : World} (h : MsAt D w y S vf vt vn vs s wr) (m : Moved D wr wd) : MsAt D w y S vf vt vn vs s wd :=
  ⟨h.m.trans m, m.blk h.yD h.b, h.s.moved h.ne m, h.ne, h.yD⟩
theorem MsAt.below {D : Nat} {w : World} {y : Nat} {S : Nat → Prop} {vf vt vn vs : Value} {s : SchemaL} {wr wd : World} (h : MsAt D w y S vf vt vn vs s wr) (hb : Below wr.heap.size wr wd) : MsAt D w y S vf vt vn vs s wd :=
  h.moved ((Moved.start h.m.deck).below hb)
theorem MsAt.held7 {D : Nat} {w : World} {y x : Nat} {S : Nat → Prop} {vf vt vn vs : Value} {s : SchemaL} {wr : World} {dy dm dd : Int} (h : MsAt D w y S vf vt vn vs s wr) (hx : wr.heap[x]? = some (.cells #[.int .i64 dy, .int .i64 dm, .int .i64 dd] 72 (0, 0))) :
    wr.cell? ⟨y, 0, none⟩ = some vf ∧ wr.cell? ⟨y, 1, none⟩ = some vt ∧ wr.cell? ⟨y, 2, none⟩ = some vn ∧ wr.cell? ⟨y, 3, none⟩ = some vs ∧ wr.cell? ⟨x, 0, none⟩ = some (.int .i64 dy) ∧ wr.cell? ⟨x, 1, none⟩ = some (.int .i64 dm) ∧ wr.cell? ⟨x, 2, none⟩ = some (.int .i64 dd) := by
  obtain ⟨p0, p1, p2, p3⟩ := cellsS h.b
  obtain ⟨c0, c1, c2⟩ := cells3 hx
  exact ⟨p0, p1, p2, p3, c0, c1, c2⟩
set_option maxHeartbeats 16000000 in
theorem rmakes_walk (a : Option Addr) (n cap : Nat) (zs : List Int) (w : World) (hr : IsRow .i64 w a n cap zs) (hM : MaxAt w) :
    Calls Tryz.prog 7 #[.slice a n cap] w fun e w' => e = .returned (.bool true) ∧ Below w.heap.size w w' := by
  by_cases hn : n ≤ 400
  · have HMx := Lib.hid hM; clear hM
    have hd : decide (n ≤ 400) = true := by simpa using hn
    have HR := Lib.hid hr; clear hr
    go_enter Tryz.func7, Tryz.ntmps7
    go_wp2_with fail
    refine (awake_r _ HMx.out).mono ?_; rintro e w1 ⟨rfl, hb1⟩
    go_wp2_with fail
    refine (few_any a n cap _).mono ?_; rintro e w' ⟨rfl, rfl⟩
    go_wp2_with fail
    refine (new_any a n cap _).mono ?_; rintro e w' ⟨rfl, rfl⟩
    have Hdk := Lib.hid (deck_law (cap := cap) hn HR.out hb1)
    have HB1 := Lib.hid (hb1.alloc hb1.size (.cells #[.slice a n cap, .int .i64 0, .int .u64 11400714819323198485] 91))
    have zB1 := hb1.size
    clear hb1 HR hd
    go_wp2_with fail
    refine (rules_deal _ _ Hdk.out).mono ?_
    rintro e w2 ⟨vt, vn, vs, r, rfl, hr, hd, mv⟩
    obtain ⟨Wd, hWd⟩ : ∃ Wd : World, w1.alloc (.cells #[.slice a n cap, .int .i64 0, .int .u64 11400714819323198485] 91) = Wd := ⟨_, rfl⟩
    rw [hWd] at mv hr HB1
    obtain ⟨D, hD⟩ : ∃ D, w1.heap.size = D := ⟨_, rfl⟩
    have zWd : Wd.heap.size = D + 1 := by rw [← hWd, ← hD]; simp
    rw [hD] at mv zB1 ⊢
    obtain ⟨at', ct, rfl⟩ := hr.1.slice
    obtain ⟨an, cn, rfl⟩ := hr.2.1.slice
    obtain ⟨as', cs, rfl⟩ := hr.2.2.slice
    have zD := mv.deck.lt
    have M2 := Lib.hid mv; have HR := Lib.hid hr; have HRD := Lib.hid hd
    clear mv hr hd hWd hD Hdk
    go_wp2_with fail
    refine wp_calls_world (fun W3 hW3 => ?_)
    have hb3 : Below w2.heap.size w2 W3 := by rw [hW3]; exact ((Below.refl w2.heap.size w2).alloc (Nat.le_refl _) _).alloc (by simp) _
    have hf3 : W3.heap[w2.heap.size]? = some (.cells (equalF.flatMap encF).toArray 69 (0, 0)) := by rw [hW3]; exact blk_old (blk_new rfl)
    have hs3 : W3.heap[w2.heap.size + 1]? = some (.cells #[.slice (some ⟨w2.heap.size, 0, none⟩) 2 2, .slice at' r.titles.length ct, .slice an r.nicks.length cn, .slice as' r.streets.length cs] 33 (0, 0)) := by rw [hW3]; exact blk_new (by simp)
    have S3 : SchemaAt W3 (fun b => Wd.heap.size ≤ b) (.slice (some ⟨w2.heap.size, 0, none⟩) 2 2) (.slice at' r.titles.length ct) (.slice an r.nicks.length cn) (.slice as' r.streets.length cs) ⟨equalF, r⟩ :=
      ⟨blockVec (k := 2) (enc := encF) (L := equalF) (S := fun b => Wd.heap.size ≤ b) (A := w2.heap.size) (fun _ => rfl) hf3 (M2.out.size) 2 rfl, HR.out.below hb3⟩
    have M3 := Lib.hid (M2.out.below hb3); have HS3 := Lib.hid hs3; have HSA := Lib.hid S3
    have z23 := M2.out.size
    have hSne : ∀ b, Wd.heap.size ≤ b → b ≠ D := fun b h => by omega
    have HNe := Lib.hid hSne
    clear hb3 hf3 hs3 S3 HR hW3 M2 hSne
    have KA := Lib.hid (show MsAt D Wd (w2.heap.size + 1) (fun b => Wd.heap.size ≤ b) (.slice (some ⟨w2.heap.size, 0, none⟩) 2 2) (.slice at' r.titles.length ct) (.slice an r.nicks.length cn) (.slice as' r.streets.length cs) ⟨equalF, r⟩ W3 from
      ⟨M3.out, HS3.out, HSA.out, HNe.out, by omega⟩)
    clear M3 HS3 HSA
    refine (token_word D _ KA.out.m.deck).mono ?_
    rintro e w6 ⟨t1, rfl, ht1, mv⟩
    have KB := Lib.hid (KA.out.moved mv); have HW1 := Lib.hid ht1
    have l1 := ht1.2.2
    clear mv KA ht1
    go_wp2_with fail
    refine (token_word D _ KB.out.m.deck).mono ?_
    rintro e w7 ⟨t2, rfl, ht2, mv⟩
    have KC := Lib.hid (KB.out.moved mv); have HW2 := Lib.hid ht2
    have l2 := ht2.2.2
    clear mv KB ht2
    obtain ⟨pn, hpn, hp2, hdr⟩ := name_two HRD.out HW1.out HW2.out
    have hok := two_ok HW1.out HW2.out
    have htk := two_toks HW1.out HW2.out
    obtain ⟨nn, hnn⟩ : ∃ nn, t1 ++ [32] ++ t2 = nn := ⟨_, rfl⟩
    have e1 : t1 ++ 32 :: t2 = nn := by rw [← hnn]; simp
    have hnl : nn.length ≤ 33 := by rw [← hnn]; simp; omega
    have hn0 : nn ≠ [] := by rw [← hnn]; simp
    rw [hnn] at hpn hdr hok htk
    have HPn := Lib.hid hpn; have HDr := Lib.hid hdr; have HOk := Lib.hid hok; have HTk := Lib.hid htk; have HN0 := Lib.hid hn0; have HP2 := Lib.hid hp2
    clear hnn hpn hdr hok htk hn0
    go_wp2_with fail
    refine (date_any D _ KC.out.m.deck).mono ?_
    rintro e w8 ⟨dy, dm, dd, rfl, bd, mv⟩
    have KD := Lib.hid (KC.out.moved mv)
    have BD := Lib.hid bd
    clear mv KC bd
    go_wp2_with fail
    refine wp_world (fun w9 hW8 => ?_)
    have hb8 : Below w8.heap.size w8 w9 := by rw [hW8]; exact (Below.refl w8.heap.size w8).alloc (Nat.le_refl _) _
    have hx8 : w9.heap[w8.heap.size]? = some (.cells #[.int .i64 dy, .int .i64 dm, .int .i64 dd] 72 (0, 0)) := by rw [hW8]; exact blk_new rfl
    have z8 := KD.out.m.deck.lt
    have KE := KD.out.below hb8
    have hx9 := hx8
    have KF := Lib.hid KE; have HX9 := Lib.hid hx9
    have hxD : w8.heap.size ≠ D := by omega
    clear hb8 hW8 KD hx8 hx9 KE
    have mD : Moved D w9 w9.drew := (Moved.start KF.out.m.deck).drew
    obtain ⟨wr0, h0⟩ : ∃ t, writtenL dy dm dd 0 = t := ⟨_, rfl⟩
    obtain ⟨wr1, h1⟩ : ∃ t, writtenL dy dm dd 2 = t := ⟨_, rfl⟩
    have hl0 : wr0.length = 10 := by rw [← h0]; exact written_len dy dm dd 0
    have hl1 : wr1.length = 10 := by rw [← h1]; exact written_len dy dm dd 2
    have HWR0 := Lib.hid h0; have HWR2 := Lib.hid h1
    clear h0 h1
    go_cut [7, 8] (fun s9 s10 wx => ∃ (rb : Nat) (er : Int) (sv : Value) (r1 : RecL), s9 = .pointer (some ⟨rb, 0, none⟩) ∧ s10 = .int .i64 er ∧ wx.heap[rb]? = some (.cells #[.int .i64 r1.id, .int .i64 r1.ver, sv] 48 (0, 0)) ∧ Vec wx (fun b => w9.heap.size ≤ b) 1 encS sv r1.vals ∧ Hid (makeN ⟨equalF, r⟩ 5 2 [nn, wr0] = (r1, er)) ∧ Moved D w9 wx ∧ w9.heap.size ≤ rb)
    case first =>
      refine wp_region_noPanic ?_
      refine wp_region_held_drew (S := (fun w' => w'.cell? ⟨w2.heap.size + 1, 0, none⟩ = some (.slice (some ⟨w2.heap.size, 0, none⟩) 2 2) ∧ w'.cell? ⟨w2.heap.size + 1, 1, none⟩ = some (.slice at' r.titles.length ct) ∧ w'.cell? ⟨w2.heap.size + 1, 2, none⟩ = some (.slice an r.nicks.length cn) ∧ w'.cell? ⟨w2.heap.size + 1, 3, none⟩ = some (.slice as' r.streets.length cs) ∧ w'.cell? ⟨w8.heap.size, 0, none⟩ = some (.int .i64 dy) ∧ w'.cell? ⟨w8.heap.size, 1, none⟩ = some (.int .i64 dm) ∧ w'.cell? ⟨w8.heap.size, 2, none⟩ = some (.int .i64 dd))) (by kernel_rfl) ((KF.out.moved (Moved.start KF.out.m.deck)).held7 HX9.out) (fun hHeld => ?_)
      refine wpAnyH_take (i := 0) (v := ?_) rfl (by kernel_rfl) (by kernel_rfl) (by kernel_rfl) (fun _ _ _ h => h) (Or.inl ⟨by rfl, ?_⟩) (by assumption) ?_
      rotate_left 1
      · (intro wS hSw; (try dsimp only at hSw); go_simp; try with_reducible rfl)
      try simp only [List.getElem_toArray, List.getElem_cons_zero, List.getElem_cons_succ, Act.put, List.setIfInBounds_toArray, List.set_cons_zero, List.set_cons_succ]
      refine wpAnyH_take (i := 1) (v := ?_) rfl (by kernel_rfl) (by kernel_rfl) (by kernel_rfl) (fun _ _ _ h => h) (Or.inl ⟨by rfl, ?_⟩) (by assumption) ?_
      rotate_left 1
      · (intro wS hSw; (try dsimp only at hSw); go_simp; try with_reducible rfl)
      try simp only [List.getElem_toArray, List.getElem_cons_zero, List.getElem_cons_succ, Act.put, List.setIfInBounds_toArray, List.set_cons_zero, List.set_cons_succ]
      refine wpAnyH_take (i := 2) (v := ?_) rfl (by kernel_rfl) (by kernel_rfl) (by kernel_rfl) (fun _ _ _ h => h) (Or.inl ⟨by rfl, ?_⟩) (by assumption) ?_
      rotate_left 1
      · (intro wS hSw; (try dsimp only at hSw); go_simp; try with_reducible rfl)
      try simp only [List.getElem_toArray, List.getElem_cons_zero, List.getElem_cons_succ, Act.put, List.setIfInBounds_toArray, List.set_cons_zero, List.set_cons_succ]
      refine wpAnyH_ready (rs := [3, 9]) (by kernel_rfl) (by simp) ?_
      refine AllReadyH.cons rfl (fun K hK => ?_) (AllReadyH.cons rfl (fun K hK => ?_) (AllReadyH.nil))
      focus
        go_simp
        refine (written_any dy dm dd 0 _ BD.out (by omega)).mono ?_
        rw [HWR0.out]
        rintro e V1 ⟨rfl, hb⟩
        have m1 := mD.below hb
        clear hb
        refine hK.out _ _ ((KF.out.moved m1).held7 ((m1).blk hxD HX9.out)) (fun hHeld => ?_)
        clear hK K
        try simp only [List.getElem_toArray, List.getElem_cons_zero, List.getElem_cons_succ, Act.put, List.setIfInBounds_toArray, List.set_cons_zero, List.set_cons_succ]
        refine wpAnyH_ready (rs := [4, 9]) (by kernel_rfl) (by simp) ?_
        refine AllReadyH.cons rfl (fun K hK => ?_) (AllReadyH.cons rfl (fun K hK => ?_) (AllReadyH.nil))
        focus
          go_simp
          refine hK.out _ _ ((KF.out.moved (m1.alloc (.cells ([nn, wr0].flatMap encS).toArray 9))).held7 (((m1.alloc (.cells ([nn, wr0].flatMap encS).toArray 9))).blk hxD HX9.out)) (fun hHeld => ?_)
          clear hK K
          try simp only [List.getElem_toArray, List.getElem_cons_zero, List.getElem_cons_succ, Act.put, List.setIfInBounds_toArray, List.set_cons_zero, List.set_cons_succ]
          refine wph_name (fun V2 hV => ?_)
          have m2 : Moved D w9 V2 := by rw [hV]; exact m1.alloc (.cells ([nn, wr0].flatMap encS).toArray 9)
          have gl : V2.heap[V1.heap.size]? = some (.cells ([nn, wr0].flatMap encS).toArray 9 (0, 0)) := by rw [hV]; exact blk_new rfl
          clear hV hHeld
          have hHeld : V2.cell? ⟨w2.heap.size + 1, 0, none⟩ = some (.slice (some ⟨w2.heap.size, 0, none⟩) 2 2) ∧ V2.cell? ⟨w2.heap.size + 1, 1, none⟩ = some (.slice at' r.titles.length ct) ∧ V2.cell? ⟨w2.heap.size + 1, 2, none⟩ = some (.slice an r.nicks.length cn) ∧ V2.cell? ⟨w2.heap.size + 1, 3, none⟩ = some (.slice as' r.streets.length cs) ∧ V2.cell? ⟨w8.heap.size, 0, none⟩ = some (.int .i64 dy) ∧ V2.cell? ⟨w8.heap.size, 1, none⟩ = some (.int .i64 dm) ∧ V2.cell? ⟨w8.heap.size, 2, none⟩ = some (.int .i64 dd) := (KF.out.moved m2).held7 ((m2).blk hxD HX9.out)
          refine wpAnyH_ready (rs := [5, 9]) (by kernel_rfl) (by simp) ?_
          refine AllReadyH.cons rfl (fun K hK => ?_) (AllReadyH.cons rfl (fun K hK => ?_) (AllReadyH.nil))
          focus
            go_simp
            obtain ⟨⟨r1, er⟩, hR⟩ : ∃ R, makeN ⟨equalF, r⟩ 5 2 [nn, wr0] = R := ⟨_, rfl⟩
            have hmk := pmake_yes (fun b => Wd.heap.size ≤ b) Any1 _ _ _ _ ⟨equalF, r⟩ 5 2 [nn, wr0] (.slice (some ⟨V1.heap.size, 0, none⟩) 2 2) _ (KF.out.moved m2).s (blockVec (k := 1) (enc := encS) (L := [nn, wr0]) (S := Any1) (A := V1.heap.size) (fun _ => rfl) gl trivial 2 rfl) (equal_check HRD.out) rfl (by decide) (by intro x hx; simp at hx; rcases hx with rfl | rfl <;> omega)
            rw [hR] at hmk
            refine hmk.mono ?_
            rintro e V3 ⟨_, rfl, ⟨sv, rfl, hvv⟩, hb⟩
            have m3 := m2.below hb
            have gl := blk_below hb (lt_of_blk gl) gl
            have hvv := hvv.move (w' := V3) (S' := fun b => w9.heap.size ≤ b) (Nat.le_refl _) fun b hb' hs => ⟨rfl, by have h1 := m2.size; have hs' := hs; omega⟩
            obtain ⟨asv, csv, esv⟩ := hvv.slice; subst esv
            have HRR := Lib.hid hR
            clear hb hmk hR
            refine hK.out _ _ ((KF.out.moved m3).held7 ((m3).blk hxD HX9.out)) (fun hHeld => ?_)
            clear hK K
            try simp only [List.getElem_toArray, List.getElem_cons_zero, List.getElem_cons_succ, Act.put, List.setIfInBounds_toArray, List.set_cons_zero, List.set_cons_succ]
            refine wpAnyH_take (i := 6) (v := ?_) rfl (by kernel_rfl) (by kernel_rfl) (by kernel_rfl) (fun _ _ _ h => h) (Or.inl ⟨by rfl, ?_⟩) (by assumption) ?_
            rotate_left 1
            · (intro wS hSw; (try dsimp only at hSw); go_simp; try with_reducible rfl)
            try simp only [List.getElem_toArray, List.getElem_cons_zero, List.getElem_cons_succ, Act.put, List.setIfInBounds_toArray, List.set_cons_zero, List.set_cons_succ]
            refine wpAnyH_take (i := 7) (v := ?_) rfl (by kernel_rfl) (by kernel_rfl) (by kernel_rfl) (fun _ _ _ h => h) (Or.inl ⟨by rfl, ?_⟩) (by assumption) ?_
            rotate_left 1
            · (intro wS hSw; (try dsimp only at hSw); go_simp; try with_reducible rfl)
            try simp only [List.getElem_toArray, List.getElem_cons_zero, List.getElem_cons_succ, Act.put, List.setIfInBounds_toArray, List.set_cons_zero, List.set_cons_succ]
            refine wpAnyH_take (i := 8) (v := ?_) rfl (by kernel_rfl) (by kernel_rfl) (by kernel_rfl) (fun _ _ _ h => h) (Or.inl ⟨by rfl, ?_⟩) (by assumption) ?_
            rotate_left 1
            · (intro wS hSw; (try dsimp only at hSw); go_simp; try with_reducible rfl)
            try simp only [List.getElem_toArray, List.getElem_cons_zero, List.getElem_cons_succ, Act.put, List.setIfInBounds_toArray, List.set_cons_zero, List.set_cons_succ]
            refine wpAnyH_ready (rs := [9]) (by kernel_rfl) (by simp) ?_
            refine AllReadyH.cons rfl (fun K hK => ?_) (AllReadyH.nil)
            go_simp
            refine hK.out _ _ ((KF.out.moved (m3.alloc (.cells #[.int .i64 0, .int .i64 0, .slice none 0 0] 48))).held7 (((m3.alloc (.cells #[.int .i64 0, .int .i64 0, .slice none 0 0] 48))).blk hxD HX9.out)) (fun hHeld => ?_)
            clear hK K
            try simp only [List.getElem_toArray, List.getElem_cons_zero, List.getElem_cons_succ, Act.put, List.setIfInBounds_toArray, List.set_cons_zero, List.set_cons_succ]
            refine wph_name (fun V4 hV => ?_)
            have m4 : Moved D w9 V4 := by rw [hV]; exact m3.alloc (.cells #[.int .i64 0, .int .i64 0, .slice none 0 0] 48)
            have gl := show V4.heap[_]? = some _ by rw [hV]; exact blk_old gl
            have gb : V4.heap[V3.heap.size]? = some (.cells #[.int .i64 0, .int .i64 0, .slice none 0 0] 48 (0, 0)) := by rw [hV]; exact blk_new rfl
            have hvv := hvv.move (w' := V4) (S' := fun b => w9.heap.size ≤ b ∧ b ≠ V3.heap.size) (by rw [hV]; simp) fun b hb' hs => ⟨by rw [hV]; exact ((Below.refl _ _).alloc (Nat.le_refl _) _).block _ hb', hs, by omega⟩
            have hrb : w9.heap.size ≤ V3.heap.size := m3.size
            clear hV hHeld
            have hHeld : V4.cell? ⟨w2.heap.size + 1, 0, none⟩ = some (.slice (some ⟨w2.heap.size, 0, none⟩) 2 2) ∧ V4.cell? ⟨w2.heap.size + 1, 1, none⟩ = some (.slice at' r.titles.length ct) ∧ V4.cell? ⟨w2.heap.size + 1, 2, none⟩ = some (.slice an r.nicks.length cn) ∧ V4.cell? ⟨w2.heap.size + 1, 3, none⟩ = some (.slice as' r.streets.length cs) ∧ V4.cell? ⟨w8.heap.size, 0, none⟩ = some (.int .i64 dy) ∧ V4.cell? ⟨w8.heap.size, 1, none⟩ = some (.int .i64 dm) ∧ V4.cell? ⟨w8.heap.size, 2, none⟩ = some (.int .i64 dd) := (KF.out.moved m4).held7 ((m4).blk hxD HX9.out)
          rotate_left 1
          focus
            go_simp
            refine hK.out _ _ ((KF.out.moved (m2.alloc (.cells #[.int .i64 0, .int .i64 0, .slice none 0 0] 48))).held7 (((m2.alloc (.cells #[.int .i64 0, .int .i64 0, .slice none 0 0] 48))).blk hxD HX9.out)) (fun hHeld => ?_)
            clear hK K
            try simp only [List.getElem_toArray, List.getElem_cons_zero, List.getElem_cons_succ, Act.put, List.setIfInBounds_toArray, List.set_cons_zero, List.set_cons_succ]
            refine wph_name (fun V3 hV => ?_)
            have m3 : Moved D w9 V3 := by rw [hV]; exact m2.alloc (.cells #[.int .i64 0, .int .i64 0, .slice none 0 0] 48)
            have gl := show V3.heap[_]? = some _ by rw [hV]; exact blk_old gl
            have gb : V3.heap[V2.heap.size]? = some (.cells #[.int .i64 0, .int .i64 0, .slice none 0 0] 48 (0, 0)) := by rw [hV]; exact blk_new rfl
            have hrb : w9.heap.size ≤ V2.heap.size := m2.size
            clear hV hHeld
            have hHeld : V3.cell? ⟨w2.heap.size + 1, 0, none⟩ = some (.slice (some ⟨w2.heap.size, 0, none⟩) 2 2) ∧ V3.cell? ⟨w2.heap.size + 1, 1, none⟩ = some (.slice at' r.titles.length ct) ∧ V3.cell? ⟨w2.heap.size + 1, 2, none⟩ = some (.slice an r.nicks.length cn) ∧ V3.cell? ⟨w2.heap.size + 1, 3, none⟩ = some (.slice as' r.streets.length cs) ∧ V3.cell? ⟨w8.heap.size, 0, none⟩ = some (.int .i64 dy) ∧ V3.cell? ⟨w8.heap.size, 1, none⟩ = some (.int .i64 dm) ∧ V3.cell? ⟨w8.heap.size, 2, none⟩ = some (.int .i64 dd) := (KF.out.moved m3).held7 ((m3).blk hxD HX9.out)
            refine wpAnyH_ready (rs := [5]) (by kernel_rfl) (by simp) ?_
            refine AllReadyH.cons rfl (fun K hK => ?_) (AllReadyH.nil)
            go_simp
            have hlt0 := lt_of_blk gb
            obtain ⟨⟨r1, er⟩, hR⟩ : ∃ R, makeN ⟨equalF, r⟩ 5 2 [nn, wr0] = R := ⟨_, rfl⟩
            have hmk := pmake_yes (fun b => Wd.heap.size ≤ b) Any1 _ _ _ _ ⟨equalF, r⟩ 5 2 [nn, wr0] (.slice (some ⟨V1.heap.size, 0, none⟩) 2 2) _ (KF.out.moved m3).s (blockVec (k := 1) (enc := encS) (L := [nn, wr0]) (S := Any1) (A := V1.heap.size) (fun _ => rfl) gl trivial 2 rfl) (equal_check HRD.out) rfl (by decide) (by intro x hx; simp at hx; rcases hx with rfl | rfl <;> omega)
            rw [hR] at hmk
            refine hmk.mono ?_
            rintro e V4 ⟨_, rfl, ⟨sv, rfl, hvv⟩, hb⟩
            have m4 := m3.below hb
            have gl := blk_below hb (lt_of_blk gl) gl
            have gb := blk_below hb (lt_of_blk gb) gb
            have hvv := hvv.move (w' := V4) (S' := fun b => w9.heap.size ≤ b ∧ b ≠ V2.heap.size) (Nat.le_refl _) fun b hb' hs => ⟨rfl, by have h1 := m3.size; have hs' := hs; exact ⟨by omega, by omega⟩⟩
            obtain ⟨asv, csv, esv⟩ := hvv.slice; subst esv
            have HRR := Lib.hid hR
            clear hb hmk hR
            refine hK.out _ _ ((KF.out.moved m4).held7 ((m4).blk hxD HX9.out)) (fun hHeld => ?_)
            clear hK K
            try simp only [List.getElem_toArray, List.getElem_cons_zero, List.getElem_cons_succ, Act.put, List.setIfInBounds_toArray, List.set_cons_zero, List.set_cons_succ]
            refine wpAnyH_take (i := 6) (v := ?_) rfl (by kernel_rfl) (by kernel_rfl) (by kernel_rfl) (fun _ _ _ h => h) (Or.inl ⟨by rfl, ?_⟩) (by assumption) ?_
            rotate_left 1
            · (intro wS hSw; (try dsimp only at hSw); go_simp; try with_reducible rfl)
            try simp only [List.getElem_toArray, List.getElem_cons_zero, List.getElem_cons_succ, Act.put, List.setIfInBounds_toArray, List.set_cons_zero, List.set_cons_succ]
            refine wpAnyH_take (i := 7) (v := ?_) rfl (by kernel_rfl) (by kernel_rfl) (by kernel_rfl) (fun _ _ _ h => h) (Or.inl ⟨by rfl, ?_⟩) (by assumption) ?_
            rotate_left 1
            · (intro wS hSw; (try dsimp only at hSw); go_simp; try with_reducible rfl)
            try simp only [List.getElem_toArray, List.getElem_cons_zero, List.getElem_cons_succ, Act.put, List.setIfInBounds_toArray, List.set_cons_zero, List.set_cons_succ]
            refine wpAnyH_take (i := 8) (v := ?_) rfl (by kernel_rfl) (by kernel_rfl) (by kernel_rfl) (fun _ _ _ h => h) (Or.inl ⟨by rfl, ?_⟩) (by assumption) ?_
            rotate_left 1
            · (intro wS hSw; (try dsimp only at hSw); go_simp; try with_reducible rfl)
            try simp only [List.getElem_toArray, List.getElem_cons_zero, List.getElem_cons_succ, Act.put, List.setIfInBounds_toArray, List.set_cons_zero, List.set_cons_succ]
        rotate_left 2
        focus
          go_simp
          refine hK.out _ _ ((KF.out.moved (m1.alloc (.cells #[.int .i64 0, .int .i64 0, .slice none 0 0] 48))).held7 (((m1.alloc (.cells #[.int .i64 0, .int .i64 0, .slice none 0 0] 48))).blk hxD HX9.out)) (fun hHeld => ?_)
          clear hK K
          try simp only [List.getElem_toArray, List.getElem_cons_zero, List.getElem_cons_succ, Act.put, List.setIfInBounds_toArray, List.set_cons_zero, List.set_cons_succ]
          refine wph_name (fun V2 hV => ?_)
          have m2 : Moved D w9 V2 := by rw [hV]; exact m1.alloc (.cells #[.int .i64 0, .int .i64 0, .slice none 0 0] 48)
          have gb : V2.heap[V1.heap.size]? = some (.cells #[.int .i64 0, .int .i64 0, .slice none 0 0] 48 (0, 0)) := by rw [hV]; exact blk_new rfl
          have hrb : w9.heap.size ≤ V1.heap.size := m1.size
          clear hV hHeld
          have hHeld : V2.cell? ⟨w2.heap.size + 1, 0, none⟩ = some (.slice (some ⟨w2.heap.size, 0, none⟩) 2 2) ∧ V2.cell? ⟨w2.heap.size + 1, 1, none⟩ = some (.slice at' r.titles.length ct) ∧ V2.cell? ⟨w2.heap.size + 1, 2, none⟩ = some (.slice an r.nicks.length cn) ∧ V2.cell? ⟨w2.heap.size + 1, 3, none⟩ = some (.slice as' r.streets.length cs) ∧ V2.cell? ⟨w8.heap.size, 0, none⟩ = some (.int .i64 dy) ∧ V2.cell? ⟨w8.heap.size, 1, none⟩ = some (.int .i64 dm) ∧ V2.cell? ⟨w8.heap.size, 2, none⟩ = some (.int .i64 dd) := (KF.out.moved m2).held7 ((m2).blk hxD HX9.out)
          refine wpAnyH_ready (rs := [4]) (by kernel_rfl) (by simp) ?_
          refine AllReadyH.cons rfl (fun K hK => ?_) (AllReadyH.nil)
          go_simp
          refine hK.out _ _ ((KF.out.moved (m2.alloc (.cells ([nn, wr0].flatMap encS).toArray 9))).held7 (((m2.alloc (.cells ([nn, wr0].flatMap encS).toArray 9))).blk hxD HX9.out)) (fun hHeld => ?_)
          clear hK K
          try simp only [List.getElem_toArray, List.getElem_cons_zero, List.getElem_cons_succ, Act.put, List.setIfInBounds_toArray, List.set_cons_zero, List.set_cons_succ]
          refine wph_name (fun V3 hV => ?_)
          have m3 : Moved D w9 V3 := by rw [hV]; exact m2.alloc (.cells ([nn, wr0].flatMap encS).toArray 9)
          have gb := show V3.heap[_]? = some _ by rw [hV]; exact blk_old gb
          have gl : V3.heap[V2.heap.size]? = some (.cells ([nn, wr0].flatMap encS).toArray 9 (0, 0)) := by rw [hV]; exact blk_new rfl
          clear hV hHeld
          have hHeld : V3.cell? ⟨w2.heap.size + 1, 0, none⟩ = some (.slice (some ⟨w2.heap.size, 0, none⟩) 2 2) ∧ V3.cell? ⟨w2.heap.size + 1, 1, none⟩ = some (.slice at' r.titles.length ct) ∧ V3.cell? ⟨w2.heap.size + 1, 2, none⟩ = some (.slice an r.nicks.length cn) ∧ V3.cell? ⟨w2.heap.size + 1, 3, none⟩ = some (.slice as' r.streets.length cs) ∧ V3.cell? ⟨w8.heap.size, 0, none⟩ = some (.int .i64 dy) ∧ V3.cell? ⟨w8.heap.size, 1, none⟩ = some (.int .i64 dm) ∧ V3.cell? ⟨w8.heap.size, 2, none⟩ = some (.int .i64 dd) := (KF.out.moved m3).held7 ((m3).blk hxD HX9.out)
          refine wpAnyH_ready (rs := [5]) (by kernel_rfl) (by simp) ?_
          refine AllReadyH.cons rfl (fun K hK => ?_) (AllReadyH.nil)
          go_simp
          have hlt0 := lt_of_blk gb
          obtain ⟨⟨r1, er⟩, hR⟩ : ∃ R, makeN ⟨equalF, r⟩ 5 2 [nn, wr0] = R := ⟨_, rfl⟩
          have hmk := pmake_yes (fun b => Wd.heap.size ≤ b) Any1 _ _ _ _ ⟨equalF, r⟩ 5 2 [nn, wr0] (.slice (some ⟨V2.heap.size, 0, none⟩) 2 2) _ (KF.out.moved m3).s (blockVec (k := 1) (enc := encS) (L := [nn, wr0]) (S := Any1) (A := V2.heap.size) (fun _ => rfl) gl trivial 2 rfl) (equal_check HRD.out) rfl (by decide) (by intro x hx; simp at hx; rcases hx with rfl | rfl <;> omega)
          rw [hR] at hmk
          refine hmk.mono ?_
          rintro e V4 ⟨_, rfl, ⟨sv, rfl, hvv⟩, hb⟩
          have m4 := m3.below hb
          have gb := blk_below hb (lt_of_blk gb) gb
          have gl := blk_below hb (lt_of_blk gl) gl
          have hvv := hvv.move (w' := V4) (S' := fun b => w9.heap.size ≤ b ∧ b ≠ V1.heap.size) (Nat.le_refl _) fun b hb' hs => ⟨rfl, by have h1 := m3.size; have hs' := hs; exact ⟨by omega, by omega⟩⟩
          obtain ⟨asv, csv, esv⟩ := hvv.slice; subst esv
          have HRR := Lib.hid hR
          clear hb hmk hR
          refine hK.out _ _ ((KF.out.moved m4).held7 ((m4).blk hxD HX9.out)) (fun hHeld => ?_)
          clear hK K
          try simp only [List.getElem_toArray, List.getElem_cons_zero, List.getElem_cons_succ, Act.put, List.setIfInBounds_toArray, List.set_cons_zero, List.set_cons_succ]
          refine wpAnyH_take (i := 6) (v := ?_) rfl (by kernel_rfl) (by kernel_rfl) (by kernel_rfl) (fun _ _ _ h => h) (Or.inl ⟨by rfl, ?_⟩) (by assumption) ?_
          rotate_left 1
          · (intro wS hSw; (try dsimp only at hSw); go_simp; try with_reducible rfl)
          try simp only [List.getElem_toArray, List.getElem_cons_zero, List.getElem_cons_succ, Act.put, List.setIfInBounds_toArray, List.set_cons_zero, List.set_cons_succ]
          refine wpAnyH_take (i := 7) (v := ?_) rfl (by kernel_rfl) (by kernel_rfl) (by kernel_rfl) (fun _ _ _ h => h) (Or.inl ⟨by rfl, ?_⟩) (by assumption) ?_
          rotate_left 1
          · (intro wS hSw; (try dsimp only at hSw); go_simp; try with_reducible rfl)
          try simp only [List.getElem_toArray, List.getElem_cons_zero, List.getElem_cons_succ, Act.put, List.setIfInBounds_toArray, List.set_cons_zero, List.set_cons_succ]
          refine wpAnyH_take (i := 8) (v := ?_) rfl (by kernel_rfl) (by kernel_rfl) (by kernel_rfl) (fun _ _ _ h => h) (Or.inl ⟨by rfl, ?_⟩) (by assumption) ?_
          rotate_left 1
          · (intro wS hSw; (try dsimp only at hSw); go_simp; try with_reducible rfl)
          try simp only [List.getElem_toArray, List.getElem_cons_zero, List.getElem_cons_succ, Act.put, List.setIfInBounds_toArray, List.set_cons_zero, List.set_cons_succ]
      rotate_left 3
      focus
        go_simp
        refine hK.out _ _ ((KF.out.moved (mD.alloc (.cells #[.int .i64 0, .int .i64 0, .slice none 0 0] 48))).held7 (((mD.alloc (.cells #[.int .i64 0, .int .i64 0, .slice none 0 0] 48))).blk hxD HX9.out)) (fun hHeld => ?_)
        clear hK K
        try simp only [List.getElem_toArray, List.getElem_cons_zero, List.getElem_cons_succ, Act.put, List.setIfInBounds_toArray, List.set_cons_zero, List.set_cons_succ]
        refine wph_name (fun V1 hV => ?_)
        have m1 : Moved D w9 V1 := by rw [hV]; exact mD.alloc (.cells #[.int .i64 0, .int .i64 0, .slice none 0 0] 48)
        have gb : V1.heap[w9.heap.size]? = some (.cells #[.int .i64 0, .int .i64 0, .slice none 0 0] 48 (0, 0)) := by rw [hV]; exact blk_new rfl
        have hrb : w9.heap.size ≤ w9.heap.size := mD.size
        clear hV hHeld
        have hHeld : V1.cell? ⟨w2.heap.size + 1, 0, none⟩ = some (.slice (some ⟨w2.heap.size, 0, none⟩) 2 2) ∧ V1.cell? ⟨w2.heap.size + 1, 1, none⟩ = some (.slice at' r.titles.length ct) ∧ V1.cell? ⟨w2.heap.size + 1, 2, none⟩ = some (.slice an r.nicks.length cn) ∧ V1.cell? ⟨w2.heap.size + 1, 3, none⟩ = some (.slice as' r.streets.length cs) ∧ V1.cell? ⟨w8.heap.size, 0, none⟩ = some (.int .i64 dy) ∧ V1.cell? ⟨w8.heap.size, 1, none⟩ = some (.int .i64 dm) ∧ V1.cell? ⟨w8.heap.size, 2, none⟩ = some (.int .i64 dd) := (KF.out.moved m1).held7 ((m1).blk hxD HX9.out)
        refine wpAnyH_ready (rs := [3]) (by kernel_rfl) (by simp) ?_
        refine AllReadyH.cons rfl (fun K hK => ?_) (AllReadyH.nil)
        go_simp
        refine (written_any dy dm dd 0 _ BD.out (by omega)).mono ?_
        rw [HWR0.out]
        rintro e V2 ⟨rfl, hb⟩
        have m2 := m1.below hb
        have gb := blk_below hb (lt_of_blk gb) gb
        clear hb
        refine hK.out _ _ ((KF.out.moved m2).held7 ((m2).blk hxD HX9.out)) (fun hHeld => ?_)
        clear hK K
        try simp only [List.getElem_toArray, List.getElem_cons_zero, List.getElem_cons_succ, Act.put, List.setIfInBounds_toArray, List.set_cons_zero, List.set_cons_succ]
        refine wpAnyH_ready (rs := [4]) (by kernel_rfl) (by simp) ?_
        refine AllReadyH.cons rfl (fun K hK => ?_) (AllReadyH.nil)
        go_simp
        refine hK.out _ _ ((KF.out.moved (m2.alloc (.cells ([nn, wr0].flatMap encS).toArray 9))).held7 (((m2.alloc (.cells ([nn, wr0].flatMap encS).toArray 9))).blk hxD HX9.out)) (fun hHeld => ?_)
        clear hK K
        try simp only [List.getElem_toArray, List.getElem_cons_zero, List.getElem_cons_succ, Act.put, List.setIfInBounds_toArray, List.set_cons_zero, List.set_cons_succ]
        refine wph_name (fun V3 hV => ?_)
        have m3 : Moved D w9 V3 := by rw [hV]; exact m2.alloc (.cells ([nn, wr0].flatMap encS).toArray 9)
        have gb := show V3.heap[_]? = some _ by rw [hV]; exact blk_old gb
        have gl : V3.heap[V2.heap.size]? = some (.cells ([nn, wr0].flatMap encS).toArray 9 (0, 0)) := by rw [hV]; exact blk_new rfl
        clear hV hHeld
        have hHeld : V3.cell? ⟨w2.heap.size + 1, 0, none⟩ = some (.slice (some ⟨w2.heap.size, 0, none⟩) 2 2) ∧ V3.cell? ⟨w2.heap.size + 1, 1, none⟩ = some (.slice at' r.titles.length ct) ∧ V3.cell? ⟨w2.heap.size + 1, 2, none⟩ = some (.slice an r.nicks.length cn) ∧ V3.cell? ⟨w2.heap.size + 1, 3, none⟩ = some (.slice as' r.streets.length cs) ∧ V3.cell? ⟨w8.heap.size, 0, none⟩ = some (.int .i64 dy) ∧ V3.cell? ⟨w8.heap.size, 1, none⟩ = some (.int .i64 dm) ∧ V3.cell? ⟨w8.heap.size, 2, none⟩ = some (.int .i64 dd) := (KF.out.moved m3).held7 ((m3).blk hxD HX9.out)
        refine wpAnyH_ready (rs := [5]) (by kernel_rfl) (by simp) ?_
        refine AllReadyH.cons rfl (fun K hK => ?_) (AllReadyH.nil)
        go_simp
        have hlt0 := lt_of_blk gb
        obtain ⟨⟨r1, er⟩, hR⟩ : ∃ R, makeN ⟨equalF, r⟩ 5 2 [nn, wr0] = R := ⟨_, rfl⟩
        have hmk := pmake_yes (fun b => Wd.heap.size ≤ b) Any1 _ _ _ _ ⟨equalF, r⟩ 5 2 [nn, wr0] (.slice (some ⟨V2.heap.size, 0, none⟩) 2 2) _ (KF.out.moved m3).s (blockVec (k := 1) (enc := encS) (L := [nn, wr0]) (S := Any1) (A := V2.heap.size) (fun _ => rfl) gl trivial 2 rfl) (equal_check HRD.out) rfl (by decide) (by intro x hx; simp at hx; rcases hx with rfl | rfl <;> omega)
        rw [hR] at hmk
        refine hmk.mono ?_
        rintro e V4 ⟨_, rfl, ⟨sv, rfl, hvv⟩, hb⟩
        have m4 := m3.below hb
        have gb := blk_below hb (lt_of_blk gb) gb
        have gl := blk_below hb (lt_of_blk gl) gl
        have hvv := hvv.move (w' := V4) (S' := fun b => w9.heap.size ≤ b ∧ b ≠ w9.heap.size) (Nat.le_refl _) fun b hb' hs => ⟨rfl, by have h1 := m3.size; have hs' := hs; exact ⟨by omega, by omega⟩⟩
        obtain ⟨asv, csv, esv⟩ := hvv.slice; subst esv
        have HRR := Lib.hid hR
        clear hb hmk hR
        refine hK.out _ _ ((KF.out.moved m4).held7 ((m4).blk hxD HX9.out)) (fun hHeld => ?_)
        clear hK K
        try simp only [List.getElem_toArray, List.getElem_cons_zero, List.getElem_cons_succ, Act.put, List.setIfInBounds_toArray, List.set_cons_zero, List.set_cons_succ]
        refine wpAnyH_take (i := 6) (v := ?_) rfl (by kernel_rfl) (by kernel_rfl) (by kernel_rfl) (fun _ _ _ h => h) (Or.inl ⟨by rfl, ?_⟩) (by assumption) ?_
        rotate_left 1
        · (intro wS hSw; (try dsimp only at hSw); go_simp; try with_reducible rfl)
        try simp only [List.getElem_toArray, List.getElem_cons_zero, List.getElem_cons_succ, Act.put, List.setIfInBounds_toArray, List.set_cons_zero, List.set_cons_succ]
        refine wpAnyH_take (i := 7) (v := ?_) rfl (by kernel_rfl) (by kernel_rfl) (by kernel_rfl) (fun _ _ _ h => h) (Or.inl ⟨by rfl, ?_⟩) (by assumption) ?_
        rotate_left 1
        · (intro wS hSw; (try dsimp only at hSw); go_simp; try with_reducible rfl)
        try simp only [List.getElem_toArray, List.getElem_cons_zero, List.getElem_cons_succ, Act.put, List.setIfInBounds_toArray, List.set_cons_zero, List.set_cons_succ]
        refine wpAnyH_take (i := 8) (v := ?_) rfl (by kernel_rfl) (by kernel_rfl) (by kernel_rfl) (fun _ _ _ h => h) (Or.inl ⟨by rfl, ?_⟩) (by assumption) ?_
        rotate_left 1
        · (intro wS hSw; (try dsimp only at hSw); go_simp; try with_reducible rfl)
        try simp only [List.getElem_toArray, List.getElem_cons_zero, List.getElem_cons_succ, Act.put, List.setIfInBounds_toArray, List.set_cons_zero, List.set_cons_succ]
      all_goals
        obtain ⟨c0, c1, c2⟩ := cells3 gb; have f0 := frozen_of_row _ _ 0 _ _ gb; have f1 := frozen_of_row _ _ 1 _ _ gb; have f2 := frozen_of_row _ _ 2 _ _ gb; have za := lt_of_blk gb
        have ms := (((m4.set (a := ⟨_, 0, none⟩) hrb (.int .i64 r1.id)).set (a := ⟨_, 1, none⟩) hrb (.int .i64 r1.ver)).set (a := ⟨_, 2, none⟩) hrb (.slice asv r1.vals.length csv))
        refine wpAnyH_ready (rs := [10]) (by kernel_rfl) (by simp) ?_
        refine AllReadyH.cons rfl (fun K hK => ?_) AllReadyH.nil
        go_simp
        refine hK.out _ _ ((KF.out.moved ms).held7 ((ms).blk hxD HX9.out)) (fun hHeld => ?_)
        clear hK K
        try simp only [List.getElem_toArray, List.getElem_cons_zero, List.getElem_cons_succ, Act.put, List.setIfInBounds_toArray, List.set_cons_zero, List.set_cons_succ]
        refine wpAnyH_take (i := 11) (v := ?_) rfl (by kernel_rfl) (by kernel_rfl) (by kernel_rfl) (fun _ _ _ h => h) (Or.inl ⟨by rfl, ?_⟩) (by assumption) ?_
        rotate_left 1
        · (intro wS hSw; (try dsimp only at hSw); go_simp; try with_reducible rfl)
        try simp only [List.getElem_toArray, List.getElem_cons_zero, List.getElem_cons_succ, Act.put, List.setIfInBounds_toArray, List.set_cons_zero, List.set_cons_succ]
        refine wpAnyH_done (by kernel_rfl) ?_ _
        refine NoPanic.normal ?_
        go_wp2_with fail
        go_meet
        exact ⟨_, er, _, r1, rfl, rfl, blk_set (blk_set (blk_set gb)), (((hvv.far (fun b hb => hb.2)).far (fun b hb => hb.2)).far (fun b hb => hb.2)).weaken (fun b hb => hb.1), HRR, ms, hrb⟩
    case rest =>
      obtain ⟨wB, hwB⟩ : ∃ u, u = wc := ⟨_, rfl⟩
      subst hwB
      obtain ⟨ra, ea, sva, r1, rfl, rfl, ga, hva, HM1, mw, hra⟩ := hcut
      obtain ⟨aa, ca, rfl⟩ := hva.slice
      have KG := Lib.hid (KF.out.moved mw); have HXG := Lib.hid (mw.blk hxD HX9.out); have HGA := Lib.hid ga
      have zwD := KF.out.m.deck.lt
      have HVA := Lib.hid (hva.move (S' := fun b => D < b) (w' := wB) (Nat.le_refl _) fun b hb hs => ⟨rfl, by have hs' : w9.heap.size ≤ b := hs; show D < b; omega⟩)
      have hraD : D < ra := by omega
      clear mw ga hva hra mD KF HX9 zwD
      have zwB := KG.out.m.deck.lt
      have mD : Moved D wB wB.drew := (Moved.start KG.out.m.deck).drew
      go_wp2_with fail
      go_cut [9, 10] (fun s11 s12 wx => ∃ (rb : Nat) (er : Int) (sv : Value) (r2 : RecL) (o : List UInt8), s11 = .pointer (some ⟨rb, 0, none⟩) ∧ s12 = .int .i64 er ∧ wx.heap[rb]? = some (.cells #[.int .i64 r2.id, .int .i64 r2.ver, sv] 48 (0, 0)) ∧ Vec wx (fun b => wB.heap.size ≤ b) 1 encS sv r2.vals ∧ Hid (makeN ⟨equalF, r⟩ 5 2 [o, wr1] = (r2, er)) ∧ Hid (DressOf nn o) ∧ Moved D wB wx ∧ wB.heap.size ≤ rb)
      case first =>
        refine wp_region_noPanic ?_
        refine wp_region_held_drew (S := (fun w' => w'.cell? ⟨w2.heap.size + 1, 0, none⟩ = some (.slice (some ⟨w2.heap.size, 0, none⟩) 2 2) ∧ w'.cell? ⟨w2.heap.size + 1, 1, none⟩ = some (.slice at' r.titles.length ct) ∧ w'.cell? ⟨w2.heap.size + 1, 2, none⟩ = some (.slice an r.nicks.length cn) ∧ w'.cell? ⟨w2.heap.size + 1, 3, none⟩ = some (.slice as' r.streets.length cs) ∧ w'.cell? ⟨w8.heap.size, 0, none⟩ = some (.int .i64 dy) ∧ w'.cell? ⟨w8.heap.size, 1, none⟩ = some (.int .i64 dm) ∧ w'.cell? ⟨w8.heap.size, 2, none⟩ = some (.int .i64 dd))) (by kernel_rfl) ((KG.out.moved (Moved.start KG.out.m.deck)).held7 HXG.out) (fun hHeld => ?_)
        refine wpAnyH_take (i := 0) (v := ?_) rfl (by kernel_rfl) (by kernel_rfl) (by kernel_rfl) (fun _ _ _ h => h) (Or.inl ⟨by rfl, ?_⟩) (by assumption) ?_
        rotate_left 1
        · (intro wS hSw; (try dsimp only at hSw); go_simp; try with_reducible rfl)
        try simp only [List.getElem_toArray, List.getElem_cons_zero, List.getElem_cons_succ, Act.put, List.setIfInBounds_toArray, List.set_cons_zero, List.set_cons_succ]
        refine wpAnyH_take (i := 1) (v := ?_) rfl (by kernel_rfl) (by kernel_rfl) (by kernel_rfl) (fun _ _ _ h => h) (Or.inl ⟨by rfl, ?_⟩) (by assumption) ?_
        rotate_left 1
        · (intro wS hSw; (try dsimp only at hSw); go_simp; try with_reducible rfl)
        try simp only [List.getElem_toArray, List.getElem_cons_zero, List.getElem_cons_succ, Act.put, List.setIfInBounds_toArray, List.set_cons_zero, List.set_cons_succ]
        refine wpAnyH_take (i := 2) (v := ?_) rfl (by kernel_rfl) (by kernel_rfl) (by kernel_rfl) (fun _ _ _ h => h) (Or.inl ⟨by rfl, ?_⟩) (by assumption) ?_
        rotate_left 1
        · (intro wS hSw; (try dsimp only at hSw); go_simp; try with_reducible rfl)
        try simp only [List.getElem_toArray, List.getElem_cons_zero, List.getElem_cons_succ, Act.put, List.setIfInBounds_toArray, List.set_cons_zero, List.set_cons_succ]
        refine wpAnyH_take (i := 4) (v := ?_) rfl (by kernel_rfl) (by kernel_rfl) (by kernel_rfl) (fun _ _ _ h => h) (Or.inl ⟨by rfl, ?_⟩) (by assumption) ?_
        rotate_left 1
        · (intro wS hSw; (try dsimp only at hSw); go_simp; try with_reducible rfl)
        try simp only [List.getElem_toArray, List.getElem_cons_zero, List.getElem_cons_succ, Act.put, List.setIfInBounds_toArray, List.set_cons_zero, List.set_cons_succ]
        refine wpAnyH_ready (rs := [3, 11]) (by kernel_rfl) (by simp) ?_
        refine AllReadyH.cons rfl (fun K hK => ?_) (AllReadyH.cons rfl (fun K hK => ?_) (AllReadyH.nil))
        focus
          go_simp
          refine (dress_any D ⟨nn.toArray⟩ _ mD.deck (by simpa using HOk.out) (by rw [mk_size]; omega)).mono ?_
          rintro e V1 ⟨o, rfl, ho, mv⟩
          have m1 := mD.trans mv
          have ho' : DressOf nn o := by simpa using ho
          have hol : o.length ≤ 68 := by have := ho'.len; omega
          have HO := Lib.hid ho'
          clear mv ho ho'
          refine hK.out _ _ ((KG.out.moved m1).held7 ((m1).blk hxD HXG.out)) (fun hHeld => ?_)
          clear hK K
          try simp only [List.getElem_toArray, List.getElem_cons_zero, List.getElem_cons_succ, Act.put, List.setIfInBounds_toArray, List.set_cons_zero, List.set_cons_succ]
          refine wpAnyH_ready (rs := [5, 11]) (by kernel_rfl) (by simp) ?_
          refine AllReadyH.cons rfl (fun K hK => ?_) (AllReadyH.cons rfl (fun K hK => ?_) (AllReadyH.nil))
          focus
            go_simp
            refine (written_any dy dm dd 2 _ BD.out (by omega)).mono ?_
            rw [HWR2.out]
            rintro e V2 ⟨rfl, hb⟩
            have m2 := m1.below hb
            clear hb
            refine hK.out _ _ ((KG.out.moved m2).held7 ((m2).blk hxD HXG.out)) (fun hHeld => ?_)
            clear hK K
            try simp only [List.getElem_toArray, List.getElem_cons_zero, List.getElem_cons_succ, Act.put, List.setIfInBounds_toArray, List.set_cons_zero, List.set_cons_succ]
            refine wpAnyH_ready (rs := [6, 11]) (by kernel_rfl) (by simp) ?_
            refine AllReadyH.cons rfl (fun K hK => ?_) (AllReadyH.cons rfl (fun K hK => ?_) (AllReadyH.nil))
            focus
              go_simp
              refine hK.out _ _ ((KG.out.moved (m2.alloc (.cells ([o, wr1].flatMap encS).toArray 9))).held7 (((m2.alloc (.cells ([o, wr1].flatMap encS).toArray 9))).blk hxD HXG.out)) (fun hHeld => ?_)
              clear hK K
              try simp only [List.getElem_toArray, List.getElem_cons_zero, List.getElem_cons_succ, Act.put, List.setIfInBounds_toArray, List.set_cons_zero, List.set_cons_succ]
              refine wph_name (fun V3 hV => ?_)
              have m3 : Moved D wB V3 := by rw [hV]; exact m2.alloc (.cells ([o, wr1].flatMap encS).toArray 9)
              have gl : V3.heap[V2.heap.size]? = some (.cells ([o, wr1].flatMap encS).toArray 9 (0, 0)) := by rw [hV]; exact blk_new rfl
              clear hV hHeld
              have hHeld : V3.cell? ⟨w2.heap.size + 1, 0, none⟩ = some (.slice (some ⟨w2.heap.size, 0, none⟩) 2 2) ∧ V3.cell? ⟨w2.heap.size + 1, 1, none⟩ = some (.slice at' r.titles.length ct) ∧ V3.cell? ⟨w2.heap.size + 1, 2, none⟩ = some (.slice an r.nicks.length cn) ∧ V3.cell? ⟨w2.heap.size + 1, 3, none⟩ = some (.slice as' r.streets.length cs) ∧ V3.cell? ⟨w8.heap.size, 0, none⟩ = some (.int .i64 dy) ∧ V3.cell? ⟨w8.heap.size, 1, none⟩ = some (.int .i64 dm) ∧ V3.cell? ⟨w8.heap.size, 2, none⟩ = some (.int .i64 dd) := (KG.out.moved m3).held7 ((m3).blk hxD HXG.out)
              refine wpAnyH_ready (rs := [7, 11]) (by kernel_rfl) (by simp) ?_
              refine AllReadyH.cons rfl (fun K hK => ?_) (AllReadyH.cons rfl (fun K hK => ?_) (AllReadyH.nil))
              focus
                go_simp
                obtain ⟨⟨r1, er⟩, hR⟩ : ∃ R, makeN ⟨equalF, r⟩ 5 2 [o, wr1] = R := ⟨_, rfl⟩
                have hmk := pmake_yes (fun b => Wd.heap.size ≤ b) Any1 _ _ _ _ ⟨equalF, r⟩ 5 2 [o, wr1] (.slice (some ⟨V2.heap.size, 0, none⟩) 2 2) _ (KG.out.moved m3).s (blockVec (k := 1) (enc := encS) (L := [o, wr1]) (S := Any1) (A := V2.heap.size) (fun _ => rfl) gl trivial 2 rfl) (equal_check HRD.out) rfl (by decide) (by intro x hx; simp at hx; rcases hx with rfl | rfl <;> omega)
                rw [hR] at hmk
                refine hmk.mono ?_
                rintro e V4 ⟨_, rfl, ⟨sv, rfl, hvv⟩, hb⟩
                have m4 := m3.below hb
                have gl := blk_below hb (lt_of_blk gl) gl
                have hvv := hvv.move (w' := V4) (S' := fun b => wB.heap.size ≤ b) (Nat.le_refl _) fun b hb' hs => ⟨rfl, by have h1 := m3.size; have hs' := hs; omega⟩
                obtain ⟨asv, csv, esv⟩ := hvv.slice; subst esv
                have HRR := Lib.hid hR
                clear hb hmk hR
                refine hK.out _ _ ((KG.out.moved m4).held7 ((m4).blk hxD HXG.out)) (fun hHeld => ?_)
                clear hK K
                try simp only [List.getElem_toArray, List.getElem_cons_zero, List.getElem_cons_succ, Act.put, List.setIfInBounds_toArray, List.set_cons_zero, List.set_cons_succ]
                refine wpAnyH_take (i := 8) (v := ?_) rfl (by kernel_rfl) (by kernel_rfl) (by kernel_rfl) (fun _ _ _ h => h) (Or.inl ⟨by rfl, ?_⟩) (by assumption) ?_
                rotate_left 1
                · (intro wS hSw; (try dsimp only at hSw); go_simp; try with_reducible rfl)
                try simp only [List.getElem_toArray, List.getElem_cons_zero, List.getElem_cons_succ, Act.put, List.setIfInBounds_toArray, List.set_cons_zero, List.set_cons_succ]
                refine wpAnyH_take (i := 9) (v := ?_) rfl (by kernel_rfl) (by kernel_rfl) (by kernel_rfl) (fun _ _ _ h => h) (Or.inl ⟨by rfl, ?_⟩) (by assumption) ?_
                rotate_left 1
                · (intro wS hSw; (try dsimp only at hSw); go_simp; try with_reducible rfl)
                try simp only [List.getElem_toArray, List.getElem_cons_zero, List.getElem_cons_succ, Act.put, List.setIfInBounds_toArray, List.set_cons_zero, List.set_cons_succ]
                refine wpAnyH_take (i := 10) (v := ?_) rfl (by kernel_rfl) (by kernel_rfl) (by kernel_rfl) (fun _ _ _ h => h) (Or.inl ⟨by rfl, ?_⟩) (by assumption) ?_
                rotate_left 1
                · (intro wS hSw; (try dsimp only at hSw); go_simp; try with_reducible rfl)
                try simp only [List.getElem_toArray, List.getElem_cons_zero, List.getElem_cons_succ, Act.put, List.setIfInBounds_toArray, List.set_cons_zero, List.set_cons_succ]
                refine wpAnyH_ready (rs := [11]) (by kernel_rfl) (by simp) ?_
                refine AllReadyH.cons rfl (fun K hK => ?_) (AllReadyH.nil)
                go_simp
                refine hK.out _ _ ((KG.out.moved (m4.alloc (.cells #[.int .i64 0, .int .i64 0, .slice none 0 0] 48))).held7 (((m4.alloc (.cells #[.int .i64 0, .int .i64 0, .slice none 0 0] 48))).blk hxD HXG.out)) (fun hHeld => ?_)
                clear hK K
                try simp only [List.getElem_toArray, List.getElem_cons_zero, List.getElem_cons_succ, Act.put, List.setIfInBounds_toArray, List.set_cons_zero, List.set_cons_succ]
                refine wph_name (fun V5 hV => ?_)
                have m5 : Moved D wB V5 := by rw [hV]; exact m4.alloc (.cells #[.int .i64 0, .int .i64 0, .slice none 0 0] 48)
                have gl := show V5.heap[_]? = some _ by rw [hV]; exact blk_old gl
                have gb : V5.heap[V4.heap.size]? = some (.cells #[.int .i64 0, .int .i64 0, .slice none 0 0] 48 (0, 0)) := by rw [hV]; exact blk_new rfl
                have hvv := hvv.move (w' := V5) (S' := fun b => wB.heap.size ≤ b ∧ b ≠ V4.heap.size) (by rw [hV]; simp) fun b hb' hs => ⟨by rw [hV]; exact ((Below.refl _ _).alloc (Nat.le_refl _) _).block _ hb', hs, by omega⟩
                have hrb : wB.heap.size ≤ V4.heap.size := m4.size
                clear hV hHeld
                have hHeld : V5.cell? ⟨w2.heap.size + 1, 0, none⟩ = some (.slice (some ⟨w2.heap.size, 0, none⟩) 2 2) ∧ V5.cell? ⟨w2.heap.size + 1, 1, none⟩ = some (.slice at' r.titles.length ct) ∧ V5.cell? ⟨w2.heap.size + 1, 2, none⟩ = some (.slice an r.nicks.length cn) ∧ V5.cell? ⟨w2.heap.size + 1, 3, none⟩ = some (.slice as' r.streets.length cs) ∧ V5.cell? ⟨w8.heap.size, 0, none⟩ = some (.int .i64 dy) ∧ V5.cell? ⟨w8.heap.size, 1, none⟩ = some (.int .i64 dm) ∧ V5.cell? ⟨w8.heap.size, 2, none⟩ = some (.int .i64 dd) := (KG.out.moved m5).held7 ((m5).blk hxD HXG.out)
              rotate_left 1
              focus
                go_simp
                refine hK.out _ _ ((KG.out.moved (m3.alloc (.cells #[.int .i64 0, .int .i64 0, .slice none 0 0] 48))).held7 (((m3.alloc (.cells #[.int .i64 0, .int .i64 0, .slice none 0 0] 48))).blk hxD HXG.out)) (fun hHeld => ?_)
                clear hK K
                try simp only [List.getElem_toArray, List.getElem_cons_zero, List.getElem_cons_succ, Act.put, List.setIfInBounds_toArray, List.set_cons_zero, List.set_cons_succ]
                refine wph_name (fun V4 hV => ?_)
                have m4 : Moved D wB V4 := by rw [hV]; exact m3.alloc (.cells #[.int .i64 0, .int .i64 0, .slice none 0 0] 48)
                have gl := show V4.heap[_]? = some _ by rw [hV]; exact blk_old gl
                have gb : V4.heap[V3.heap.size]? = some (.cells #[.int .i64 0, .int .i64 0, .slice none 0 0] 48 (0, 0)) := by rw [hV]; exact blk_new rfl
                have hrb : wB.heap.size ≤ V3.heap.size := m3.size
                clear hV hHeld
                have hHeld : V4.cell? ⟨w2.heap.size + 1, 0, none⟩ = some (.slice (some ⟨w2.heap.size, 0, none⟩) 2 2) ∧ V4.cell? ⟨w2.heap.size + 1, 1, none⟩ = some (.slice at' r.titles.length ct) ∧ V4.cell? ⟨w2.heap.size + 1, 2, none⟩ = some (.slice an r.nicks.length cn) ∧ V4.cell? ⟨w2.heap.size + 1, 3, none⟩ = some (.slice as' r.streets.length cs) ∧ V4.cell? ⟨w8.heap.size, 0, none⟩ = some (.int .i64 dy) ∧ V4.cell? ⟨w8.heap.size, 1, none⟩ = some (.int .i64 dm) ∧ V4.cell? ⟨w8.heap.size, 2, none⟩ = some (.int .i64 dd) := (KG.out.moved m4).held7 ((m4).blk hxD HXG.out)
                refine wpAnyH_ready (rs := [7]) (by kernel_rfl) (by simp) ?_
                refine AllReadyH.cons rfl (fun K hK => ?_) (AllReadyH.nil)
                go_simp
                have hlt0 := lt_of_blk gb
                obtain ⟨⟨r1, er⟩, hR⟩ : ∃ R, makeN ⟨equalF, r⟩ 5 2 [o, wr1] = R := ⟨_, rfl⟩
                have hmk := pmake_yes (fun b => Wd.heap.size ≤ b) Any1 _ _ _ _ ⟨equalF, r⟩ 5 2 [o, wr1] (.slice (some ⟨V2.heap.size, 0, none⟩) 2 2) _ (KG.out.moved m4).s (blockVec (k := 1) (enc := encS) (L := [o, wr1]) (S := Any1) (A := V2.heap.size) (fun _ => rfl) gl trivial 2 rfl) (equal_check HRD.out) rfl (by decide) (by intro x hx; simp at hx; rcases hx with rfl | rfl <;> omega)
                rw [hR] at hmk
                refine hmk.mono ?_
                rintro e V5 ⟨_, rfl, ⟨sv, rfl, hvv⟩, hb⟩
                have m5 := m4.below hb
                have gl := blk_below hb (lt_of_blk gl) gl
                have gb := blk_below hb (lt_of_blk gb) gb
                have hvv := hvv.move (w' := V5) (S' := fun b => wB.heap.size ≤ b ∧ b ≠ V3.heap.size) (Nat.le_refl _) fun b hb' hs => ⟨rfl, by have h1 := m4.size; have hs' := hs; exact ⟨by omega, by omega⟩⟩
                obtain ⟨asv, csv, esv⟩ := hvv.slice; subst esv
                have HRR := Lib.hid hR
                clear hb hmk hR
                refine hK.out _ _ ((KG.out.moved m5).held7 ((m5).blk hxD HXG.out)) (fun hHeld => ?_)
                clear hK K
                try simp only [List.getElem_toArray, List.getElem_cons_zero, List.getElem_cons_succ, Act.put, List.setIfInBounds_toArray, List.set_cons_zero, List.set_cons_succ]
                refine wpAnyH_take (i := 8) (v := ?_) rfl (by kernel_rfl) (by kernel_rfl) (by kernel_rfl) (fun _ _ _ h => h) (Or.inl ⟨by rfl, ?_⟩) (by assumption) ?_
                rotate_left 1
                · (intro wS hSw; (try dsimp only at hSw); go_simp; try with_reducible rfl)
                try simp only [List.getElem_toArray, List.getElem_cons_zero, List.getElem_cons_succ, Act.put, List.setIfInBounds_toArray, List.set_cons_zero, List.set_cons_succ]
                refine wpAnyH_take (i := 9) (v := ?_) rfl (by kernel_rfl) (by kernel_rfl) (by kernel_rfl) (fun _ _ _ h => h) (Or.inl ⟨by rfl, ?_⟩) (by assumption) ?_
                rotate_left 1
                · (intro wS hSw; (try dsimp only at hSw); go_simp; try with_reducible rfl)
                try simp only [List.getElem_toArray, List.getElem_cons_zero, List.getElem_cons_succ, Act.put, List.setIfInBounds_toArray, List.set_cons_zero, List.set_cons_succ]
                refine wpAnyH_take (i := 10) (v := ?_) rfl (by kernel_rfl) (by kernel_rfl) (by kernel_rfl) (fun _ _ _ h => h) (Or.inl ⟨by rfl, ?_⟩) (by assumption) ?_
                rotate_left 1
                · (intro wS hSw; (try dsimp only at hSw); go_simp; try with_reducible rfl)
                try simp only [List.getElem_toArray, List.getElem_cons_zero, List.getElem_cons_succ, Act.put, List.setIfInBounds_toArray, List.set_cons_zero, List.set_cons_succ]
            rotate_left 2
            focus
              go_simp
              refine hK.out _ _ ((KG.out.moved (m2.alloc (.cells #[.int .i64 0, .int .i64 0, .slice none 0 0] 48))).held7 (((m2.alloc (.cells #[.int .i64 0, .int .i64 0, .slice none 0 0] 48))).blk hxD HXG.out)) (fun hHeld => ?_)
              clear hK K
              try simp only [List.getElem_toArray, List.getElem_cons_zero, List.getElem_cons_succ, Act.put, List.setIfInBounds_toArray, List.set_cons_zero, List.set_cons_succ]
              refine wph_name (fun V3 hV => ?_)
              have m3 : Moved D wB V3 := by rw [hV]; exact m2.alloc (.cells #[.int .i64 0, .int .i64 0, .slice none 0 0] 48)
              have gb : V3.heap[V2.heap.size]? = some (.cells #[.int .i64 0, .int .i64 0, .slice none 0 0] 48 (0, 0)) := by rw [hV]; exact blk_new rfl
              have hrb : wB.heap.size ≤ V2.heap.size := m2.size
              clear hV hHeld
              have hHeld : V3.cell? ⟨w2.heap.size + 1, 0, none⟩ = some (.slice (some ⟨w2.heap.size, 0, none⟩) 2 2) ∧ V3.cell? ⟨w2.heap.size + 1, 1, none⟩ = some (.slice at' r.titles.length ct) ∧ V3.cell? ⟨w2.heap.size + 1, 2, none⟩ = some (.slice an r.nicks.length cn) ∧ V3.cell? ⟨w2.heap.size + 1, 3, none⟩ = some (.slice as' r.streets.length cs) ∧ V3.cell? ⟨w8.heap.size, 0, none⟩ = some (.int .i64 dy) ∧ V3.cell? ⟨w8.heap.size, 1, none⟩ = some (.int .i64 dm) ∧ V3.cell? ⟨w8.heap.size, 2, none⟩ = some (.int .i64 dd) := (KG.out.moved m3).held7 ((m3).blk hxD HXG.out)
              refine wpAnyH_ready (rs := [6]) (by kernel_rfl) (by simp) ?_
              refine AllReadyH.cons rfl (fun K hK => ?_) (AllReadyH.nil)
              go_simp
              refine hK.out _ _ ((KG.out.moved (m3.alloc (.cells ([o, wr1].flatMap encS).toArray 9))).held7 (((m3.alloc (.cells ([o, wr1].flatMap encS).toArray 9))).blk hxD HXG.out)) (fun hHeld => ?_)
              clear hK K
              try simp only [List.getElem_toArray, List.getElem_cons_zero, List.getElem_cons_succ, Act.put, List.setIfInBounds_toArray, List.set_cons_zero, List.set_cons_succ]
              refine wph_name (fun V4 hV => ?_)
              have m4 : Moved D wB V4 := by rw [hV]; exact m3.alloc (.cells ([o, wr1].flatMap encS).toArray 9)
              have gb := show V4.heap[_]? = some _ by rw [hV]; exact blk_old gb
              have gl : V4.heap[V3.heap.size]? = some (.cells ([o, wr1].flatMap encS).toArray 9 (0, 0)) := by rw [hV]; exact blk_new rfl
              clear hV hHeld
              have hHeld : V4.cell? ⟨w2.heap.size + 1, 0, none⟩ = some (.slice (some ⟨w2.heap.size, 0, none⟩) 2 2) ∧ V4.cell? ⟨w2.heap.size + 1, 1, none⟩ = some (.slice at' r.titles.length ct) ∧ V4.cell? ⟨w2.heap.size + 1, 2, none⟩ = some (.slice an r.nicks.length cn) ∧ V4.cell? ⟨w2.heap.size + 1, 3, none⟩ = some (.slice as' r.streets.length cs) ∧ V4.cell? ⟨w8.heap.size, 0, none⟩ = some (.int .i64 dy) ∧ V4.cell? ⟨w8.heap.size, 1, none⟩ = some (.int .i64 dm) ∧ V4.cell? ⟨w8.heap.size, 2, none⟩ = some (.int .i64 dd) := (KG.out.moved m4).held7 ((m4).blk hxD HXG.out)
              refine wpAnyH_ready (rs := [7]) (by kernel_rfl) (by simp) ?_
              refine AllReadyH.cons rfl (fun K hK => ?_) (AllReadyH.nil)
              go_simp
              have hlt0 := lt_of_blk gb
              obtain ⟨⟨r1, er⟩, hR⟩ : ∃ R, makeN ⟨equalF, r⟩ 5 2 [o, wr1] = R := ⟨_, rfl⟩
              have hmk := pmake_yes (fun b => Wd.heap.size ≤ b) Any1 _ _ _ _ ⟨equalF, r⟩ 5 2 [o, wr1] (.slice (some ⟨V3.heap.size, 0, none⟩) 2 2) _ (KG.out.moved m4).s (blockVec (k := 1) (enc := encS) (L := [o, wr1]) (S := Any1) (A := V3.heap.size) (fun _ => rfl) gl trivial 2 rfl) (equal_check HRD.out) rfl (by decide) (by intro x hx; simp at hx; rcases hx with rfl | rfl <;> omega)
              rw [hR] at hmk
              refine hmk.mono ?_
              rintro e V5 ⟨_, rfl, ⟨sv, rfl, hvv⟩, hb⟩
              have m5 := m4.below hb
              have gb := blk_below hb (lt_of_blk gb) gb
              have gl := blk_below hb (lt_of_blk gl) gl
              have hvv := hvv.move (w' := V5) (S' := fun b => wB.heap.size ≤ b ∧ b ≠ V2.heap.size) (Nat.le_refl _) fun b hb' hs => ⟨rfl, by have h1 := m4.size; have hs' := hs; exact ⟨by omega, by omega⟩⟩
              obtain ⟨asv, csv, esv⟩ := hvv.slice; subst esv
              have HRR := Lib.hid hR
              clear hb hmk hR
              refine hK.out _ _ ((KG.out.moved m5).held7 ((m5).blk hxD HXG.out)) (fun hHeld => ?_)
              clear hK K
              try simp only [List.getElem_toArray, List.getElem_cons_zero, List.getElem_cons_succ, Act.put, List.setIfInBounds_toArray, List.set_cons_zero, List.set_cons_succ]
              refine wpAnyH_take (i := 8) (v := ?_) rfl (by kernel_rfl) (by kernel_rfl) (by kernel_rfl) (fun _ _ _ h => h) (Or.inl ⟨by rfl, ?_⟩) (by assumption) ?_
              rotate_left 1
              · (intro wS hSw; (try dsimp only at hSw); go_simp; try with_reducible rfl)
              try simp only [List.getElem_toArray, List.getElem_cons_zero, List.getElem_cons_succ, Act.put, List.setIfInBounds_toArray, List.set_cons_zero, List.set_cons_succ]
              refine wpAnyH_take (i := 9) (v := ?_) rfl (by kernel_rfl) (by kernel_rfl) (by kernel_rfl) (fun _ _ _ h => h) (Or.inl ⟨by rfl, ?_⟩) (by assumption) ?_
              rotate_left 1
              · (intro wS hSw; (try dsimp only at hSw); go_simp; try with_reducible rfl)
              try simp only [List.getElem_toArray, List.getElem_cons_zero, List.getElem_cons_succ, Act.put, List.setIfInBounds_toArray, List.set_cons_zero, List.set_cons_succ]
              refine wpAnyH_take (i := 10) (v := ?_) rfl (by kernel_rfl) (by kernel_rfl) (by kernel_rfl) (fun _ _ _ h => h) (Or.inl ⟨by rfl, ?_⟩) (by assumption) ?_
              rotate_left 1
              · (intro wS hSw; (try dsimp only at hSw); go_simp; try with_reducible rfl)
              try simp only [List.getElem_toArray, List.getElem_cons_zero, List.getElem_cons_succ, Act.put, List.setIfInBounds_toArray, List.set_cons_zero, List.set_cons_succ]
          rotate_left 3
          focus
            go_simp
            refine hK.out _ _ ((KG.out.moved (m1.alloc (.cells #[.int .i64 0, .int .i64 0, .slice none 0 0] 48))).held7 (((m1.alloc (.cells #[.int .i64 0, .int .i64 0, .slice none 0 0] 48))).blk hxD HXG.out)) (fun hHeld => ?_)
            clear hK K
            try simp only [List.getElem_toArray, List.getElem_cons_zero, List.getElem_cons_succ, Act.put, List.setIfInBounds_toArray, List.set_cons_zero, List.set_cons_succ]
            refine wph_name (fun V2 hV => ?_)
            have m2 : Moved D wB V2 := by rw [hV]; exact m1.alloc (.cells #[.int .i64 0, .int .i64 0, .slice none 0 0] 48)
            have gb : V2.heap[V1.heap.size]? = some (.cells #[.int .i64 0, .int .i64 0, .slice none 0 0] 48 (0, 0)) := by rw [hV]; exact blk_new rfl
            have hrb : wB.heap.size ≤ V1.heap.size := m1.size
            clear hV hHeld
            have hHeld : V2.cell? ⟨w2.heap.size + 1, 0, none⟩ = some (.slice (some ⟨w2.heap.size, 0, none⟩) 2 2) ∧ V2.cell? ⟨w2.heap.size + 1, 1, none⟩ = some (.slice at' r.titles.length ct) ∧ V2.cell? ⟨w2.heap.size + 1, 2, none⟩ = some (.slice an r.nicks.length cn) ∧ V2.cell? ⟨w2.heap.size + 1, 3, none⟩ = some (.slice as' r.streets.length cs) ∧ V2.cell? ⟨w8.heap.size, 0, none⟩ = some (.int .i64 dy) ∧ V2.cell? ⟨w8.heap.size, 1, none⟩ = some (.int .i64 dm) ∧ V2.cell? ⟨w8.heap.size, 2, none⟩ = some (.int .i64 dd) := (KG.out.moved m2).held7 ((m2).blk hxD HXG.out)
            refine wpAnyH_ready (rs := [5]) (by kernel_rfl) (by simp) ?_
            refine AllReadyH.cons rfl (fun K hK => ?_) (AllReadyH.nil)
            go_simp
            refine (written_any dy dm dd 2 _ BD.out (by omega)).mono ?_
            rw [HWR2.out]
            rintro e V3 ⟨rfl, hb⟩
            have m3 := m2.below hb
            have gb := blk_below hb (lt_of_blk gb) gb
            clear hb
            refine hK.out _ _ ((KG.out.moved m3).held7 ((m3).blk hxD HXG.out)) (fun hHeld => ?_)
            clear hK K
            try simp only [List.getElem_toArray, List.getElem_cons_zero, List.getElem_cons_succ, Act.put, List.setIfInBounds_toArray, List.set_cons_zero, List.set_cons_succ]
            refine wpAnyH_ready (rs := [6]) (by kernel_rfl) (by simp) ?_
            refine AllReadyH.cons rfl (fun K hK => ?_) (AllReadyH.nil)
            go_simp
            refine hK.out _ _ ((KG.out.moved (m3.alloc (.cells ([o, wr1].flatMap encS).toArray 9))).held7 (((m3.alloc (.cells ([o, wr1].flatMap encS).toArray 9))).blk hxD HXG.out)) (fun hHeld => ?_)
            clear hK K
            try simp only [List.getElem_toArray, List.getElem_cons_zero, List.getElem_cons_succ, Act.put, List.setIfInBounds_toArray, List.set_cons_zero, List.set_cons_succ]
            refine wph_name (fun V4 hV => ?_)
            have m4 : Moved D wB V4 := by rw [hV]; exact m3.alloc (.cells ([o, wr1].flatMap encS).toArray 9)
            have gb := show V4.heap[_]? = some _ by rw [hV]; exact blk_old gb
            have gl : V4.heap[V3.heap.size]? = some (.cells ([o, wr1].flatMap encS).toArray 9 (0, 0)) := by rw [hV]; exact blk_new rfl
            clear hV hHeld
            have hHeld : V4.cell? ⟨w2.heap.size + 1, 0, none⟩ = some (.slice (some ⟨w2.heap.size, 0, none⟩) 2 2) ∧ V4.cell? ⟨w2.heap.size + 1, 1, none⟩ = some (.slice at' r.titles.length ct) ∧ V4.cell? ⟨w2.heap.size + 1, 2, none⟩ = some (.slice an r.nicks.length cn) ∧ V4.cell? ⟨w2.heap.size + 1, 3, none⟩ = some (.slice as' r.streets.length cs) ∧ V4.cell? ⟨w8.heap.size, 0, none⟩ = some (.int .i64 dy) ∧ V4.cell? ⟨w8.heap.size, 1, none⟩ = some (.int .i64 dm) ∧ V4.cell? ⟨w8.heap.size, 2, none⟩ = some (.int .i64 dd) := (KG.out.moved m4).held7 ((m4).blk hxD HXG.out)
            refine wpAnyH_ready (rs := [7]) (by kernel_rfl) (by simp) ?_
            refine AllReadyH.cons rfl (fun K hK => ?_) (AllReadyH.nil)
            go_simp
            have hlt0 := lt_of_blk gb
            obtain ⟨⟨r1, er⟩, hR⟩ : ∃ R, makeN ⟨equalF, r⟩ 5 2 [o, wr1] = R := ⟨_, rfl⟩
            have hmk := pmake_yes (fun b => Wd.heap.size ≤ b) Any1 _ _ _ _ ⟨equalF, r⟩ 5 2 [o, wr1] (.slice (some ⟨V3.heap.size, 0, none⟩) 2 2) _ (KG.out.moved m4).s (blockVec (k := 1) (enc := encS) (L := [o, wr1]) (S := Any1) (A := V3.heap.size) (fun _ => rfl) gl trivial 2 rfl) (equal_check HRD.out) rfl (by decide) (by intro x hx; simp at hx; rcases hx with rfl | rfl <;> omega)
            rw [hR] at hmk
            refine hmk.mono ?_
            rintro e V5 ⟨_, rfl, ⟨sv, rfl, hvv⟩, hb⟩
            have m5 := m4.below hb
            have gb := blk_below hb (lt_of_blk gb) gb
            have gl := blk_below hb (lt_of_blk gl) gl
            have hvv := hvv.move (w' := V5) (S' := fun b => wB.heap.size ≤ b ∧ b ≠ V1.heap.size) (Nat.le_refl _) fun b hb' hs => ⟨rfl, by have h1 := m4.size; have hs' := hs; exact ⟨by omega, by omega⟩⟩
            obtain ⟨asv, csv, esv⟩ := hvv.slice; subst esv
            have HRR := Lib.hid hR
            clear hb hmk hR
            refine hK.out _ _ ((KG.out.moved m5).held7 ((m5).blk hxD HXG.out)) (fun hHeld => ?_)
            clear hK K
            try simp only [List.getElem_toArray, List.getElem_cons_zero, List.getElem_cons_succ, Act.put, List.setIfInBounds_toArray, List.set_cons_zero, List.set_cons_succ]
            refine wpAnyH_take (i := 8) (v := ?_) rfl (by kernel_rfl) (by kernel_rfl) (by kernel_rfl) (fun _ _ _ h => h) (Or.inl ⟨by rfl, ?_⟩) (by assumption) ?_
            rotate_left 1
            · (intro wS hSw; (try dsimp only at hSw); go_simp; try with_reducible rfl)
            try simp only [List.getElem_toArray, List.getElem_cons_zero, List.getElem_cons_succ, Act.put, List.setIfInBounds_toArray, List.set_cons_zero, List.set_cons_succ]
            refine wpAnyH_take (i := 9) (v := ?_) rfl (by kernel_rfl) (by kernel_rfl) (by kernel_rfl) (fun _ _ _ h => h) (Or.inl ⟨by rfl, ?_⟩) (by assumption) ?_
            rotate_left 1
            · (intro wS hSw; (try dsimp only at hSw); go_simp; try with_reducible rfl)
            try simp only [List.getElem_toArray, List.getElem_cons_zero, List.getElem_cons_succ, Act.put, List.setIfInBounds_toArray, List.set_cons_zero, List.set_cons_succ]
            refine wpAnyH_take (i := 10) (v := ?_) rfl (by kernel_rfl) (by kernel_rfl) (by kernel_rfl) (fun _ _ _ h => h) (Or.inl ⟨by rfl, ?_⟩) (by assumption) ?_
            rotate_left 1
            · (intro wS hSw; (try dsimp only at hSw); go_simp; try with_reducible rfl)
            try simp only [List.getElem_toArray, List.getElem_cons_zero, List.getElem_cons_succ, Act.put, List.setIfInBounds_toArray, List.set_cons_zero, List.set_cons_succ]
        rotate_left 4
        focus
          go_simp
          refine hK.out _ _ ((KG.out.moved (mD.alloc (.cells #[.int .i64 0, .int .i64 0, .slice none 0 0] 48))).held7 (((mD.alloc (.cells #[.int .i64 0, .int .i64 0, .slice none 0 0] 48))).blk hxD HXG.out)) (fun hHeld => ?_)
          clear hK K
          try simp only [List.getElem_toArray, List.getElem_cons_zero, List.getElem_cons_succ, Act.put, List.setIfInBounds_toArray, List.set_cons_zero, List.set_cons_succ]
          refine wph_name (fun V1 hV => ?_)
          have m1 : Moved D wB V1 := by rw [hV]; exact mD.alloc (.cells #[.int .i64 0, .int .i64 0, .slice none 0 0] 48)
          have gb : V1.heap[wB.heap.size]? = some (.cells #[.int .i64 0, .int .i64 0, .slice none 0 0] 48 (0, 0)) := by rw [hV]; exact blk_new rfl
          have hrb : wB.heap.size ≤ wB.heap.size := mD.size
          clear hV hHeld
          have hHeld : V1.cell? ⟨w2.heap.size + 1, 0, none⟩ = some (.slice (some ⟨w2.heap.size, 0, none⟩) 2 2) ∧ V1.cell? ⟨w2.heap.size + 1, 1, none⟩ = some (.slice at' r.titles.length ct) ∧ V1.cell? ⟨w2.heap.size + 1, 2, none⟩ = some (.slice an r.nicks.length cn) ∧ V1.cell? ⟨w2.heap.size + 1, 3, none⟩ = some (.slice as' r.streets.length cs) ∧ V1.cell? ⟨w8.heap.size, 0, none⟩ = some (.int .i64 dy) ∧ V1.cell? ⟨w8.heap.size, 1, none⟩ = some (.int .i64 dm) ∧ V1.cell? ⟨w8.heap.size, 2, none⟩ = some (.int .i64 dd) := (KG.out.moved m1).held7 ((m1).blk hxD HXG.out)
          refine wpAnyH_ready (rs := [3]) (by kernel_rfl) (by simp) ?_
          refine AllReadyH.cons rfl (fun K hK => ?_) (AllReadyH.nil)
          go_simp
          refine (dress_any D ⟨nn.toArray⟩ _ m1.deck (by simpa using HOk.out) (by rw [mk_size]; omega)).mono ?_
          rintro e V2 ⟨o, rfl, ho, mv⟩
          have m2 := m1.trans mv
          have ho' : DressOf nn o := by simpa using ho
          have hol : o.length ≤ 68 := by have := ho'.len; omega
          have HO := Lib.hid ho'
          have gb := mv.blk (by omega) gb
          clear mv ho ho'
          refine hK.out _ _ ((KG.out.moved m2).held7 ((m2).blk hxD HXG.out)) (fun hHeld => ?_)
          clear hK K
          try simp only [List.getElem_toArray, List.getElem_cons_zero, List.getElem_cons_succ, Act.put, List.setIfInBounds_toArray, List.set_cons_zero, List.set_cons_succ]
          refine wpAnyH_ready (rs := [5]) (by kernel_rfl) (by simp) ?_
          refine AllReadyH.cons rfl (fun K hK => ?_) (AllReadyH.nil)
          go_simp
          refine (written_any dy dm dd 2 _ BD.out (by omega)).mono ?_
          rw [HWR2.out]
          rintro e V3 ⟨rfl, hb⟩
          have m3 := m2.below hb
          have gb := blk_below hb (lt_of_blk gb) gb
          clear hb
          refine hK.out _ _ ((KG.out.moved m3).held7 ((m3).blk hxD HXG.out)) (fun hHeld => ?_)
          clear hK K
          try simp only [List.getElem_toArray, List.getElem_cons_zero, List.getElem_cons_succ, Act.put, List.setIfInBounds_toArray, List.set_cons_zero, List.set_cons_succ]
          refine wpAnyH_ready (rs := [6]) (by kernel_rfl) (by simp) ?_
          refine AllReadyH.cons rfl (fun K hK => ?_) (AllReadyH.nil)
          go_simp
          refine hK.out _ _ ((KG.out.moved (m3.alloc (.cells ([o, wr1].flatMap encS).toArray 9))).held7 (((m3.alloc (.cells ([o, wr1].flatMap encS).toArray 9))).blk hxD HXG.out)) (fun hHeld => ?_)
          clear hK K
          try simp only [List.getElem_toArray, List.getElem_cons_zero, List.getElem_cons_succ, Act.put, List.setIfInBounds_toArray, List.set_cons_zero, List.set_cons_succ]
          refine wph_name (fun V4 hV => ?_)
          have m4 : Moved D wB V4 := by rw [hV]; exact m3.alloc (.cells ([o, wr1].flatMap encS).toArray 9)
          have gb := show V4.heap[_]? = some _ by rw [hV]; exact blk_old gb
          have gl : V4.heap[V3.heap.size]? = some (.cells ([o, wr1].flatMap encS).toArray 9 (0, 0)) := by rw [hV]; exact blk_new rfl
          clear hV hHeld
          have hHeld : V4.cell? ⟨w2.heap.size + 1, 0, none⟩ = some (.slice (some ⟨w2.heap.size, 0, none⟩) 2 2) ∧ V4.cell? ⟨w2.heap.size + 1, 1, none⟩ = some (.slice at' r.titles.length ct) ∧ V4.cell? ⟨w2.heap.size + 1, 2, none⟩ = some (.slice an r.nicks.length cn) ∧ V4.cell? ⟨w2.heap.size + 1, 3, none⟩ = some (.slice as' r.streets.length cs) ∧ V4.cell? ⟨w8.heap.size, 0, none⟩ = some (.int .i64 dy) ∧ V4.cell? ⟨w8.heap.size, 1, none⟩ = some (.int .i64 dm) ∧ V4.cell? ⟨w8.heap.size, 2, none⟩ = some (.int .i64 dd) := (KG.out.moved m4).held7 ((m4).blk hxD HXG.out)
          refine wpAnyH_ready (rs := [7]) (by kernel_rfl) (by simp) ?_
          refine AllReadyH.cons rfl (fun K hK => ?_) (AllReadyH.nil)
          go_simp
          have hlt0 := lt_of_blk gb
          obtain ⟨⟨r1, er⟩, hR⟩ : ∃ R, makeN ⟨equalF, r⟩ 5 2 [o, wr1] = R := ⟨_, rfl⟩
          have hmk := pmake_yes (fun b => Wd.heap.size ≤ b) Any1 _ _ _ _ ⟨equalF, r⟩ 5 2 [o, wr1] (.slice (some ⟨V3.heap.size, 0, none⟩) 2 2) _ (KG.out.moved m4).s (blockVec (k := 1) (enc := encS) (L := [o, wr1]) (S := Any1) (A := V3.heap.size) (fun _ => rfl) gl trivial 2 rfl) (equal_check HRD.out) rfl (by decide) (by intro x hx; simp at hx; rcases hx with rfl | rfl <;> omega)
          rw [hR] at hmk
          refine hmk.mono ?_
          rintro e V5 ⟨_, rfl, ⟨sv, rfl, hvv⟩, hb⟩
          have m5 := m4.below hb
          have gb := blk_below hb (lt_of_blk gb) gb
          have gl := blk_below hb (lt_of_blk gl) gl
          have hvv := hvv.move (w' := V5) (S' := fun b => wB.heap.size ≤ b ∧ b ≠ wB.heap.size) (Nat.le_refl _) fun b hb' hs => ⟨rfl, by have h1 := m4.size; have hs' := hs; exact ⟨by omega, by omega⟩⟩
          obtain ⟨asv, csv, esv⟩ := hvv.slice; subst esv
          have HRR := Lib.hid hR
          clear hb hmk hR
          refine hK.out _ _ ((KG.out.moved m5).held7 ((m5).blk hxD HXG.out)) (fun hHeld => ?_)
          clear hK K
          try simp only [List.getElem_toArray, List.getElem_cons_zero, List.getElem_cons_succ, Act.put, List.setIfInBounds_toArray, List.set_cons_zero, List.set_cons_succ]
          refine wpAnyH_take (i := 8) (v := ?_) rfl (by kernel_rfl) (by kernel_rfl) (by kernel_rfl) (fun _ _ _ h => h) (Or.inl ⟨by rfl, ?_⟩) (by assumption) ?_
          rotate_left 1
          · (intro wS hSw; (try dsimp only at hSw); go_simp; try with_reducible rfl)
          try simp only [List.getElem_toArray, List.getElem_cons_zero, List.getElem_cons_succ, Act.put, List.setIfInBounds_toArray, List.set_cons_zero, List.set_cons_succ]
          refine wpAnyH_take (i := 9) (v := ?_) rfl (by kernel_rfl) (by kernel_rfl) (by kernel_rfl) (fun _ _ _ h => h) (Or.inl ⟨by rfl, ?_⟩) (by assumption) ?_
          rotate_left 1
          · (intro wS hSw; (try dsimp only at hSw); go_simp; try with_reducible rfl)
          try simp only [List.getElem_toArray, List.getElem_cons_zero, List.getElem_cons_succ, Act.put, List.setIfInBounds_toArray, List.set_cons_zero, List.set_cons_succ]
          refine wpAnyH_take (i := 10) (v := ?_) rfl (by kernel_rfl) (by kernel_rfl) (by kernel_rfl) (fun _ _ _ h => h) (Or.inl ⟨by rfl, ?_⟩) (by assumption) ?_
          rotate_left 1
          · (intro wS hSw; (try dsimp only at hSw); go_simp; try with_reducible rfl)
          try simp only [List.getElem_toArray, List.getElem_cons_zero, List.getElem_cons_succ, Act.put, List.setIfInBounds_toArray, List.set_cons_zero, List.set_cons_succ]
        all_goals
          obtain ⟨c0, c1, c2⟩ := cells3 gb; have f0 := frozen_of_row _ _ 0 _ _ gb; have f1 := frozen_of_row _ _ 1 _ _ gb; have f2 := frozen_of_row _ _ 2 _ _ gb; have za := lt_of_blk gb
          have ms := (((m5.set (a := ⟨_, 0, none⟩) hrb (.int .i64 r1.id)).set (a := ⟨_, 1, none⟩) hrb (.int .i64 r1.ver)).set (a := ⟨_, 2, none⟩) hrb (.slice asv r1.vals.length csv))
          refine wpAnyH_ready (rs := [12]) (by kernel_rfl) (by simp) ?_
          refine AllReadyH.cons rfl (fun K hK => ?_) AllReadyH.nil
          go_simp
          refine hK.out _ _ ((KG.out.moved ms).held7 ((ms).blk hxD HXG.out)) (fun hHeld => ?_)
          clear hK K
          try simp only [List.getElem_toArray, List.getElem_cons_zero, List.getElem_cons_succ, Act.put, List.setIfInBounds_toArray, List.set_cons_zero, List.set_cons_succ]
          refine wpAnyH_take (i := 13) (v := ?_) rfl (by kernel_rfl) (by kernel_rfl) (by kernel_rfl) (fun _ _ _ h => h) (Or.inl ⟨by rfl, ?_⟩) (by assumption) ?_
          rotate_left 1
          · (intro wS hSw; (try dsimp only at hSw); go_simp; try with_reducible rfl)
          try simp only [List.getElem_toArray, List.getElem_cons_zero, List.getElem_cons_succ, Act.put, List.setIfInBounds_toArray, List.set_cons_zero, List.set_cons_succ]
          refine wpAnyH_done (by kernel_rfl) ?_ _
          refine NoPanic.normal ?_
          go_wp2_with fail
          go_meet
          exact ⟨_, er, _, r1, o, rfl, rfl, blk_set (blk_set (blk_set gb)), (((hvv.far (fun b hb => hb.2)).far (fun b hb => hb.2)).far (fun b hb => hb.2)).weaken (fun b hb => hb.1), HRR, HO, ms, hrb⟩
      case rest =>
        obtain ⟨rb, eb, svb, r2, o, rfl, rfl, gb, hvb, HM2, HO, mw, hrb⟩ := hcut
        obtain ⟨ab, cb, rfl⟩ := hvb.slice
        obtain ⟨dg, hdg⟩ : ∃ g, digits8 dy dm dd = g := ⟨_, rfl⟩
        have h1 := HM1.out
        rw [← HWR0.out, madeN_any HRD.out HN0.out HPn.out BD.out (by omega) rfl, hdg] at h1
        have ho0 : o ≠ [] := by
          intro e; subst e
          have := HO.out.eq
          rw [HTk.out] at this
          exact absurd this (by simp [rawL, toks, toksA])
        have KH := Lib.hid (KG.out.moved mw)
        have HXH := mw.blk hxD HXG.out
        obtain ⟨x0, x1, x2⟩ := cells3 HXH
        have HM22 := HM2.out
        have hgaH := mw.blk (by omega) HGA.out
        have HGA2 := Lib.hid hgaH
        have HVA2 := Lib.hid (HVA.out.move (S' := fun b => D < b) mw.size fun b hb hs => ⟨mw.grown.block b hb (by have hs' : D < b := hs; simp; omega), hs⟩)
        have HVB := Lib.hid hvb; have HGB := Lib.hid gb
        clear HM2 KG HXG mw HGA HVA hgaH hvb gb HXH
        have hmade1 := h1
        cases hv : vldB dy dm dd
        · rw [hv] at h1
          obtain ⟨er1, er2⟩ := Prod.mk.inj h1
          have ea4 : ea = 4 := er2.symm
          subst ea4
          have hbn : eb ≠ 0 := by
            rcases HDr.out o HO.out with hq | hq
            · have h2 := HM22
              rw [equal_failed HRD.out ho0 hq rfl] at h2
              have := (Prod.mk.inj h2).2; rw [← this]; decide
            · have h2 := HM22
              rw [← HWR2.out, madeN_any HRD.out ho0 hq BD.out (by omega) rfl, hv] at h2
              have := (Prod.mk.inj h2).2; rw [← this]; decide
          have hbn2 : (eb != 0) = true := by simpa using hbn
          clear h1 HM22 hmade1 er1 er2
          go_wp2_with fail
          refine (edates_any dy dm dd _).mono ?_
          rw [hv]
          rintro e wZ ⟨rfl, hb⟩
          go_wp2_with fail
          go_ret
          exact ⟨rfl, (KH.out.m.below hb).base HB1.out (by omega)⟩
        · rw [hv] at h1
          obtain ⟨er1, er2⟩ := Prod.mk.inj h1
          have ea0 : ea = 0 := er2.symm
          have er1' : r1 = ⟨5, 2, [pn, dg]⟩ := er1.symm
          subst ea0 er1'
          have hR1 := rec_made HM1.out
          have HR1 := Lib.hid hR1
          have htl : (toks pn).length ≤ 2 := HP2.out
          have hpl : pn.length ≤ 64 := hR1.2.2 pn (by simp)
          have dT : decide (((toks pn).length : Int) ≤ 2) = true := by simp; omega
          have d00 : ((0 : Int) == 0) = true := rfl
          clear h1 hmade1 er1 er2 HM1 hR1
          dsimp only at HVA2 HGA2
          have e2 : ([pn, dg] : List (List UInt8)).length = 2 := rfl
          rw [e2] at HVA2 HGA2
          go_wp2_with fail
          refine (edates_any dy dm dd _).mono ?_
          rw [hv]
          rintro e wY ⟨rfl, hb⟩
          have KI := Lib.hid (KH.out.below hb); have HGA3 := Lib.hid (blk_below hb (lt_of_blk HGA2.out) HGA2.out); have HGB3 := Lib.hid (blk_below hb (lt_of_blk HGB.out) HGB.out); have HVA3 := Lib.hid (HVA2.out.below hb); have HVB3 := Lib.hid (HVB.out.below hb)
          clear hb x0 x1 x2 KH HGA2 HGB HVA2 HVB
          obtain ⟨p0, p1, p2, p3⟩ := cellsS KI.out.b; obtain ⟨a0, a1, a2⟩ := cells3 HGA3.out
          go_wp2_with fail
          refine (rcheck_all (fun b => Wd.heap.size ≤ b) _ _ _ _ ⟨equalF, r⟩ ⟨5, 2, [pn, dg]⟩ _ wY KI.out.s HVA3.out.any (fun x hx => by have := HR1.out.2.2 x hx; omega) (by simp)).mono ?_
          rw [HR1.out.2.1]
          rintro e wZ ⟨rfl, hb⟩
          have KJ := Lib.hid (KI.out.below hb); have HGA4 := Lib.hid (blk_below hb (lt_of_blk HGA3.out) HGA3.out); have HGB4 := Lib.hid (blk_below hb (lt_of_blk HGB3.out) HGB3.out); have HVA4 := Lib.hid (HVA3.out.below hb); have HVB4 := Lib.hid (HVB3.out.below hb)
          clear hb p0 p1 p2 p3 a0 a1 a2 KI HGA3 HGB3 HVA3 HVB3
          obtain ⟨a0, a1, a2⟩ := cells3 HGA4.out; obtain ⟨b0, b1, b2⟩ := cells3 HGB4.out
          rcases HDr.out o HO.out with hq | hq
          · have h2 := HM22
            rw [equal_failed HRD.out ho0 hq rfl] at h2
            obtain ⟨e3, e4⟩ := Prod.mk.inj h2
            have eb3 : eb = 3 := e4.symm
            subst eb3
            clear h2 HM22 hq e3 e4
            obtain ⟨bv, ov, eA, lv, gv⟩ := HVA4.out.get 0 (by simp)
            have cv0 := gv 0 _ rfl
            rw [Nat.zero_mul, Nat.add_zero] at cv0
            cases eA
            have cv1 : _ = some (strV pn) := cv0
            go_wp2_with fail
            refine (rtokens_any ⟨pn.toArray⟩ _ (by rw [mk_size]; omega)).mono ?_
            rw [show (⟨pn.toArray⟩ : ByteArray).data.toList = pn by simp]
            rintro e wV ⟨vt, rfl, ho⟩
            obtain ⟨at2, ct2, rfl⟩ := own_slice ho.1
            have hb := ho.2
            go_wp2_with fail
            go_ret
            exact ⟨rfl, (KJ.out.m.below hb).base HB1.out (by omega)⟩
          · have h2 := HM22
            rw [← HWR2.out, madeN_any HRD.out ho0 hq BD.out (by omega) rfl, hv, hdg] at h2
            obtain ⟨e3, e4⟩ := Prod.mk.inj h2
            have eb0 : eb = 0 := e4.symm
            have er2' : r2 = ⟨5, 2, [pn, dg]⟩ := e3.symm
            subst eb0 er2'
            clear h2 HM22 hq e3 e4
            dsimp only at HVB4 b0 b1 b2
            rw [e2] at HVB4 b2
            go_wp2_with fail
            refine (psame_any Any1 Any1 _ _ ⟨5, 2, [pn, dg]⟩ ⟨5, 2, [pn, dg]⟩ wZ HVA4.out.any HVB4.out.any (by simp) (by simp)).mono ?_
            rw [sameR_self _ _ rfl rfl rfl]
            rintro e wX ⟨rfl, hb⟩
            have KK := Lib.hid (KJ.out.below hb); have HGA5 := Lib.hid (blk_below hb (lt_of_blk HGA4.out) HGA4.out); have HVA5 := Lib.hid (HVA4.out.below hb)
            clear hb a0 a1 a2 b0 b1 b2 KJ HGA4 HGB4 HVA4 HVB4
            obtain ⟨a0, a1, a2⟩ := cells3 HGA5.out
            obtain ⟨bv, ov, eA, lv, gv⟩ := HVA5.out.get 0 (by simp)
            have cv0 := gv 0 _ rfl
            rw [Nat.zero_mul, Nat.add_zero] at cv0
            cases eA
            have cv1 : _ = some (strV pn) := cv0
            go_wp2_with fail
            refine (rtokens_any ⟨pn.toArray⟩ _ (by rw [mk_size]; omega)).mono ?_
            rw [show (⟨pn.toArray⟩ : ByteArray).data.toList = pn by simp]
            rintro e wV ⟨vt, rfl, ho⟩
            obtain ⟨at2, ct2, rfl⟩ := own_slice ho.1
            have hb := ho.2
            go_wp2_with fail
            go_ret
            exact ⟨rfl, (KK.out.m.below hb).base HB1.out (by omega)⟩
  · have HMx := Lib.hid hM; clear hM
    have hd : decide (n ≤ 400) = false := by simpa using hn
    clear hr hn
    go_enter Tryz.func7, Tryz.ntmps7
    go_wp2_with fail
    refine (awake_r _ HMx.out).mono ?_; rintro e w1 ⟨rfl, hb1⟩
    go_wp2_with fail
    refine (few_any a n cap _).mono ?_; rintro e w' ⟨rfl, rfl⟩
    go_wp2_with fail
    refine (awake_r _ (HMx.out.old hb1)).mono ?_; rintro e w2 ⟨rfl, hb2⟩
    go_wp2_with fail
    go_ret
    exact ⟨rfl, hb1.trans (hb2.mono hb1.size)⟩
end Go.Proofs.YteijllklpneagaaGreatDoor
end
section
namespace Go.Proofs.YteijllklpneagaaGreatDoor.recordMakes
open Go.ChangeShapes Go.WideShapes Go.ChangeAt Go.RowKit Go.Joins
open Go.ChangeMaps (open_string shut_string)
set_option linter.unusedVariables false

theorem own : ownKnob Tryz.prog.godebug = none := by kernel_rfl
theorem laidOut : laidOutB Tryz.prog = true := by kernel_rfl

set_option maxRecDepth 100000 in
theorem lifted (os : Os) (started : os.Started) (H : Type) (enc : TypeId × Value → H) :
    ReturnsInHanded {} Tryz.checked os 7 .any (fun w args => (Rows.recordMakesSpec.pre enc Tryz.prog Tryz.f7 Rows.recordMakesRow.domain false w args ∧ laidMetH Tryz.prog Rows.recordMakesRow.laid w) ∧ sizedMet enc Tryz.prog Tryz.f7 (OpenSpec.ofChange Rows.recordMakesSpec) false w args) (Rows.recordMakesSpec.post enc Tryz.prog Tryz.f7 false true false false) := by
  refine handed_shaped (C := Tryz.checked) (X := fun w _ => laidMetH Tryz.prog Rows.recordMakesRow.laid w) (fun _ _ _ hh h => h.of_heap hh) own started (by kernel_rfl) Tryz.func7
    (ChangeSpec.witness_shaped (enc := enc) (C := Tryz.checked) (os := os) (X := fun w _ => laidMetH Tryz.prog Rows.recordMakesRow.laid w) false (World.laidAll Tryz.prog os Rows.recordMakesRow.laid) #[.slice none 0 0] 8 (World.laidAll_os _ _ _)
      (World.shaped_of_ZipB (by kernel_rfl) (by kernel_rfl)) (by kernel_rfl) (by kernel_rfl) (by kernel_rfl)
      (by rw [MakeChecks.laidMetH_plain _ _ _ (by kernel_rfl)]; exact laidMet_laidAll _ (by kernel_rfl) (by kernel_rfl))) ?_
  intro W base args ds gs before hval0 hW hLaid hsh
  have hval : ∀ (j : Nat) t v, Tryz.f7.params[j]? = some t → args[j]? = some v → Value.okWide Tryz.prog W .any base t v := hval0
  have hW' := hW
  obtain ⟨p, q, hA0, hV, rfl, hfz, hnd⟩ := hW
  have hA : DataW.TrodAll enc Tryz.prog W 0 (fun _ => true) true Tryz.f7.params.toList args.toList ds p := hA0
  rw [Tryz.params7] at hA hval
  obtain ⟨v0, vs0, d0, ds0, p0, q0, hargs, rfl, rfl, h0, r0⟩ := trodAll_cons hA
  obtain ⟨rfl, rfl, rfl⟩ := trodAll_nil r0
  obtain rfl : args = #[v0] := by cases args; simp_all
  obtain ⟨rfl, rfl⟩ := trodVars_none hV
  obtain ⟨a0, len0, cap0, rfl⟩ := okWide_slice Tryz.underlying22 (hval 0 22 v0 rfl rfl)
  have k0 := h0
  have lt0 : ∀ x ∈ p0, x.block < W.heap.size := by obtain ⟨m, hm⟩ := k0; exact DataW.trod_lt m _ _ _ hm
  obtain ⟨z0, w0⟩ : ∃ zs, IsRow .i64 W a0 len0 cap0 zs := by
    obtain ⟨fuel, hf⟩ := h0
    rcases open_ints Tryz.underlying22 Tryz.underlying3 (by kernel_rfl) hf with ⟨hcs, _⟩ | ⟨x, l, c, zs, hcs, _, hl, hm, hz, _, hcell, hwz⟩
    · simp [Value.cells] at hcs
      obtain ⟨rfl, rfl, rfl⟩ := hcs
      exact ⟨[], .inl ⟨rfl, rfl, rfl, rfl⟩⟩
    · simp [Value.cells] at hcs
      obtain ⟨rfl, rfl, rfl⟩ := hcs
      exact ⟨zs, .inr ⟨_, rfl, hl, hm, by simpa using hz, hcell, hwz⟩⟩
  clear hA0 hval0
  refine (rmakes_walk a0 len0 cap0 z0 W w0 (Tryz.laysM145.s1_3 W hsh)).mono fun e W' ⟨he, bel⟩ => ?_
  subst he
  exact ⟨_, rfl, _, _, _, [], _, [], hW', trodAll_mk1 (shut_bool Tryz.underlying4 _), (trodAll_cons_mk (Below.trod laidOut (by kernel_rfl) (of_decide_eq_true (by kernel_rfl)) k0 bel lt0) trodAll_mk0), rfl, bel.frame _, fun h => by cases h⟩

set_option maxRecDepth 100000 in
set_option maxHeartbeats 100000000 in
theorem over : Rows.recordMakesRow.holds Tryz.pinned (OpenSpec.ofChange Rows.recordMakesSpec) :=
  OpenClaim.holds_of_wide 7 Tryz.f7 rfl rfl rfl rfl rfl rfl rfl ⟨rfl, rfl, rfl, rfl, rfl⟩ rfl rfl rfl rfl rfl (by as_aux_lemma => kernel_rfl) Tryz.func7 closed
    (of_decide_eq_true (by as_aux_lemma => kernel_rfl)) (by unfold Func.isWrapper; first | (rw [if_pos (by decide +kernel)]; kernel_rfl) | (rw [if_neg (by decide +kernel)]; exact ⟨rfl, rfl⟩))
    (fun os started H enc _ => lifted os started H enc)

set_option maxRecDepth 100000 in
set_option maxHeartbeats 100000000 in
/-- THE STATEMENT -/
theorem proved : Rows.RecordMakesCardSaid :=
  Claim7.holds_tied_plain_at .later [] [.data, .data, .data, .data, .sentinel, .sentinel, .pinned] true (true, "c763381d540523415eb3f65f196e0aa82129d3e5ead69307a360aaeeb136679d") true
    over (fun _ h => by cases h) (by as_aux_lemma => kernel_rfl) (fun _ h => by cases h) recordMakes_row_tie rfl ⟨rfl, rfl⟩ (by as_aux_lemma => kernel_rfl) rfl
    (fun f fn hf hfn => by
      obtain rfl : f = 7 := Option.some.inj ((show Tryz.prog.funcNamed Rows.recordMakesRow.func = some 7 by kernel_rfl).symm.trans hf) |>.symm
      obtain rfl : fn = Tryz.f7 := (Option.some.inj (Tryz.func7.symm.trans hfn)).symm
      exact ⟨by kernel_rfl, fun j t ht => by
        rw [Tryz.params7] at ht
        have hm : t ∈ [22] := by simpa using Array.mem_of_getElem? ht
        have hall : ([22].all fun u => !Tryz.prog.wantsStandIn u) = true := by kernel_rfl
        exact (show Tryz.prog.wantsStandIn t = false by simpa using List.all_eq_true.1 hall t hm)⟩)
    (by as_aux_lemma => kernel_rfl)
#print axioms proved
end Go.Proofs.YteijllklpneagaaGreatDoor.recordMakes
end
