/-
  For every input the law SchemaExact returns true, and its arguments read afterwards as they read before; no condition.
-/
import Derived.Test.YtfgoiojmbphmnaaGreatDoorPartSchemaExact7
import Derived.Deep.SlicePairs
import Derived.Deep.Strs
import Derived.Lib.SmallJoins
import Derived.OpenShut
import Derived.Handed
import Derived.HandedShaped
import Derived.Test.YtfgoiojmbphmnaaGreatDoorRows
import Derived.WalkKit
import Derived.ProofKit
import Derived.ShutString
import Derived.ChangeOld
import Derived.Below
import Derived.Test.YtfgoiojmbphmnaaGreatDoorCards
import Derived.Test.YtfgoiojmbphmnaaGreatDoorTie
import Derived.LaidMore
import Derived.Lay
import Derived.SevenTiedAt
import Derived.Stop.Joined
section
/- The reference of layer 12 (schema): Grams. -/
set_option linter.unusedSimpArgs false
set_option linter.unusedVariables false
set_option maxRecDepth 100000
namespace Go.Proofs.YtfgoiojmbphmnaaGreatDoor
open Go.RowKit Cal
attribute [local go_sem] toList_mk mk_size str_append
set_option maxHeartbeats 8000000 in
theorem rsgrams_any (S : Nat → Prop) (vf vt vn vs : Value) (s : SchemaL) (f : Int) (x : List UInt8) (w : World) (h : SchemaAt w S vf vt vn vs s) (hx : x.length ≤ 1000000) (p : List (List UInt8) × Int) (hp : p = gramsN s f x) :
    Calls Tryz.prog 31 #[.agg #[vf, vt, vn, vs], .int .i64 f, strV x] w (GramsIs p w) := by
  have HS := Lib.hid h.any
  obtain ⟨af, cf, rfl⟩ := h.1.slice
  have HV1 := Lib.hid h.1.any
  have hfn : findN s f = if checkS s = 0 then (if 0 ≤ f ∧ f < s.fields.length then ((s.fields.getD f.toNat default).2, 0) else (0, 2)) else (0, checkS s) := rfl
  have hval : gramsN s f x = if (findN s f).2 = 0 then (if normalB s f x = true then (gramsK (findN s f).1 x, 0) else ([], 7)) else ([], (findN s f).2) := rfl
  have hown : (findN s f).2 = 0 → x ≠ [] → normalB s f x = ownK (findN s f).1 s.rules x := fun h0 h1 => by unfold normalB; rw [if_pos h0, if_neg h1]
  have hnil : (findN s f).2 = 0 → x = [] → normalB s f x = true := fun h0 h1 => by unfold normalB; rw [if_pos h0, if_pos h1]
  have hkk := findN_kind (s := s) (f := f)
  have hcf := fun h => (check_fields (s := s) h).1
  have K := rscheck_any Any1 (.slice af s.fields.length cf) vt vn vs s (w.alloc (.cells #[.slice af s.fields.length cf, vt, vn, vs] 33)) (HS.out.below ((Below.refl _ _).alloc (Nat.le_refl _) _))
  obtain ⟨c, hc⟩ : ∃ c, checkS s = c := ⟨_, rfl⟩
  rw [hc] at K hfn hcf
  have HK := Lib.hid K
  clear K h
  by_cases he : c = 0
  · subst he
    have hlen := (hcf rfl).2
    clear hcf
    rw [if_pos rfl] at hfn
    by_cases hr : 0 ≤ f ∧ f < s.fields.length
    · rw [if_pos hr] at hfn
      obtain ⟨r1, r2⟩ := hr
      obtain ⟨k, rfl⟩ := Int.eq_ofNat_of_zero_le r1
      rw [Int.toNat_natCast] at hfn
      have hk : k < s.fields.length := by omega
      obtain ⟨b, off, rfl, _, hb, hcell⟩ := vec_cell2 HV1.out (by omega)
      obtain ⟨y, hy⟩ : ∃ y, s.fields.getD k default = y := ⟨_, rfl⟩
      have hck := hcell k hk
      rw [hy] at hck hfn
      obtain ⟨nm, kd⟩ := y
      have C1 := Lib.hid (show w.cell? ⟨b, off + k * 2 + 1, none⟩ = some (.int .i64 kd) from hck 1 _ rfl)
      rw [hfn] at hval hkk hown hnil
      dsimp only at hval hkk hown hnil
      have hkd := hkk rfl
      rw [if_pos rfl] at hval
      have t1 : decide ((k : Int) < 0) = false := by simp
      have t2 : decide ((s.fields.length : Int) ≤ k) = false := by simp; omega
      have t3 : (k : Int) < (s.fields.length : Int) := by omega
      have N0 := rsnormal_any Any1 (.slice (some ⟨b, off, none⟩) s.fields.length cf) vt vn vs s (k : Int) ⟨x.toArray⟩
      rw [show (⟨x.toArray⟩ : ByteArray).data.toList = x by simp] at N0
      obtain ⟨nb, hnb⟩ : ∃ nb, normalB s (k : Int) x = nb := ⟨_, rfl⟩
      rw [hnb] at N0 hval hown hnil
      have HN := Lib.hid N0
      have HP := Lib.hid (hp.trans hval)
      have HKD := Lib.hid hkd
      have HOwn := Lib.hid (hown rfl)
      have HNil := Lib.hid (hnil rfl)
      clear hck hcell hfn hkk hval hy r1 r2 N0 hp hnb hkd hown hnil
      go_enter Tryz.func31, Tryz.ntmps31
      go_wp2_with fail
      refine HK.out.mono ?_
      rintro e w1 ⟨rfl, hb1⟩
      have HB1 := Lib.hid (((Below.refl w.heap.size w).alloc (Nat.le_refl _) (.cells #[.slice (some ⟨b, off, none⟩) s.fields.length cf, vt, vn, vs] 33)).trans (hb1.mono (by simp)))
      have HX1 := Lib.hid (blk_below (b := w.heap.size) (o := .cells #[.slice (some ⟨b, off, none⟩) s.fields.length cf, vt, vn, vs] 33 (0, 0)) hb1 (by simp) (blk_new rfl))
      clear hb1 HK
      have z0 := lt_of_blk HX1.out
      obtain ⟨p0, p1, p2, p3⟩ := cells4 HX1.out
      go_wp2_with fail
      refine (HN.out _ (HS.out.below HB1.out) (by rw [mk_size]; omega)).mono ?_
      rintro e w2 ⟨rfl, hb2⟩
      have HB2 := Lib.hid (HB1.out.trans (hb2.mono HB1.out.size))
      have HX2 := Lib.hid (blk_below hb2 z0 HX1.out)
      clear hb2 p0 p1 p2 p3 HX1 HB1 z0
      have z0 := lt_of_blk HX2.out
      obtain ⟨p0, p1, p2, p3⟩ := cells4 HX2.out
      cases nb
      · have HE := Lib.hid (show p = ([], 7) by rw [HP.out, if_neg (by simp)])
        go_wp2_with fail
        go_ret2
        exact ⟨_, by rw [HE.out]; rfl, by rw [HE.out]; exact Vec.nil _ _ _ _, HB2.out⟩
      · have HG := Lib.hid (show p = (gramsK kd x, 0) by rw [HP.out, if_pos rfl])
        by_cases hx0 : x = []
        · have HE := Lib.hid (show p = ([], 0) by rw [HG.out]; unfold gramsK; rw [if_pos hx0])
          subst hx0
          go_wp2_with fail
          go_ret2
          exact ⟨_, by rw [HE.out]; rfl, by rw [HE.out]; exact Vec.nil _ _ _ _, HB2.out⟩
        · have q1 : (x == []) = false := by simpa using hx0
          have q2 : x.isEmpty = false := by simpa using hx0
          obtain ⟨f1, f2, f3⟩ := own_facts (HOwn.out hx0).symm HKD.out
          have HGK := Lib.hid (show gramsK kd x = if kd = 2 then posL 0 x else if kd = 3 then [61 :: x] else gramsL x by unfold gramsK; rw [if_neg hx0])
          have c1 : w2.cell? ⟨b, off + k * 2 + 1, none⟩ = some (.int .i64 kd) := (HB2.out.cell (p := ⟨b, off + k * 2 + 1, none⟩) hb).trans C1.out
          have zb : b < w2.heap.size := Nat.lt_of_lt_of_le hb HB2.out.size
          have hkd := HKD.out
          have F3 := Lib.hid f3
          clear f2 f3 hx0
          rcases hkd with rfl | rfl | rfl | rfl
          · have HE := Lib.hid (show p = (gramsL x, 0) by rw [HG.out, HGK.out]; rfl)
            go_wp2_with fail
            refine (rgrams_any ⟨x.toArray⟩ _ (by rw [mk_size]; omega)).mono ?_
            rw [show (⟨x.toArray⟩ : ByteArray).data.toList = x by simp]
            rintro e w3 ⟨v, rfl, ho⟩
            have HB3 := Lib.hid (HB2.out.trans (ho.2.mono HB2.out.size))
            have HV3 := Lib.hid (OwnV.vec (enc := encS) (fun _ => rfl) ho).any
            clear ho p0 p1 p2 p3 c1
            go_wp2_with fail
            go_ret2
            exact ⟨v, by rw [HE.out]; rfl, by rw [HE.out]; exact HV3.out, HB3.out⟩
          · have HE := Lib.hid (show p = (posL 0 x, 0) by rw [HG.out, HGK.out]; rfl)
            go_wp2_with fail
            refine (rpositional_any ⟨x.toArray⟩ _ (by rw [mk_size]; have := F3.out (by first | rfl | trivial); omega)).mono ?_
            rw [show (⟨x.toArray⟩ : ByteArray).data.toList = x by simp]
            rintro e w3 ⟨v, rfl, ho⟩
            have HB3 := Lib.hid (HB2.out.trans (ho.2.mono HB2.out.size))
            have HV3 := Lib.hid (OwnV.vec (enc := encS) (fun _ => rfl) ho).any
            clear ho p0 p1 p2 p3 c1
            go_wp2_with fail
            go_ret2
            exact ⟨v, by rw [HE.out]; rfl, by rw [HE.out]; exact HV3.out, HB3.out⟩
          · have HE := Lib.hid (show p = ([61 :: x], 0) by rw [HG.out, HGK.out]; rfl)
            go_wp2_with fail
            go_ret2
            exact ⟨_, by rw [HE.out]; rfl, by rw [HE.out]; exact vec_block (L := [61 :: x]) (blk_new rfl) 1 rfl, HB2.out.alloc HB2.out.size _⟩
          · have HE := Lib.hid (show p = (gramsL x, 0) by rw [HG.out, HGK.out]; rfl)
            go_wp2_with fail
            refine (rgrams_any ⟨x.toArray⟩ _ (by rw [mk_size]; omega)).mono ?_
            rw [show (⟨x.toArray⟩ : ByteArray).data.toList = x by simp]
            rintro e w3 ⟨v, rfl, ho⟩
            have HB3 := Lib.hid (HB2.out.trans (ho.2.mono HB2.out.size))
            have HV3 := Lib.hid (OwnV.vec (enc := encS) (fun _ => rfl) ho).any
            clear ho p0 p1 p2 p3 c1
            go_wp2_with fail
            go_ret2
            exact ⟨v, by rw [HE.out]; rfl, by rw [HE.out]; exact HV3.out, HB3.out⟩
    · have HE := Lib.hid (show p = ([], 2) by rw [hp, hval, hfn, if_neg hr]; rfl)
      have hr' : f < 0 ∨ (0 ≤ f ∧ (s.fields.length : Int) ≤ f) := by omega
      clear hfn hval hkk hown hnil hp hr
      rcases hr' with hf | ⟨hf0, hf⟩
      all_goals
        go_enter Tryz.func31, Tryz.ntmps31
        go_wp2_with fail
        refine HK.out.mono ?_
        rintro e w1 ⟨rfl, hb1⟩
        have HB1 := Lib.hid (((Below.refl w.heap.size w).alloc (Nat.le_refl _) (.cells #[.slice af s.fields.length cf, vt, vn, vs] 33)).trans (hb1.mono (by simp)))
        have HX1 := Lib.hid (blk_below (b := w.heap.size) (o := .cells #[.slice af s.fields.length cf, vt, vn, vs] 33 (0, 0)) hb1 (by simp) (blk_new rfl))
        clear hb1 HK
        have z0 := lt_of_blk HX1.out
        obtain ⟨p0, p1, p2, p3⟩ := cells4 HX1.out
        go_wp2_with fail
        go_ret2
        exact ⟨_, by rw [HE.out]; rfl, by rw [HE.out]; exact Vec.nil _ _ _ _, HB1.out⟩
  · have HE := Lib.hid (show p = ([], c) by rw [hp, hval, hfn, if_neg he]; dsimp only; rw [if_neg he])
    have q1 : (c != 0) = true := by simpa using he
    clear hfn hval hkk hown hnil hp hcf he
    go_enter Tryz.func31, Tryz.ntmps31
    go_wp2_with fail
    refine HK.out.mono ?_
    rintro e w1 ⟨rfl, hb1⟩
    have HB1 := Lib.hid (((Below.refl w.heap.size w).alloc (Nat.le_refl _) (.cells #[.slice af s.fields.length cf, vt, vn, vs] 33)).trans (hb1.mono (by simp)))
    clear hb1 HK
    go_wp2_with fail
    go_ret2
    exact ⟨_, by rw [HE.out]; rfl, by rw [HE.out]; exact Vec.nil _ _ _ _, HB1.out⟩
end Go.Proofs.YtfgoiojmbphmnaaGreatDoor
end
section
/- The reference of layer 12 (schema): kinds, written, Text. -/
set_option linter.unusedSimpArgs false
set_option linter.unusedVariables false
set_option maxRecDepth 100000
namespace Go.Proofs.YtfgoiojmbphmnaaGreatDoor
open Go.RowKit Cal
attribute [local go_sem] toList_mk mk_size str_append
def kindsR : List (List UInt8) := [[], kindW 1, kindW 2, kindW 3, kindW 4]
set_option maxHeartbeats 1000000 in
theorem rkinds_any (w : World) : Calls Tryz.prog 76 #[] w fun e w' => e = .returned (.slice (some ⟨w.heap.size, 0, none⟩) 5 5) ∧ RowB w' w.heap.size kindsR ∧ Below w.heap.size w w' := by
  go_enter Tryz.func76, Tryz.ntmps76
  go_wp2
  go_ret
  exact ⟨rfl, blk_new rfl, (Below.refl _ _).alloc (Nat.le_refl _) _⟩
theorem kindsR_get (j : Nat) (h : j ≤ 4) : kindsR.getD j [] = kindW (j : Int) := by
  obtain rfl | rfl | rfl | rfl | rfl : j = 0 ∨ j = 1 ∨ j = 2 ∨ j = 3 ∨ j = 4 := by omega
  all_goals rfl
theorem flat_one {α : Type} (g : α → List UInt8) {L : List α} {x : α} (h : x ∈ L) : (g x).length ≤ (L.flatMap g).length := by
  induction L with
  | nil => simp at h
  | cons y L ih =>
    rw [List.flatMap_cons, List.length_append]
    rcases List.mem_cons.1 h with rfl | h
    · omega
    · have := ih h; omega
theorem getD_in {α : Type} [Inhabited α] (L : List α) (k : Nat) (h : k < L.length) : L.getD k default ∈ L := by
  rw [List.getD, List.getElem?_eq_getElem h]; exact List.getElem_mem h
theorem getD_inT (L : List (List UInt8)) (k : Nat) (h : k < L.length) : L.getD k [] ∈ L := by
  rw [List.getD, List.getElem?_eq_getElem h]; exact List.getElem_mem h
theorem drewN_one (w : World) (m : Nat) : (w.drewN m).drew = w.drewN (m + 1) := by simp [World.drew, World.drewN, Nat.add_assoc]
set_option maxHeartbeats 8000000 in
theorem rwritten_any (S : Nat → Prop) (vf vt vn vs : Value) (s : SchemaL) (w : World) (h : SchemaAt w S vf vt vn vs s) (hk : ∀ x ∈ s.fields, 1 ≤ x.2 ∧ x.2 ≤ 4) (hl : (textL s).length ≤ 1000000) (hr : Room s 1000000) :
    Calls Tryz.prog 71 #[.agg #[vf, vt, vn, vs]] w fun e w' => e = .returned (strV (textL s)) ∧ Below w.heap.size w w' := by
  obtain ⟨F, ⟨T, N, R⟩⟩ := s
  obtain ⟨r1, r2, r3, r4⟩ := hr
  unfold textL at hl
  simp only [List.length_append] at hl
  dsimp only at *
  obtain ⟨af, cf, rfl⟩ := h.1.slice
  obtain ⟨at1, ct, rfl⟩ := h.2.1.slice
  obtain ⟨an, cn, rfl⟩ := h.2.2.1.slice
  obtain ⟨as', cs, rfl⟩ := h.2.2.2.slice
  have HS := Lib.hid h.any
  have HK := Lib.hid hk
  clear h hk
  dsimp only at *
  go_enter Tryz.func71, Tryz.ntmps71
  go_wp2_with fail
  refine wp_world (fun W1 hW1 => ?_)
  have b1 : Below w.heap.size w W1 := by rw [hW1]; exact (Below.refl _ _).alloc (Nat.le_refl _) _
  have x1 : W1.heap[w.heap.size]? = some (.cells #[.slice af F.length cf, .slice at1 T.length ct, .slice an N.length cn, .slice as' R.length cs] 33 (0, 0)) := by rw [hW1]; exact blk_new rfl
  have HX1 := Lib.hid x1; have HB1 := Lib.hid b1
  have z1 := lt_of_blk x1
  clear x1 b1 hW1
  go_loopw [3, 4] (fun a i wr => ∃ k : Nat, k ≤ F.length ∧ i = .int .i64 k ∧ a = strV ((F.take k).flatMap fieldLine) ∧ Below W1.heap.size W1 wr) (fun _ i _ => F.length - (intOf i).toNat)
  case atStart => exact ⟨0, by omega, rfl, rfl, Below.refl _ _⟩
  case round =>
    obtain ⟨k, hk, rfl, rfl, hbw⟩ := hrel
    have HW := Lib.hid hbw
    have HBW := Lib.hid (HB1.out.trans (hbw.mono HB1.out.size))
    obtain ⟨p0, p1, p2, p3⟩ := cells4 (blk_below hbw z1 HX1.out)
    have zw := hbw.size
    have zx : w.heap.size < wr.heap.size := by omega
    clear hbw
    by_cases hlt : k < F.length
    · have hq : decide ((k : Int) < F.length) = true := by simp; omega
      have hi : (k : Int) < (F.length : Int) := by omega
      obtain ⟨b, off, e1, _, hb, hcc⟩ := vec_cell2 HS.out.1 (show 0 < F.length by omega)
      subst e1
      have hc := hcc k hlt
      have htk := take_snocA F k hlt
      obtain ⟨k1, k4⟩ := HK.out _ (getD_in F k hlt)
      have hln := flat_one fieldLine (getD_in F k hlt)
      have hta := flat_take fieldLine F k
      obtain ⟨⟨nm, kd⟩, hx⟩ : ∃ x, F.getD k default = x := ⟨_, rfl⟩
      rw [hx] at hc htk hln k1 k4
      dsimp only at k1 k4
      have hnl : nm.length ≤ 1000000 := by
        have e : (fieldLine (nm, kd)).length = 5 + nm.length + (kindW kd).length + 2 + 1 := by unfold fieldLine; rw [List.length_append, join3_len]; rfl
        omega
      obtain ⟨j, rfl⟩ := Int.eq_ofNat_of_zero_le (show 0 ≤ kd by omega)
      have c0 := (HBW.out.cell (p := ⟨b, off + k * 2, none⟩) hb).trans (hc 0 _ rfl)
      have c1 := (HBW.out.cell (p := ⟨b, off + k * 2 + 1, none⟩) hb).trans (hc 1 _ rfl)
      have zb : b < wr.heap.size := by have := HBW.out.size; omega
      have HT := Lib.hid htk
      have hkw := kindW_len (j : Int)
      obtain ⟨acc, hacc⟩ : ∃ acc, (F.take k).flatMap fieldLine = acc := ⟨_, rfl⟩
      rw [hacc] at hta
      have HA := Lib.hid hacc
      have hal : acc.length ≤ 1000000 := by omega
      rw [hacc]
      clear hx hc hcc htk hln hta hacc
      go_wp2_with fail
      have hj4 : j < 5 := by omega
      have hj5 : (j : Int) < 5 := by omega
      refine wp_region_noPanic ?_
      refine wp_region_held_drew (S := (fun w' => w'.cell? ⟨w.heap.size, 0, none⟩ = some (.slice (some ⟨b, off, none⟩) F.length cf) ∧ w'.cell? ⟨b, off + k * 2, none⟩ = some (strV nm) ∧ w'.cell? ⟨b, off + k * 2 + 1, none⟩ = some (.int .i64 j))) (by kernel_rfl) (⟨p0, c0, c1⟩) (fun hHeld => ?_)
      have g1 : ¬ (9223372036854775807 : Nat) < 6 + nm.length := by omega
      refine wpAnyH_take (i := 0) (v := ?_) rfl (by kernel_rfl) (by kernel_rfl) (by kernel_rfl) (fun _ _ _ h => h) (Or.inl ⟨by rfl, ?_⟩) (by assumption) ?_
      rotate_left 1
      · (intro wS hSw; (try dsimp only at hSw); go_simp; try with_reducible rfl)
      try simp only [List.getElem_toArray, List.getElem_cons_zero, List.getElem_cons_succ, Act.put, List.setIfInBounds_toArray, List.set_cons_zero, List.set_cons_succ]
      refine wpAnyH_take (i := 1) (v := ?_) rfl (by kernel_rfl) (by kernel_rfl) (by kernel_rfl) (fun _ _ _ h => h) (Or.inl ⟨by rfl, ?_⟩) (by assumption) ?_
      rotate_left 1
      · (intro wS hSw; (try dsimp only at hSw); go_simp; try with_reducible rfl)
      try simp only [List.getElem_toArray, List.getElem_cons_zero, List.getElem_cons_succ, Act.put, List.setIfInBounds_toArray, List.set_cons_zero, List.set_cons_succ]
      refine wpAnyH_take (i := 2) (v := ?_) rfl (by kernel_rfl) (by kernel_rfl) (by kernel_rfl) (fun _ _ _ h => h) (Or.inl ⟨by rfl, ?_⟩) (by assumption) ?_
      rotate_left 1
      · (intro wS hSw; (try dsimp only at hSw); go_simp; try with_reducible rfl)
      try simp only [List.getElem_toArray, List.getElem_cons_zero, List.getElem_cons_succ, Act.put, List.setIfInBounds_toArray, List.set_cons_zero, List.set_cons_succ]
      refine wpAnyH_take (i := 3) (v := ?_) rfl (by kernel_rfl) (by kernel_rfl) (by kernel_rfl) (fun _ _ _ h => h) (Or.inl ⟨by rfl, ?_⟩) (by assumption) ?_
      rotate_left 1
      · (intro wS hSw; (try dsimp only at hSw); go_simp; try with_reducible rfl)
      try simp only [List.getElem_toArray, List.getElem_cons_zero, List.getElem_cons_succ, Act.put, List.setIfInBounds_toArray, List.set_cons_zero, List.set_cons_succ]
      refine wpAnyH_take (i := 4) (v := ?_) rfl (by kernel_rfl) (by kernel_rfl) (by kernel_rfl) (fun _ _ _ h => h) (Or.inl ⟨by rfl, ?_⟩) (by assumption) ?_
      rotate_left 1
      · (intro wS hSw; (try dsimp only at hSw); go_simp; try with_reducible rfl)
      try simp only [List.getElem_toArray, List.getElem_cons_zero, List.getElem_cons_succ, Act.put, List.setIfInBounds_toArray, List.set_cons_zero, List.set_cons_succ]
      refine wpAnyH_take (i := 5) (v := ?_) rfl (by kernel_rfl) (by kernel_rfl) (by kernel_rfl) (fun _ _ _ h => h) (Or.inl ⟨by rfl, ?_⟩) (by assumption) ?_
      rotate_left 1
      · (intro wS hSw; (try dsimp only at hSw); go_simp; try with_reducible rfl)
      try simp only [List.getElem_toArray, List.getElem_cons_zero, List.getElem_cons_succ, Act.put, List.setIfInBounds_toArray, List.set_cons_zero, List.set_cons_succ]
      refine wpAnyH_take (i := 6) (v := ?_) rfl (by kernel_rfl) (by kernel_rfl) (by kernel_rfl) (fun _ _ _ h => h) (Or.inl ⟨by rfl, ?_⟩) (by assumption) ?_
      rotate_left 1
      · (intro wS hSw; (try dsimp only at hSw); go_simp; try with_reducible rfl)
      try simp only [List.getElem_toArray, List.getElem_cons_zero, List.getElem_cons_succ, Act.put, List.setIfInBounds_toArray, List.set_cons_zero, List.set_cons_succ]
      refine wpAnyH_take (i := 7) (v := ?_) rfl (by kernel_rfl) (by kernel_rfl) (by kernel_rfl) (fun _ _ _ h => h) (Or.inl ⟨by rfl, ?_⟩) (by assumption) ?_
      rotate_left 1
      · (intro wS hSw; (try dsimp only at hSw); go_simp; try with_reducible rfl)
      try simp only [List.getElem_toArray, List.getElem_cons_zero, List.getElem_cons_succ, Act.put, List.setIfInBounds_toArray, List.set_cons_zero, List.set_cons_succ]
      obtain ⟨x7, h7⟩ : ∃ x, (102 :: 105 :: 101 :: 108 :: 100 :: 32 :: nm : List UInt8) = x := ⟨_, rfl⟩
      have l7 : x7.length ≤ 1000010 := by rw [← h7]; simp; omega
      rw [h7]
      have g2 : ¬ (9223372036854775807 : Nat) < x7.length + 1 := by omega
      have H7 := Lib.hid h7
      clear h7 g1
      refine wpAnyH_take (i := 8) (v := ?_) rfl (by kernel_rfl) (by kernel_rfl) (by kernel_rfl) (fun _ _ _ h => h) (Or.inl ⟨by rfl, ?_⟩) (by assumption) ?_
      rotate_left 1
      · (intro wS hSw; (try dsimp only at hSw); go_simp; try with_reducible rfl)
      try simp only [List.getElem_toArray, List.getElem_cons_zero, List.getElem_cons_succ, Act.put, List.setIfInBounds_toArray, List.set_cons_zero, List.set_cons_succ]
      obtain ⟨x8, h8⟩ : ∃ x, x7 ++ [32] = x := ⟨_, rfl⟩
      have l8 : x8.length ≤ 1000020 := by rw [← h8]; simp; omega
      rw [h8]
      have H8 := Lib.hid h8
      clear h8 g2
      refine wpAnyH_take (i := 10) (v := ?_) rfl (by kernel_rfl) (by kernel_rfl) (by kernel_rfl) (fun _ _ _ h => h) (Or.inl ⟨by rfl, ?_⟩) (by assumption) ?_
      rotate_left 1
      · (intro wS hSw; (try dsimp only at hSw); go_simp; try with_reducible rfl)
      try simp only [List.getElem_toArray, List.getElem_cons_zero, List.getElem_cons_succ, Act.put, List.setIfInBounds_toArray, List.set_cons_zero, List.set_cons_succ]
      refine wpAnyH_take (i := 11) (v := ?_) rfl (by kernel_rfl) (by kernel_rfl) (by kernel_rfl) (fun _ _ _ h => h) (Or.inl ⟨by rfl, ?_⟩) (by assumption) ?_
      rotate_left 1
      · (intro wS hSw; (try dsimp only at hSw); go_simp; try with_reducible rfl)
      try simp only [List.getElem_toArray, List.getElem_cons_zero, List.getElem_cons_succ, Act.put, List.setIfInBounds_toArray, List.set_cons_zero, List.set_cons_succ]
      refine wpAnyH_take (i := 12) (v := ?_) rfl (by kernel_rfl) (by kernel_rfl) (by kernel_rfl) (fun _ _ _ h => h) (Or.inl ⟨by rfl, ?_⟩) (by assumption) ?_
      rotate_left 1
      · (intro wS hSw; (try dsimp only at hSw); go_simp; try with_reducible rfl)
      try simp only [List.getElem_toArray, List.getElem_cons_zero, List.getElem_cons_succ, Act.put, List.setIfInBounds_toArray, List.set_cons_zero, List.set_cons_succ]
      refine wpAnyH_take (i := 13) (v := ?_) rfl (by kernel_rfl) (by kernel_rfl) (by kernel_rfl) (fun _ _ _ h => h) (Or.inl ⟨by rfl, ?_⟩) (by assumption) ?_
      rotate_left 1
      · (intro wS hSw; (try dsimp only at hSw); go_simp; try with_reducible rfl)
      try simp only [List.getElem_toArray, List.getElem_cons_zero, List.getElem_cons_succ, Act.put, List.setIfInBounds_toArray, List.set_cons_zero, List.set_cons_succ]
      refine wpAnyH_take (i := 14) (v := ?_) rfl (by kernel_rfl) (by kernel_rfl) (by kernel_rfl) (fun _ _ _ h => h) (Or.inl ⟨by rfl, ?_⟩) (by assumption) ?_
      rotate_left 1
      · (intro wS hSw; (try dsimp only at hSw); go_simp; try with_reducible rfl)
      try simp only [List.getElem_toArray, List.getElem_cons_zero, List.getElem_cons_succ, Act.put, List.setIfInBounds_toArray, List.set_cons_zero, List.set_cons_succ]
      refine wpAnyH_take (i := 15) (v := ?_) rfl (by kernel_rfl) (by kernel_rfl) (by kernel_rfl) (fun _ _ _ h => h) (Or.inl ⟨by rfl, ?_⟩) (by assumption) ?_
      rotate_left 1
      · (intro wS hSw; (try dsimp only at hSw); go_simp; try with_reducible rfl)
      try simp only [List.getElem_toArray, List.getElem_cons_zero, List.getElem_cons_succ, Act.put, List.setIfInBounds_toArray, List.set_cons_zero, List.set_cons_succ]
      refine wpAnyH_ready (rs := [9]) (by kernel_rfl) (by simp) ?_
      refine AllReadyH.cons rfl (fun K hK => ?_) AllReadyH.nil
      go_simp
      refine (rkinds_any _).mono ?_; rintro e w2 ⟨rfl, hrow, hb2⟩; have hb3 := ((Below.refl wr.heap.size wr).drew).trans hb2; have ck : w2.cell? ⟨wr.heap.size, j, none⟩ = some (strV (kindsR.getD j [])) := hrow.cell j hj4; rw [kindsR_get j (by omega)] at ck; have HBQ := Lib.hid (HW.out.trans (hb3.mono (by omega))); have qa := (hb3.cell (p := ⟨w.heap.size, 0, none⟩) zx).trans p0; have qb := (hb3.cell (p := ⟨b, off + k * 2, none⟩) zb).trans c0; have qc := (hb3.cell (p := ⟨b, off + k * 2 + 1, none⟩) zb).trans c1
      refine hK.out _ _ (⟨qa, qb, qc⟩) (fun hHeld => ?_)
      clear hK K
      try simp only [List.getElem_toArray, List.getElem_cons_zero, List.getElem_cons_succ, Act.put, List.setIfInBounds_toArray, List.set_cons_zero, List.set_cons_succ]
      refine wpAnyH_take (i := 16) (v := ?_) rfl (by kernel_rfl) (by kernel_rfl) (by kernel_rfl) (fun _ _ _ h => h) (Or.inl ⟨by rfl, ?_⟩) (by assumption) ?_
      rotate_left 1
      · (intro wS hSw; (try dsimp only at hSw); go_simp; try with_reducible rfl)
      try simp only [List.getElem_toArray, List.getElem_cons_zero, List.getElem_cons_succ, Act.put, List.setIfInBounds_toArray, List.set_cons_zero, List.set_cons_succ]
      refine wpAnyH_ready (rs := [17]) (by kernel_rfl) (by simp) ?_
      refine AllReadyH.cons rfl (fun K hK => ?_) AllReadyH.nil
      go_simp
      skip
      refine hK.out _ _ (⟨qa, qb, qc⟩) (fun hHeld => ?_)
      clear hK K
      try simp only [List.getElem_toArray, List.getElem_cons_zero, List.getElem_cons_succ, Act.put, List.setIfInBounds_toArray, List.set_cons_zero, List.set_cons_succ]
      obtain ⟨kw, hkwd⟩ : ∃ x, kindW (j : Int) = x := ⟨_, rfl⟩
      rw [hkwd] at hkw
      rw [hkwd]
      have HKW := Lib.hid hkwd
      have g3 : ¬ (9223372036854775807 : Nat) < x8.length + kw.length := by omega
      clear hkwd
      refine wpAnyH_take (i := 18) (v := ?_) rfl (by kernel_rfl) (by kernel_rfl) (by kernel_rfl) (fun _ _ _ h => h) (Or.inl ⟨by rfl, ?_⟩) (by assumption) ?_
      rotate_left 1
      · (intro wS hSw; (try dsimp only at hSw); go_simp; try with_reducible rfl)
      try simp only [List.getElem_toArray, List.getElem_cons_zero, List.getElem_cons_succ, Act.put, List.setIfInBounds_toArray, List.set_cons_zero, List.set_cons_succ]
      obtain ⟨x9, h9⟩ : ∃ x, x8 ++ kw = x := ⟨_, rfl⟩
      have l9 : x9.length ≤ 1000040 := by rw [← h9]; simp; omega
      rw [h9]
      have H9 := Lib.hid h9
      have g4 : ¬ (9223372036854775807 : Nat) < x9.length + 1 := by omega
      clear h9 g3
      refine wpAnyH_take (i := 19) (v := ?_) rfl (by kernel_rfl) (by kernel_rfl) (by kernel_rfl) (fun _ _ _ h => h) (Or.inl ⟨by rfl, ?_⟩) (by assumption) ?_
      rotate_left 1
      · (intro wS hSw; (try dsimp only at hSw); go_simp; try with_reducible rfl)
      try simp only [List.getElem_toArray, List.getElem_cons_zero, List.getElem_cons_succ, Act.put, List.setIfInBounds_toArray, List.set_cons_zero, List.set_cons_succ]
      obtain ⟨x10, h10⟩ : ∃ x, x9 ++ [10] = x := ⟨_, rfl⟩
      have l10 : x10.length ≤ 1000050 := by rw [← h10]; simp; omega
      rw [h10]
      have H10 := Lib.hid h10
      have g5 : ¬ (9223372036854775807 : Nat) < acc.length + x10.length := by omega
      clear h10 g4
      refine wpAnyH_take (i := 20) (v := ?_) rfl (by kernel_rfl) (by kernel_rfl) (by kernel_rfl) (fun _ _ _ h => h) (Or.inl ⟨by rfl, ?_⟩) (by assumption) ?_
      rotate_left 1
      · (intro wS hSw; (try dsimp only at hSw); go_simp; try with_reducible rfl)
      try simp only [List.getElem_toArray, List.getElem_cons_zero, List.getElem_cons_succ, Act.put, List.setIfInBounds_toArray, List.set_cons_zero, List.set_cons_succ]
      clear g5
      refine wpAnyH_ready (rs := [21]) (by kernel_rfl) (by simp) ?_
      refine AllReadyH.cons rfl (fun K hK => ?_) AllReadyH.nil
      go_simp
      skip
      refine hK.out _ _ (⟨qa, qb, qc⟩) (fun hHeld => ?_)
      clear hK K
      try simp only [List.getElem_toArray, List.getElem_cons_zero, List.getElem_cons_succ, Act.put, List.setIfInBounds_toArray, List.set_cons_zero, List.set_cons_succ]
      refine wpAnyH_done (by kernel_rfl) ?_ _
      refine NoPanic.normal ?_
      have HX := Lib.hid (show x10 = fieldLine (nm, (j : Int)) by rw [← H10.out, ← H9.out, ← H8.out, ← H7.out, ← HKW.out]; simp [fieldLine, joinL])
      clear ck qa qb qc p0 p1 p2 p3 c0 c1
      go_wp2_with fail
      go_roundw
      case rel => exact ⟨k + 1, by omega, by go_num, by rw [HT.out, List.flatMap_append, HA.out, HX.out]; simp, HBQ.out⟩
      case measure => simp [intOf]; omega
    · have hq : decide ((k : Int) < F.length) = false := by simp; omega
      rw [List.take_of_length_le (by omega)]
      obtain ⟨a1, ha1⟩ : ∃ a, F.flatMap fieldLine = a := ⟨_, rfl⟩
      have ba1 : a1.length ≤ 1000000 := by rw [← ha1]; omega
      rw [ha1]
      have Ha1 := Lib.hid ha1
      clear ha1
      obtain ⟨wu, rfl⟩ : ∃ wu : World, wu = wr := ⟨_, rfl⟩
      go_wp2_with fail
      clear p0 p1 p2 p3 hq
      go_loopw [3, 5] (fun a i wr => ∃ k : Nat, k ≤ T.length ∧ i = .int .i64 k ∧ a = strV (a1 ++ (T.take k).flatMap titleLine) ∧ wr = wu) (fun _ i _ => T.length - (intOf i).toNat)
      case atStart => exact ⟨0, by omega, rfl, by simp, rfl⟩
      case round =>
        obtain ⟨k, hk, rfl, rfl, rfl⟩ := hrel
        obtain ⟨p0, p1, p2, p3⟩ := cells4 (blk_below HW.out z1 HX1.out)
        by_cases hlt : k < T.length
        · have hq : decide ((k : Int) < T.length) = true := by simp; omega
          have hi : (k : Int) < (T.length : Int) := by omega
          obtain ⟨b, off, e1, _, hb, hcc⟩ := vec_cell1 HS.out.2.1 (show 0 < T.length by omega)
          subst e1
          have hc := hcc k hlt
          have htk := take_snocT T k hlt
          have hln := flat_one titleLine (getD_inT T k hlt)
          have hta := flat_take titleLine T k
          obtain ⟨x, hx⟩ : ∃ x, T.getD k [] = x := ⟨_, rfl⟩
          rw [hx] at hc htk hln
          have c0 := (HBW.out.cell (p := ⟨b, off + k, none⟩) hb).trans hc
          have HT := Lib.hid htk
          have hxl : x.length ≤ 1000000 := by
            have e : (titleLine x).length = 5 + x.length + 1 + 1 := by unfold titleLine; rw [List.length_append, join2_len]; rfl
            omega
          obtain ⟨acc, hacc⟩ : ∃ acc, a1 ++ (T.take k).flatMap titleLine = acc := ⟨_, rfl⟩
          have HA := Lib.hid hacc
          have hal : acc.length ≤ 2000000 := by rw [← hacc, List.length_append]; omega
          rw [hacc]
          clear hx hc hcc htk hln hta hacc
          go_wp2_with fail
          go_roundw
          case rel => exact ⟨k + 1, by omega, by go_num, by rw [HT.out, List.flatMap_append, ← List.append_assoc, HA.out]; simp [titleLine, joinL], by first | rfl | trivial⟩
          case measure => simp [intOf]; omega
        · have hq : decide ((k : Int) < T.length) = false := by simp; omega
          rw [List.take_of_length_le (by omega)]
          obtain ⟨a2, ha2⟩ : ∃ a, a1 ++ T.flatMap titleLine = a := ⟨_, rfl⟩
          have ba2 : a2.length ≤ 2000000 := by rw [← ha2, List.length_append]; omega
          rw [ha2]
          have Ha2 := Lib.hid ha2
          clear ha2
          go_wp2_with fail
          clear p0 p1 p2 p3 hq
          obtain ⟨wu, rfl⟩ : ∃ wu : World, wu = wr := ⟨_, rfl⟩
          go_loopw [3, 6] (fun a i wr => ∃ (k m : Nat), k ≤ N.length ∧ i = .int .i64 k ∧ a = strV (a2 ++ (N.take k).flatMap nickLine) ∧ wr = wu.drewN m) (fun _ i _ => N.length - (intOf i).toNat)
          case atStart => exact ⟨0, 0, by omega, rfl, by simp, rfl⟩
          case round =>
            obtain ⟨k, mm, hk, rfl, rfl, rfl⟩ := hrel
            have HBD := Lib.hid (below_drewN HBW.out mm)
            obtain ⟨p0, p1, p2, p3⟩ := cells4 (blk_below (below_drewN HW.out mm) z1 HX1.out)
            by_cases hlt : k < N.length
            · have hq : decide ((k : Int) < N.length) = true := by simp; omega
              have hi : (k : Int) < (N.length : Int) := by omega
              obtain ⟨b, off, e1, _, hb, hcc⟩ := vec_cell2 HS.out.2.2.1 (show 0 < N.length by omega)
              subst e1
              have hc := hcc k hlt
              have htk := take_snocA N k hlt
              have hln := flat_one nickLine (getD_in N k hlt)
              have hta := flat_take nickLine N k
              obtain ⟨⟨xf, xt⟩, hx⟩ : ∃ x, N.getD k default = x := ⟨_, rfl⟩
              rw [hx] at hc htk hln
              have hxl : xf.length ≤ 1000000 ∧ xt.length ≤ 1000000 := by
                have e : (nickLine (xf, xt)).length = 8 + xf.length + xt.length + 2 + 1 := by unfold nickLine; rw [List.length_append, join3_len]; rfl
                omega
              obtain ⟨hxl1, hxl2⟩ := hxl
              have c0 := (HBD.out.cell (p := ⟨b, off + k * 2, none⟩) hb).trans (hc 0 _ rfl)
              have c1 := (HBD.out.cell (p := ⟨b, off + k * 2 + 1, none⟩) hb).trans (hc 1 _ rfl)
              have HT := Lib.hid htk
              obtain ⟨acc, hacc⟩ : ∃ acc, a2 ++ (N.take k).flatMap nickLine = acc := ⟨_, rfl⟩
              have HA := Lib.hid hacc
              have hal : acc.length ≤ 3000000 := by rw [← hacc, List.length_append]; omega
              rw [hacc]
              clear hx hc hcc htk hln hta hacc
              go_wp2_with fail
              refine wp_region_noPanic ?_
              refine wp_region_held_drew (S := (fun w' => w'.cell? ⟨w.heap.size, 2, none⟩ = some (.slice (some ⟨b, off, none⟩) N.length cn) ∧ w'.cell? ⟨b, off + k * 2, none⟩ = some (strV xf) ∧ w'.cell? ⟨b, off + k * 2 + 1, none⟩ = some (strV xt))) (by kernel_rfl) (⟨p2, c0, c1⟩) (fun hHeld => ?_)
              have g1 : ¬ (9223372036854775807 : Nat) < 9 + xf.length := by omega
              refine wpAnyH_take (i := 0) (v := ?_) rfl (by kernel_rfl) (by kernel_rfl) (by kernel_rfl) (fun _ _ _ h => h) (Or.inl ⟨by rfl, ?_⟩) (by assumption) ?_
              rotate_left 1
              · (intro wS hSw; (try dsimp only at hSw); go_simp; try with_reducible rfl)
              try simp only [List.getElem_toArray, List.getElem_cons_zero, List.getElem_cons_succ, Act.put, List.setIfInBounds_toArray, List.set_cons_zero, List.set_cons_succ]
              refine wpAnyH_take (i := 1) (v := ?_) rfl (by kernel_rfl) (by kernel_rfl) (by kernel_rfl) (fun _ _ _ h => h) (Or.inl ⟨by rfl, ?_⟩) (by assumption) ?_
              rotate_left 1
              · (intro wS hSw; (try dsimp only at hSw); go_simp; try with_reducible rfl)
              try simp only [List.getElem_toArray, List.getElem_cons_zero, List.getElem_cons_succ, Act.put, List.setIfInBounds_toArray, List.set_cons_zero, List.set_cons_succ]
              refine wpAnyH_take (i := 2) (v := ?_) rfl (by kernel_rfl) (by kernel_rfl) (by kernel_rfl) (fun _ _ _ h => h) (Or.inl ⟨by rfl, ?_⟩) (by assumption) ?_
              rotate_left 1
              · (intro wS hSw; (try dsimp only at hSw); go_simp; try with_reducible rfl)
              try simp only [List.getElem_toArray, List.getElem_cons_zero, List.getElem_cons_succ, Act.put, List.setIfInBounds_toArray, List.set_cons_zero, List.set_cons_succ]
              refine wpAnyH_take (i := 3) (v := ?_) rfl (by kernel_rfl) (by kernel_rfl) (by kernel_rfl) (fun _ _ _ h => h) (Or.inl ⟨by rfl, ?_⟩) (by assumption) ?_
              rotate_left 1
              · (intro wS hSw; (try dsimp only at hSw); go_simp; try with_reducible rfl)
              try simp only [List.getElem_toArray, List.getElem_cons_zero, List.getElem_cons_succ, Act.put, List.setIfInBounds_toArray, List.set_cons_zero, List.set_cons_succ]
              refine wpAnyH_take (i := 4) (v := ?_) rfl (by kernel_rfl) (by kernel_rfl) (by kernel_rfl) (fun _ _ _ h => h) (Or.inl ⟨by rfl, ?_⟩) (by assumption) ?_
              rotate_left 1
              · (intro wS hSw; (try dsimp only at hSw); go_simp; try with_reducible rfl)
              try simp only [List.getElem_toArray, List.getElem_cons_zero, List.getElem_cons_succ, Act.put, List.setIfInBounds_toArray, List.set_cons_zero, List.set_cons_succ]
              refine wpAnyH_take (i := 5) (v := ?_) rfl (by kernel_rfl) (by kernel_rfl) (by kernel_rfl) (fun _ _ _ h => h) (Or.inl ⟨by rfl, ?_⟩) (by assumption) ?_
              rotate_left 1
              · (intro wS hSw; (try dsimp only at hSw); go_simp; try with_reducible rfl)
              try simp only [List.getElem_toArray, List.getElem_cons_zero, List.getElem_cons_succ, Act.put, List.setIfInBounds_toArray, List.set_cons_zero, List.set_cons_succ]
              refine wpAnyH_take (i := 6) (v := ?_) rfl (by kernel_rfl) (by kernel_rfl) (by kernel_rfl) (fun _ _ _ h => h) (Or.inl ⟨by rfl, ?_⟩) (by assumption) ?_
              rotate_left 1
              · (intro wS hSw; (try dsimp only at hSw); go_simp; try with_reducible rfl)
              try simp only [List.getElem_toArray, List.getElem_cons_zero, List.getElem_cons_succ, Act.put, List.setIfInBounds_toArray, List.set_cons_zero, List.set_cons_succ]
              refine wpAnyH_take (i := 7) (v := ?_) rfl (by kernel_rfl) (by kernel_rfl) (by kernel_rfl) (fun _ _ _ h => h) (Or.inl ⟨by rfl, ?_⟩) (by assumption) ?_
              rotate_left 1
              · (intro wS hSw; (try dsimp only at hSw); go_simp; try with_reducible rfl)
              try simp only [List.getElem_toArray, List.getElem_cons_zero, List.getElem_cons_succ, Act.put, List.setIfInBounds_toArray, List.set_cons_zero, List.set_cons_succ]
              refine wpAnyH_take (i := 8) (v := ?_) rfl (by kernel_rfl) (by kernel_rfl) (by kernel_rfl) (fun _ _ _ h => h) (Or.inl ⟨by rfl, ?_⟩) (by assumption) ?_
              rotate_left 1
              · (intro wS hSw; (try dsimp only at hSw); go_simp; try with_reducible rfl)
              try simp only [List.getElem_toArray, List.getElem_cons_zero, List.getElem_cons_succ, Act.put, List.setIfInBounds_toArray, List.set_cons_zero, List.set_cons_succ]
              obtain ⟨x7, h7⟩ : ∃ x, (110 :: 105 :: 99 :: 107 :: 110 :: 97 :: 109 :: 101 :: 32 :: xf : List UInt8) = x := ⟨_, rfl⟩
              have l7 : x7.length ≤ 1000010 := by rw [← h7]; simp; omega
              rw [h7]
              have g2 : ¬ (9223372036854775807 : Nat) < x7.length + 1 := by omega
              have H7 := Lib.hid h7
              clear h7 g1
              refine wpAnyH_take (i := 9) (v := ?_) rfl (by kernel_rfl) (by kernel_rfl) (by kernel_rfl) (fun _ _ _ h => h) (Or.inl ⟨by rfl, ?_⟩) (by assumption) ?_
              rotate_left 1
              · (intro wS hSw; (try dsimp only at hSw); go_simp; try with_reducible rfl)
              try simp only [List.getElem_toArray, List.getElem_cons_zero, List.getElem_cons_succ, Act.put, List.setIfInBounds_toArray, List.set_cons_zero, List.set_cons_succ]
              obtain ⟨x8, h8⟩ : ∃ x, x7 ++ [32] = x := ⟨_, rfl⟩
              have l8 : x8.length ≤ 1000020 := by rw [← h8]; simp; omega
              rw [h8]
              have H8 := Lib.hid h8
              clear h8 g2
              refine wpAnyH_take (i := 10) (v := ?_) rfl (by kernel_rfl) (by kernel_rfl) (by kernel_rfl) (fun _ _ _ h => h) (Or.inl ⟨by rfl, ?_⟩) (by assumption) ?_
              rotate_left 1
              · (intro wS hSw; (try dsimp only at hSw); go_simp; try with_reducible rfl)
              try simp only [List.getElem_toArray, List.getElem_cons_zero, List.getElem_cons_succ, Act.put, List.setIfInBounds_toArray, List.set_cons_zero, List.set_cons_succ]
              refine wpAnyH_take (i := 11) (v := ?_) rfl (by kernel_rfl) (by kernel_rfl) (by kernel_rfl) (fun _ _ _ h => h) (Or.inl ⟨by rfl, ?_⟩) (by assumption) ?_
              rotate_left 1
              · (intro wS hSw; (try dsimp only at hSw); go_simp; try with_reducible rfl)
              try simp only [List.getElem_toArray, List.getElem_cons_zero, List.getElem_cons_succ, Act.put, List.setIfInBounds_toArray, List.set_cons_zero, List.set_cons_succ]
              refine wpAnyH_take (i := 12) (v := ?_) rfl (by kernel_rfl) (by kernel_rfl) (by kernel_rfl) (fun _ _ _ h => h) (Or.inl ⟨by rfl, ?_⟩) (by assumption) ?_
              rotate_left 1
              · (intro wS hSw; (try dsimp only at hSw); go_simp; try with_reducible rfl)
              try simp only [List.getElem_toArray, List.getElem_cons_zero, List.getElem_cons_succ, Act.put, List.setIfInBounds_toArray, List.set_cons_zero, List.set_cons_succ]
              refine wpAnyH_take (i := 13) (v := ?_) rfl (by kernel_rfl) (by kernel_rfl) (by kernel_rfl) (fun _ _ _ h => h) (Or.inl ⟨by rfl, ?_⟩) (by assumption) ?_
              rotate_left 1
              · (intro wS hSw; (try dsimp only at hSw); go_simp; try with_reducible rfl)
              try simp only [List.getElem_toArray, List.getElem_cons_zero, List.getElem_cons_succ, Act.put, List.setIfInBounds_toArray, List.set_cons_zero, List.set_cons_succ]
              refine wpAnyH_take (i := 14) (v := ?_) rfl (by kernel_rfl) (by kernel_rfl) (by kernel_rfl) (fun _ _ _ h => h) (Or.inl ⟨by rfl, ?_⟩) (by assumption) ?_
              rotate_left 1
              · (intro wS hSw; (try dsimp only at hSw); go_simp; try with_reducible rfl)
              try simp only [List.getElem_toArray, List.getElem_cons_zero, List.getElem_cons_succ, Act.put, List.setIfInBounds_toArray, List.set_cons_zero, List.set_cons_succ]
              refine wpAnyH_take (i := 15) (v := ?_) rfl (by kernel_rfl) (by kernel_rfl) (by kernel_rfl) (fun _ _ _ h => h) (Or.inl ⟨by rfl, ?_⟩) (by assumption) ?_
              rotate_left 1
              · (intro wS hSw; (try dsimp only at hSw); go_simp; try with_reducible rfl)
              try simp only [List.getElem_toArray, List.getElem_cons_zero, List.getElem_cons_succ, Act.put, List.setIfInBounds_toArray, List.set_cons_zero, List.set_cons_succ]
              refine wpAnyH_take (i := 16) (v := ?_) rfl (by kernel_rfl) (by kernel_rfl) (by kernel_rfl) (fun _ _ _ h => h) (Or.inl ⟨by rfl, ?_⟩) (by assumption) ?_
              rotate_left 1
              · (intro wS hSw; (try dsimp only at hSw); go_simp; try with_reducible rfl)
              try simp only [List.getElem_toArray, List.getElem_cons_zero, List.getElem_cons_succ, Act.put, List.setIfInBounds_toArray, List.set_cons_zero, List.set_cons_succ]
              have g3 : ¬ (9223372036854775807 : Nat) < x8.length + xt.length := by omega
              refine wpAnyH_take (i := 17) (v := ?_) rfl (by kernel_rfl) (by kernel_rfl) (by kernel_rfl) (fun _ _ _ h => h) (Or.inl ⟨by rfl, ?_⟩) (by assumption) ?_
              rotate_left 1
              · (intro wS hSw; (try dsimp only at hSw); go_simp; try with_reducible rfl)
              try simp only [List.getElem_toArray, List.getElem_cons_zero, List.getElem_cons_succ, Act.put, List.setIfInBounds_toArray, List.set_cons_zero, List.set_cons_succ]
              obtain ⟨x9, h9⟩ : ∃ x, x8 ++ xt = x := ⟨_, rfl⟩
              have l9 : x9.length ≤ 2000040 := by rw [← h9]; simp; omega
              rw [h9]
              have H9 := Lib.hid h9
              have g4 : ¬ (9223372036854775807 : Nat) < x9.length + 1 := by omega
              clear h9 g3
              refine wpAnyH_take (i := 18) (v := ?_) rfl (by kernel_rfl) (by kernel_rfl) (by kernel_rfl) (fun _ _ _ h => h) (Or.inl ⟨by rfl, ?_⟩) (by assumption) ?_
              rotate_left 1
              · (intro wS hSw; (try dsimp only at hSw); go_simp; try with_reducible rfl)
              try simp only [List.getElem_toArray, List.getElem_cons_zero, List.getElem_cons_succ, Act.put, List.setIfInBounds_toArray, List.set_cons_zero, List.set_cons_succ]
              obtain ⟨x10, h10⟩ : ∃ x, x9 ++ [10] = x := ⟨_, rfl⟩
              have l10 : x10.length ≤ 2000050 := by rw [← h10]; simp; omega
              rw [h10]
              have H10 := Lib.hid h10
              have g5 : ¬ (9223372036854775807 : Nat) < acc.length + x10.length := by omega
              clear h10 g4
              refine wpAnyH_take (i := 19) (v := ?_) rfl (by kernel_rfl) (by kernel_rfl) (by kernel_rfl) (fun _ _ _ h => h) (Or.inl ⟨by rfl, ?_⟩) (by assumption) ?_
              rotate_left 1
              · (intro wS hSw; (try dsimp only at hSw); go_simp; try with_reducible rfl)
              try simp only [List.getElem_toArray, List.getElem_cons_zero, List.getElem_cons_succ, Act.put, List.setIfInBounds_toArray, List.set_cons_zero, List.set_cons_succ]
              clear g5
              refine wpAnyH_ready (rs := [20]) (by kernel_rfl) (by simp) ?_
              refine AllReadyH.cons rfl (fun K hK => ?_) AllReadyH.nil
              go_simp
              skip
              refine hK.out _ _ (⟨p2, c0, c1⟩) (fun hHeld => ?_)
              clear hK K
              try simp only [List.getElem_toArray, List.getElem_cons_zero, List.getElem_cons_succ, Act.put, List.setIfInBounds_toArray, List.set_cons_zero, List.set_cons_succ]
              refine wpAnyH_done (by kernel_rfl) ?_ _
              refine NoPanic.normal ?_
              have HX := Lib.hid (show x10 = nickLine (xf, xt) by rw [← H10.out, ← H9.out, ← H8.out, ← H7.out]; simp [nickLine, joinL])
              clear p0 p1 p2 p3 c0 c1
              go_wp2_with fail
              go_roundw
              case rel => exact ⟨k + 1, mm + 1, by omega, by go_num, by rw [HT.out, List.flatMap_append, ← List.append_assoc, HA.out, HX.out]; simp, drewN_one wu mm⟩
              case measure => simp [intOf]; omega
            · have hq : decide ((k : Int) < N.length) = false := by simp; omega
              rw [List.take_of_length_le (by omega)]
              obtain ⟨a3, ha3⟩ : ∃ a, a2 ++ N.flatMap nickLine = a := ⟨_, rfl⟩
              have ba3 : a3.length ≤ 3000000 := by rw [← ha3, List.length_append]; omega
              rw [ha3]
              have Ha3 := Lib.hid ha3
              clear ha3
              go_wp2_with fail
              clear p0 p1 p2 p3 hq
              go_loopw [3, 7] (fun a i wr => ∃ (k m : Nat), k ≤ R.length ∧ i = .int .i64 k ∧ a = strV (a3 ++ (R.take k).flatMap streetLine) ∧ wr = wu.drewN m) (fun _ i _ => R.length - (intOf i).toNat)
              case atStart => exact ⟨0, mm, by omega, rfl, by simp, rfl⟩
              case round =>
                obtain ⟨k, mm, hk, rfl, rfl, rfl⟩ := hrel
                have HBD := Lib.hid (below_drewN HBW.out mm)
                obtain ⟨p0, p1, p2, p3⟩ := cells4 (blk_below (below_drewN HW.out mm) z1 HX1.out)
                by_cases hlt : k < R.length
                · have hq : decide ((k : Int) < R.length) = true := by simp; omega
                  have hi : (k : Int) < (R.length : Int) := by omega
                  obtain ⟨b, off, e1, _, hb, hcc⟩ := vec_cell2 HS.out.2.2.2 (show 0 < R.length by omega)
                  subst e1
                  have hc := hcc k hlt
                  have htk := take_snocA R k hlt
                  have hln := flat_one streetLine (getD_in R k hlt)
                  have hta := flat_take streetLine R k
                  obtain ⟨⟨xf, xt⟩, hx⟩ : ∃ x, R.getD k default = x := ⟨_, rfl⟩
                  rw [hx] at hc htk hln
                  have hxl : xf.length ≤ 1000000 ∧ xt.length ≤ 1000000 := by
                    have e : (streetLine (xf, xt)).length = 6 + xf.length + xt.length + 2 + 1 := by unfold streetLine; rw [List.length_append, join3_len]; rfl
                    omega
                  obtain ⟨hxl1, hxl2⟩ := hxl
                  have c0 := (HBD.out.cell (p := ⟨b, off + k * 2, none⟩) hb).trans (hc 0 _ rfl)
                  have c1 := (HBD.out.cell (p := ⟨b, off + k * 2 + 1, none⟩) hb).trans (hc 1 _ rfl)
                  have HT := Lib.hid htk
                  obtain ⟨acc, hacc⟩ : ∃ acc, a3 ++ (R.take k).flatMap streetLine = acc := ⟨_, rfl⟩
                  have HA := Lib.hid hacc
                  have hal : acc.length ≤ 4000000 := by rw [← hacc, List.length_append]; omega
                  rw [hacc]
                  clear hx hc hcc htk hln hta hacc
                  go_wp2_with fail
                  refine wp_region_noPanic ?_
                  refine wp_region_held_drew (S := (fun w' => w'.cell? ⟨w.heap.size, 3, none⟩ = some (.slice (some ⟨b, off, none⟩) R.length cs) ∧ w'.cell? ⟨b, off + k * 2, none⟩ = some (strV xf) ∧ w'.cell? ⟨b, off + k * 2 + 1, none⟩ = some (strV xt))) (by kernel_rfl) (⟨p3, c0, c1⟩) (fun hHeld => ?_)
                  have g1 : ¬ (9223372036854775807 : Nat) < 7 + xf.length := by omega
                  refine wpAnyH_take (i := 0) (v := ?_) rfl (by kernel_rfl) (by kernel_rfl) (by kernel_rfl) (fun _ _ _ h => h) (Or.inl ⟨by rfl, ?_⟩) (by assumption) ?_
                  rotate_left 1
                  · (intro wS hSw; (try dsimp only at hSw); go_simp; try with_reducible rfl)
                  try simp only [List.getElem_toArray, List.getElem_cons_zero, List.getElem_cons_succ, Act.put, List.setIfInBounds_toArray, List.set_cons_zero, List.set_cons_succ]
                  refine wpAnyH_take (i := 1) (v := ?_) rfl (by kernel_rfl) (by kernel_rfl) (by kernel_rfl) (fun _ _ _ h => h) (Or.inl ⟨by rfl, ?_⟩) (by assumption) ?_
                  rotate_left 1
                  · (intro wS hSw; (try dsimp only at hSw); go_simp; try with_reducible rfl)
                  try simp only [List.getElem_toArray, List.getElem_cons_zero, List.getElem_cons_succ, Act.put, List.setIfInBounds_toArray, List.set_cons_zero, List.set_cons_succ]
                  refine wpAnyH_take (i := 2) (v := ?_) rfl (by kernel_rfl) (by kernel_rfl) (by kernel_rfl) (fun _ _ _ h => h) (Or.inl ⟨by rfl, ?_⟩) (by assumption) ?_
                  rotate_left 1
                  · (intro wS hSw; (try dsimp only at hSw); go_simp; try with_reducible rfl)
                  try simp only [List.getElem_toArray, List.getElem_cons_zero, List.getElem_cons_succ, Act.put, List.setIfInBounds_toArray, List.set_cons_zero, List.set_cons_succ]
                  refine wpAnyH_take (i := 3) (v := ?_) rfl (by kernel_rfl) (by kernel_rfl) (by kernel_rfl) (fun _ _ _ h => h) (Or.inl ⟨by rfl, ?_⟩) (by assumption) ?_
                  rotate_left 1
                  · (intro wS hSw; (try dsimp only at hSw); go_simp; try with_reducible rfl)
                  try simp only [List.getElem_toArray, List.getElem_cons_zero, List.getElem_cons_succ, Act.put, List.setIfInBounds_toArray, List.set_cons_zero, List.set_cons_succ]
                  refine wpAnyH_take (i := 4) (v := ?_) rfl (by kernel_rfl) (by kernel_rfl) (by kernel_rfl) (fun _ _ _ h => h) (Or.inl ⟨by rfl, ?_⟩) (by assumption) ?_
                  rotate_left 1
                  · (intro wS hSw; (try dsimp only at hSw); go_simp; try with_reducible rfl)
                  try simp only [List.getElem_toArray, List.getElem_cons_zero, List.getElem_cons_succ, Act.put, List.setIfInBounds_toArray, List.set_cons_zero, List.set_cons_succ]
                  refine wpAnyH_take (i := 5) (v := ?_) rfl (by kernel_rfl) (by kernel_rfl) (by kernel_rfl) (fun _ _ _ h => h) (Or.inl ⟨by rfl, ?_⟩) (by assumption) ?_
                  rotate_left 1
                  · (intro wS hSw; (try dsimp only at hSw); go_simp; try with_reducible rfl)
                  try simp only [List.getElem_toArray, List.getElem_cons_zero, List.getElem_cons_succ, Act.put, List.setIfInBounds_toArray, List.set_cons_zero, List.set_cons_succ]
                  refine wpAnyH_take (i := 6) (v := ?_) rfl (by kernel_rfl) (by kernel_rfl) (by kernel_rfl) (fun _ _ _ h => h) (Or.inl ⟨by rfl, ?_⟩) (by assumption) ?_
                  rotate_left 1
                  · (intro wS hSw; (try dsimp only at hSw); go_simp; try with_reducible rfl)
                  try simp only [List.getElem_toArray, List.getElem_cons_zero, List.getElem_cons_succ, Act.put, List.setIfInBounds_toArray, List.set_cons_zero, List.set_cons_succ]
                  refine wpAnyH_take (i := 7) (v := ?_) rfl (by kernel_rfl) (by kernel_rfl) (by kernel_rfl) (fun _ _ _ h => h) (Or.inl ⟨by rfl, ?_⟩) (by assumption) ?_
                  rotate_left 1
                  · (intro wS hSw; (try dsimp only at hSw); go_simp; try with_reducible rfl)
                  try simp only [List.getElem_toArray, List.getElem_cons_zero, List.getElem_cons_succ, Act.put, List.setIfInBounds_toArray, List.set_cons_zero, List.set_cons_succ]
                  refine wpAnyH_take (i := 8) (v := ?_) rfl (by kernel_rfl) (by kernel_rfl) (by kernel_rfl) (fun _ _ _ h => h) (Or.inl ⟨by rfl, ?_⟩) (by assumption) ?_
                  rotate_left 1
                  · (intro wS hSw; (try dsimp only at hSw); go_simp; try with_reducible rfl)
                  try simp only [List.getElem_toArray, List.getElem_cons_zero, List.getElem_cons_succ, Act.put, List.setIfInBounds_toArray, List.set_cons_zero, List.set_cons_succ]
                  obtain ⟨x7, h7⟩ : ∃ x, (115 :: 116 :: 114 :: 101 :: 101 :: 116 :: 32 :: xf : List UInt8) = x := ⟨_, rfl⟩
                  have l7 : x7.length ≤ 1000010 := by rw [← h7]; simp; omega
                  rw [h7]
                  have g2 : ¬ (9223372036854775807 : Nat) < x7.length + 1 := by omega
                  have H7 := Lib.hid h7
                  clear h7 g1
                  refine wpAnyH_take (i := 9) (v := ?_) rfl (by kernel_rfl) (by kernel_rfl) (by kernel_rfl) (fun _ _ _ h => h) (Or.inl ⟨by rfl, ?_⟩) (by assumption) ?_
                  rotate_left 1
                  · (intro wS hSw; (try dsimp only at hSw); go_simp; try with_reducible rfl)
                  try simp only [List.getElem_toArray, List.getElem_cons_zero, List.getElem_cons_succ, Act.put, List.setIfInBounds_toArray, List.set_cons_zero, List.set_cons_succ]
                  obtain ⟨x8, h8⟩ : ∃ x, x7 ++ [32] = x := ⟨_, rfl⟩
                  have l8 : x8.length ≤ 1000020 := by rw [← h8]; simp; omega
                  rw [h8]
                  have H8 := Lib.hid h8
                  clear h8 g2
                  refine wpAnyH_take (i := 10) (v := ?_) rfl (by kernel_rfl) (by kernel_rfl) (by kernel_rfl) (fun _ _ _ h => h) (Or.inl ⟨by rfl, ?_⟩) (by assumption) ?_
                  rotate_left 1
                  · (intro wS hSw; (try dsimp only at hSw); go_simp; try with_reducible rfl)
                  try simp only [List.getElem_toArray, List.getElem_cons_zero, List.getElem_cons_succ, Act.put, List.setIfInBounds_toArray, List.set_cons_zero, List.set_cons_succ]
                  refine wpAnyH_take (i := 11) (v := ?_) rfl (by kernel_rfl) (by kernel_rfl) (by kernel_rfl) (fun _ _ _ h => h) (Or.inl ⟨by rfl, ?_⟩) (by assumption) ?_
                  rotate_left 1
                  · (intro wS hSw; (try dsimp only at hSw); go_simp; try with_reducible rfl)
                  try simp only [List.getElem_toArray, List.getElem_cons_zero, List.getElem_cons_succ, Act.put, List.setIfInBounds_toArray, List.set_cons_zero, List.set_cons_succ]
                  refine wpAnyH_take (i := 12) (v := ?_) rfl (by kernel_rfl) (by kernel_rfl) (by kernel_rfl) (fun _ _ _ h => h) (Or.inl ⟨by rfl, ?_⟩) (by assumption) ?_
                  rotate_left 1
                  · (intro wS hSw; (try dsimp only at hSw); go_simp; try with_reducible rfl)
                  try simp only [List.getElem_toArray, List.getElem_cons_zero, List.getElem_cons_succ, Act.put, List.setIfInBounds_toArray, List.set_cons_zero, List.set_cons_succ]
                  refine wpAnyH_take (i := 13) (v := ?_) rfl (by kernel_rfl) (by kernel_rfl) (by kernel_rfl) (fun _ _ _ h => h) (Or.inl ⟨by rfl, ?_⟩) (by assumption) ?_
                  rotate_left 1
                  · (intro wS hSw; (try dsimp only at hSw); go_simp; try with_reducible rfl)
                  try simp only [List.getElem_toArray, List.getElem_cons_zero, List.getElem_cons_succ, Act.put, List.setIfInBounds_toArray, List.set_cons_zero, List.set_cons_succ]
                  refine wpAnyH_take (i := 14) (v := ?_) rfl (by kernel_rfl) (by kernel_rfl) (by kernel_rfl) (fun _ _ _ h => h) (Or.inl ⟨by rfl, ?_⟩) (by assumption) ?_
                  rotate_left 1
                  · (intro wS hSw; (try dsimp only at hSw); go_simp; try with_reducible rfl)
                  try simp only [List.getElem_toArray, List.getElem_cons_zero, List.getElem_cons_succ, Act.put, List.setIfInBounds_toArray, List.set_cons_zero, List.set_cons_succ]
                  refine wpAnyH_take (i := 15) (v := ?_) rfl (by kernel_rfl) (by kernel_rfl) (by kernel_rfl) (fun _ _ _ h => h) (Or.inl ⟨by rfl, ?_⟩) (by assumption) ?_
                  rotate_left 1
                  · (intro wS hSw; (try dsimp only at hSw); go_simp; try with_reducible rfl)
                  try simp only [List.getElem_toArray, List.getElem_cons_zero, List.getElem_cons_succ, Act.put, List.setIfInBounds_toArray, List.set_cons_zero, List.set_cons_succ]
                  refine wpAnyH_take (i := 16) (v := ?_) rfl (by kernel_rfl) (by kernel_rfl) (by kernel_rfl) (fun _ _ _ h => h) (Or.inl ⟨by rfl, ?_⟩) (by assumption) ?_
                  rotate_left 1
                  · (intro wS hSw; (try dsimp only at hSw); go_simp; try with_reducible rfl)
                  try simp only [List.getElem_toArray, List.getElem_cons_zero, List.getElem_cons_succ, Act.put, List.setIfInBounds_toArray, List.set_cons_zero, List.set_cons_succ]
                  have g3 : ¬ (9223372036854775807 : Nat) < x8.length + xt.length := by omega
                  refine wpAnyH_take (i := 17) (v := ?_) rfl (by kernel_rfl) (by kernel_rfl) (by kernel_rfl) (fun _ _ _ h => h) (Or.inl ⟨by rfl, ?_⟩) (by assumption) ?_
                  rotate_left 1
                  · (intro wS hSw; (try dsimp only at hSw); go_simp; try with_reducible rfl)
                  try simp only [List.getElem_toArray, List.getElem_cons_zero, List.getElem_cons_succ, Act.put, List.setIfInBounds_toArray, List.set_cons_zero, List.set_cons_succ]
                  obtain ⟨x9, h9⟩ : ∃ x, x8 ++ xt = x := ⟨_, rfl⟩
                  have l9 : x9.length ≤ 2000040 := by rw [← h9]; simp; omega
                  rw [h9]
                  have H9 := Lib.hid h9
                  have g4 : ¬ (9223372036854775807 : Nat) < x9.length + 1 := by omega
                  clear h9 g3
                  refine wpAnyH_take (i := 18) (v := ?_) rfl (by kernel_rfl) (by kernel_rfl) (by kernel_rfl) (fun _ _ _ h => h) (Or.inl ⟨by rfl, ?_⟩) (by assumption) ?_
                  rotate_left 1
                  · (intro wS hSw; (try dsimp only at hSw); go_simp; try with_reducible rfl)
                  try simp only [List.getElem_toArray, List.getElem_cons_zero, List.getElem_cons_succ, Act.put, List.setIfInBounds_toArray, List.set_cons_zero, List.set_cons_succ]
                  obtain ⟨x10, h10⟩ : ∃ x, x9 ++ [10] = x := ⟨_, rfl⟩
                  have l10 : x10.length ≤ 2000050 := by rw [← h10]; simp; omega
                  rw [h10]
                  have H10 := Lib.hid h10
                  have g5 : ¬ (9223372036854775807 : Nat) < acc.length + x10.length := by omega
                  clear h10 g4
                  refine wpAnyH_take (i := 19) (v := ?_) rfl (by kernel_rfl) (by kernel_rfl) (by kernel_rfl) (fun _ _ _ h => h) (Or.inl ⟨by rfl, ?_⟩) (by assumption) ?_
                  rotate_left 1
                  · (intro wS hSw; (try dsimp only at hSw); go_simp; try with_reducible rfl)
                  try simp only [List.getElem_toArray, List.getElem_cons_zero, List.getElem_cons_succ, Act.put, List.setIfInBounds_toArray, List.set_cons_zero, List.set_cons_succ]
                  clear g5
                  refine wpAnyH_ready (rs := [20]) (by kernel_rfl) (by simp) ?_
                  refine AllReadyH.cons rfl (fun K hK => ?_) AllReadyH.nil
                  go_simp
                  skip
                  refine hK.out _ _ (⟨p3, c0, c1⟩) (fun hHeld => ?_)
                  clear hK K
                  try simp only [List.getElem_toArray, List.getElem_cons_zero, List.getElem_cons_succ, Act.put, List.setIfInBounds_toArray, List.set_cons_zero, List.set_cons_succ]
                  refine wpAnyH_done (by kernel_rfl) ?_ _
                  refine NoPanic.normal ?_
                  have HX := Lib.hid (show x10 = streetLine (xf, xt) by rw [← H10.out, ← H9.out, ← H8.out, ← H7.out]; simp [streetLine, joinL])
                  clear p0 p1 p2 p3 c0 c1
                  go_wp2_with fail
                  go_roundw
                  case rel => exact ⟨k + 1, mm + 1, by omega, by go_num, by rw [HT.out, List.flatMap_append, ← List.append_assoc, HA.out, HX.out]; simp, drewN_one wu mm⟩
                  case measure => simp [intOf]; omega
                · have hq : decide ((k : Int) < R.length) = false := by simp; omega
                  rw [List.take_of_length_le (by omega)]
                  have HFin := Lib.hid (show a3 ++ R.flatMap streetLine = textL ⟨F, ⟨T, N, R⟩⟩ by rw [← Ha3.out, ← Ha2.out, ← Ha1.out]; simp [textL, List.append_assoc])
                  rw [HFin.out]
                  go_wp2_with fail
                  go_ret
                  exact ⟨rfl, HBD.out⟩
theorem room_valid {s : SchemaL} (h : checkS s = 0) : Room s 1000000 := by
  obtain ⟨g1, _, g3⟩ := check_fields h
  obtain ⟨⟨n1, n2, n3⟩, _⟩ := check_zero g3
  exact ⟨by omega, by omega, by omega, by omega⟩
set_option maxHeartbeats 2000000 in
theorem rtext_any (S : Nat → Prop) (vf vt vn vs : Value) (s : SchemaL) (w : World) (h : SchemaAt w S vf vt vn vs s) (p : List UInt8 × Int) (hp : p = textN s) :
    Calls Tryz.prog 35 #[.agg #[vf, vt, vn, vs]] w fun e w' => e = .returned (pairV p) ∧ Below w.heap.size w w' := by
  have HS := Lib.hid h.any
  have K := rscheck_any Any1 vf vt vn vs s (w.alloc (.cells #[vf, vt, vn, vs] 33)) (HS.out.below ((Below.refl _ _).alloc (Nat.le_refl _) _))
  obtain ⟨c, hc⟩ : ∃ c, checkS s = c := ⟨_, rfl⟩
  rw [hc] at K
  have HK := Lib.hid K; have HP := Lib.hid hp; have HC := Lib.hid hc
  clear h K hp hc
  have b0 := (Below.refl w.heap.size w).alloc (Nat.le_refl _) (.cells #[vf, vt, vn, vs] 33)
  have HB0 := Lib.hid b0; clear b0
  by_cases h0 : c = 0
  · subst h0
    have HE := Lib.hid (show p = (textL s, 0) by rw [HP.out]; unfold textN; rw [if_pos HC.out])
    go_enter Tryz.func35, Tryz.ntmps35
    go_wp2_with fail
    refine HK.out.mono ?_
    rintro e w1 ⟨rfl, hb1⟩
    have HB1 := Lib.hid (HB0.out.trans (hb1.mono (by simp)))
    have HX1 := Lib.hid (blk_below (b := w.heap.size) (o := .cells #[vf, vt, vn, vs] 33 (0, 0)) hb1 (by simp) (blk_new rfl))
    clear hb1
    have z0 := lt_of_blk HX1.out
    obtain ⟨p0, p1, p2, p3⟩ := cells4 HX1.out
    go_wp2_with fail
    refine (rwritten_any Any1 vf vt vn vs s _ (HS.out.below HB1.out) (fun x hx => ((check_words HC.out).1 x hx).2) (by have := text_bound HC.out; omega) (room_valid HC.out)).mono ?_
    rintro e w2 ⟨rfl, hb2⟩
    have HB2 := Lib.hid (HB1.out.trans (hb2.mono HB1.out.size))
    clear hb2
    go_wp2_with fail
    go_ret2
    exact ⟨by rw [HE.out]; rfl, HB2.out⟩
  · have HE := Lib.hid (show p = ([], c) by rw [HP.out]; unfold textN; rw [if_neg (by rw [HC.out]; exact h0), HC.out])
    have q1 : (c != 0) = true := by simpa using h0
    clear h0
    go_enter Tryz.func35, Tryz.ntmps35
    go_wp2_with fail
    refine HK.out.mono ?_
    rintro e w1 ⟨rfl, hb1⟩
    have HB1 := Lib.hid (HB0.out.trans (hb1.mono (by simp)))
    clear hb1
    go_wp2_with fail
    go_ret2
    exact ⟨by rw [HE.out]; rfl, HB1.out⟩
end Go.Proofs.YtfgoiojmbphmnaaGreatDoor
end
section
/- Plain law: the reference's way to read the text of a schema gives what the program's gives. -/
set_option linter.unusedSimpArgs false
set_option linter.unusedVariables false
set_option maxRecDepth 100000
namespace Go.Proofs.YtfgoiojmbphmnaaGreatDoor
open Go.RowKit Cal
def refA : List UInt8 → SchemaL → List UInt8 → Option (SchemaL × List UInt8)
  | p, s, [] => some (s, p)
  | p, s, c :: r => if c == 10 then (if (readN s (toks p)).1 < 0 then none else refA [] (readN s (toks p)).2 r) else refA (p ++ [c]) s r
def refN (t : List UInt8) : SchemaL × Int :=
  if 65536 < t.length then (nilS, 1) else match refA [] nilS t with
    | none => (nilS, 14)
    | some (s, p) => if p = [] ∧ textL s = t then (if checkS s = 0 then (s, 0) else (nilS, checkS s)) else (nilS, 14)
theorem toksA_spl (l : List UInt8) : ∀ p, [] ∉ splC 32 p l → toksA p l = splC 32 p l := by
  induction l with
  | nil =>
    intro p h
    simp only [splC, List.mem_singleton] at h
    simp [toksA, splC]
    exact fun e => h e.symm
  | cons c l ih =>
    intro p h
    by_cases hc : c = 32
    · subst hc
      simp only [splC, beq_self_eq_true, if_true, List.mem_cons, not_or] at h ⊢
      rw [toksA_sp _ _ (fun e => h.1 e.symm), ih [] h.2]
    · have hb : (c == 32) = false := by simpa using hc
      simp only [splC, hb, Bool.false_eq_true, if_false] at h ⊢
      rw [toksA_ch _ _ _ hc, ih _ h]
theorem readN_neg {s : SchemaL} {W : List (List UInt8)} (h : ¬ (readN s W).1 < 0) : [] ∉ W := by
  intro h0; apply h; rw [read_none h0]; show (-1 : Int) < 0; decide
/-- what the program reads the reference reads -/
theorem ref_of_parse (t : List UInt8) : ∀ p s last s', 0 ≤ last → parseA p s last t = some s' → refA p s t = some (s', []) := by
  induction t with
  | nil =>
    intro p s last s' _ h
    simp only [parseA] at h
    split at h
    · rename_i hp; subst hp; cases h; rfl
    · cases h
  | cons c t ih =>
    intro p s last s' hl h
    simp only [parseA] at h
    simp only [refA]
    split at h
    · rename_i hc
      rw [if_pos hc]
      split at h
      · cases h
      · rename_i hk
        have hk0 : ¬ (readN s (splC 32 [] p)).1 < 0 := by omega
        have e : toks p = splC 32 [] p := toksA_spl p [] (readN_neg hk0)
        rw [e, if_neg hk0]
        exact ih _ _ _ _ (by omega) h
    · rename_i hc
      rw [if_neg hc]
      exact ih _ _ _ _ hl h
/-- a schema whose words are words -/
structure Good (s : SchemaL) : Prop where
  f : ∀ x ∈ s.fields, okW x.1 ∧ 1 ≤ x.2 ∧ x.2 ≤ 4
  t : ∀ t ∈ s.rules.titles, okW t
  n : ∀ p ∈ s.rules.nicks, okW p.1 ∧ okW p.2
  s : ∀ p ∈ s.rules.streets, okW p.1 ∧ okW p.2
theorem Good.parse {s : SchemaL} (h : Good s) : parseA [] nilS 0 (textL s) = some s := by
  obtain ⟨w1, w2, w3, w4⟩ := h
  unfold textL nilS
  rw [back_fields _ s.fields [] w1]
  obtain ⟨l1, k1, e1⟩ := back_titles (s.rules.nicks.flatMap nickLine ++ s.rules.streets.flatMap streetLine) ([] ++ s.fields) [] [] s.rules.titles [] w2 0 (by omega)
  rw [e1]
  obtain ⟨l2, k2, e2⟩ := back_nicks (s.rules.streets.flatMap streetLine) ([] ++ s.fields) ([] ++ s.rules.titles) [] s.rules.nicks [] w3 l1 (by omega)
  rw [e2]
  obtain ⟨l3, k3, e3⟩ := back_streets [] ([] ++ s.fields) ([] ++ s.rules.titles) ([] ++ s.rules.nicks) s.rules.streets [] w4 l2 (by omega)
  rw [List.append_nil] at e3
  rw [e3]
  simp [parseA]
theorem Good.read {s : SchemaL} (h : Good s) {W : List (List UInt8)} (hw : ∀ t ∈ W, okW t) : Good (readN s W).2 := by
  obtain ⟨w1, w2, w3, w4⟩ := h
  unfold readN
  split
  · exact ⟨w1, w2, w3, w4⟩
  · split
    · rename_i a b c hn
      have hb := hw b (by simp)
      have hc := hw c (by simp)
      split
      · split
        · exact ⟨w1, w2, w3, w4⟩
        · rename_i hk
          obtain ⟨_, k1, k4⟩ := kindW_num c hk
          refine ⟨fun x hx => ?_, w2, w3, w4⟩
          rcases List.mem_append.1 hx with hx | hx
          · exact w1 x hx
          · have := List.mem_singleton.1 hx; subst this; exact ⟨hb, k1, k4⟩
      · split
        · refine ⟨w1, w2, fun x hx => ?_, w4⟩
          rcases List.mem_append.1 hx with hx | hx
          · exact w3 x hx
          · have := List.mem_singleton.1 hx; subst this; exact ⟨hb, hc⟩
        · split
          · refine ⟨w1, w2, w3, fun x hx => ?_⟩
            rcases List.mem_append.1 hx with hx | hx
            · exact w4 x hx
            · have := List.mem_singleton.1 hx; subst this; exact ⟨hb, hc⟩
          · exact ⟨w1, w2, w3, w4⟩
    · rename_i a b hn
      have hb := hw b (by simp)
      split
      · refine ⟨w1, fun x hx => ?_, w3, w4⟩
        rcases List.mem_append.1 hx with hx | hx
        · exact w2 x hx
        · have := List.mem_singleton.1 hx; subst this; exact hb
      · exact ⟨w1, w2, w3, w4⟩
    · exact ⟨w1, w2, w3, w4⟩
theorem toks_okW {p : List UInt8} (h : ∀ b ∈ p, b ≠ 10) : ∀ t ∈ toks p, okW t := by
  intro t ht
  refine ⟨toksA_ne _ [] t ht, fun b hb => ?_⟩
  rcases toksA_mem _ [] t ht b hb with h1 | h1
  · simp at h1
  · exact ⟨h1.2, h b h1.1⟩
theorem refA_good (t : List UInt8) : ∀ p s s' q, Good s → (∀ b ∈ p, b ≠ 10) → refA p s t = some (s', q) → Good s' := by
  induction t with
  | nil => intro p s s' q hg _ h; simp only [refA] at h; cases h; exact hg
  | cons c t ih =>
    intro p s s' q hg hp h
    simp only [refA] at h
    split at h
    · split at h
      · cases h
      · exact ih _ _ _ _ (hg.read (toks_okW hp)) (by simp) h
    · rename_i hc
      refine ih _ _ _ _ hg (fun b hb => ?_) h
      rcases List.mem_append.1 hb with hb | hb
      · exact hp b hb
      · have := List.mem_singleton.1 hb; subst this; simpa using hc
theorem nil_good : Good nilS := ⟨by simp [nilS], by simp [nilS], by simp [nilS], by simp [nilS]⟩
theorem ref_parse (t : List UInt8) : refN t = parseN t := by
  unfold refN parseN
  split
  · rfl
  · cases hp : parseA [] nilS 0 t with
    | some s =>
      have h1 := ref_of_parse t [] nilS 0 s (by omega) hp
      have h2 := parseA_text t [] nilS 0 s ⟨by omega, fun _ => rfl, fun _ => rfl, fun _ => rfl⟩ hp
      rw [h1]
      dsimp only
      rw [if_pos ⟨rfl, by rw [h2]; rfl⟩]
    | none =>
      cases hr : refA [] nilS t with
      | none => rfl
      | some x =>
        obtain ⟨s, p⟩ := x
        dsimp only
        rw [if_neg]
        rintro ⟨rfl, ht⟩
        have hg := (refA_good t [] nilS s [] nil_good (by simp) hr).parse
        rw [ht, hp] at hg
        cases hg
theorem read_len {s : SchemaL} {W : List (List UInt8)} (h : ¬ (readN s W).1 < 0) : (textL (readN s W).2).length = (textL s).length + (joinL W).length + 1 := by
  unfold readN at h ⊢
  split at h
  · exfalso; apply h; show (-1 : Int) < 0; decide
  · rename_i hn
    rw [if_neg hn]
    split at h
    · rename_i a b c
      split at h
      · rename_i ha
        subst ha
        rw [if_pos rfl]
        split at h
        · exfalso; apply h; show (-1 : Int) < 0; decide
        · rename_i hk
          rw [if_neg hk]
          obtain ⟨e, _, _⟩ := kindW_num c hk
          simp [textL, addF, fieldLine, e, fieldW, joinL]; omega
      · rename_i ha
        rw [if_neg ha]
        split at h
        · rename_i hb
          subst hb
          rw [if_pos rfl]
          simp [textL, addN, nickLine, nickW, joinL]; omega
        · rename_i hb
          rw [if_neg hb]
          split at h
          · rename_i hc
            subst hc
            rw [if_pos rfl]
            simp [textL, addS, streetLine, streetW, joinL]; omega
          · exfalso; apply h; show (-1 : Int) < 0; decide
    · rename_i a b
      split at h
      · rename_i ha
        subst ha
        rw [if_pos rfl]
        simp [textL, addT, titleLine, titleW, joinL]; omega
      · exfalso; apply h; show (-1 : Int) < 0; decide
    · exfalso; apply h; show (-1 : Int) < 0; decide
theorem flat_count {α : Type} (g : α → List UInt8) (h : ∀ x, 1 ≤ (g x).length) (L : List α) : L.length ≤ (L.flatMap g).length := by
  induction L with
  | nil => simp
  | cons x L ih => have := h x; rw [List.flatMap_cons, List.length_append, List.length_cons]; omega
theorem room_text (s : SchemaL) : Room s (textL s).length := by
  have h1 := flat_count fieldLine (fun x => by unfold fieldLine; simp) s.fields
  have h2 := flat_count titleLine (fun x => by unfold titleLine; simp) s.rules.titles
  have h3 := flat_count nickLine (fun x => by unfold nickLine; simp) s.rules.nicks
  have h4 := flat_count streetLine (fun x => by unfold streetLine; simp) s.rules.streets
  have e : (textL s).length = (s.fields.flatMap fieldLine).length + ((s.rules.titles.flatMap titleLine).length + ((s.rules.nicks.flatMap nickLine).length + (s.rules.streets.flatMap streetLine).length)) := by unfold textL; simp only [List.length_append]
  exact ⟨by omega, by omega, by omega, by omega⟩
end Go.Proofs.YtfgoiojmbphmnaaGreatDoor
end
section
/- The reference of layer 12 (schema): Parse. -/
set_option linter.unusedSimpArgs false
set_option linter.unusedVariables false
set_option maxRecDepth 100000
namespace Go.Proofs.YtfgoiojmbphmnaaGreatDoor
open Go.RowKit Cal
attribute [local go_sem] toList_mk mk_size bytes_append
/-- while the reference reads a text: k bytes are read, p is the line that has begun -/
structure RIn (w W1 : World) (t : List UInt8) (s : SchemaL) (p : List UInt8) (k : Nat) (vf vt vn vs : Value) (wr : World) : Prop where
  pa : PAt (w.heap.size + 1) (w.heap.size + 1) vf vt vn vs s wr
  b : Below (w.heap.size + 1) W1 wr
  eq : refA [] nilS t = refA p s (t.drop k)
  len : (textL s).length + p.length ≤ k
  k : k ≤ t.length
  good : Good s
  no : ∀ b ∈ p, b ≠ 10
theorem RIn.room {w W1 wr : World} {t p : List UInt8} {s : SchemaL} {k : Nat} {vf vt vn vs : Value} (h : RIn w W1 t s p k vf vt vn vs wr) (ht : t.length ≤ 65536) : Room s 65536 := by
  obtain ⟨r1, r2, r3, r4⟩ := room_text s
  have := h.len; have := h.k
  exact ⟨by omega, by omega, by omega, by omega⟩
def kindUp (x : Int) (m : Nat) : Int := if 1 ≤ x ∧ x < m then x else 0
theorem kindNum_bd (c : List UInt8) : 0 ≤ kindNum c ∧ kindNum c ≤ 4 := by
  unfold kindNum
  repeat' split
  all_goals omega
theorem kindUp_step (c : List UInt8) (m : Nat) (h1 : 1 ≤ m) (h4 : m ≤ 4) : kindUp (kindNum c) (m + 1) = if kindW (m : Int) = c then (m : Int) else kindUp (kindNum c) m := by
  unfold kindUp
  by_cases h : kindW (m : Int) = c
  · have := (kindNum_W (m : Int) (by omega) (by omega)).1
    rw [h] at this
    rw [if_pos h, this, if_pos (by omega)]
  · have hne : kindNum c ≠ (m : Int) := fun e => h (by
      have := (kindW_num c (by omega)).1
      rw [e] at this; exact this)
    rw [if_neg h]
    by_cases h2 : 1 ≤ kindNum c ∧ kindNum c < m
    · rw [if_pos h2, if_pos (by omega)]
    · rw [if_neg h2, if_neg (by omega)]
theorem kindUp_end (c : List UInt8) : kindUp (kindNum c) 5 = kindNum c := by
  have := kindNum_bd c
  unfold kindUp
  by_cases h : 1 ≤ kindNum c ∧ kindNum c < (5 : Nat)
  · rw [if_pos h]
  · rw [if_neg h]; omega
set_option maxHeartbeats 16000000 in
theorem rparse_yes (x : ByteArray) (w : World) (ht : x.size ≤ 65536) (r : SchemaL × Int) (hr : r = refN x.data.toList) :
    Calls Tryz.prog 37 #[.string x] w (ParsePost r w) := by
  have hl : x.data.toList.length = x.size := by simp
  have d1 : decide ((65536 : Int) < x.size) = false := by simp; omega
  have HR := Lib.hid hr; have HL := Lib.hid hl
  clear hr
  obtain ⟨t, htl⟩ : ∃ t, x.data.toList = t := ⟨_, rfl⟩
  rw [htl] at hl
  have HT := Lib.hid htl
  have htz : t.length ≤ 65536 := by omega
  clear htl
  go_enter Tryz.func37, Tryz.ntmps37
  go_wp2_with fail
  clear d1
  refine wp_world (fun W1 hW1 => ?_)
  have b1 : Below w.heap.size w W1 := by rw [hW1]; exact ((Below.refl _ _).alloc (Nat.le_refl _) _).alloc (by simp) _
  have x0 : W1.heap[w.heap.size]? = some (.cells nil4 33 (0, 0)) := by rw [hW1]; exact blk_old (blk_new rfl)
  have x1 : W1.heap[w.heap.size + 1]? = some (.cells nil4 33 (0, 0)) := by rw [hW1]; exact blk_new (by simp)
  have K0 := Lib.hid (show RIn w W1 t nilS [] 0 (.slice none 0 0) (.slice none 0 0) (.slice none 0 0) (.slice none 0 0) W1 from
    ⟨⟨x1, ⟨rfl, .inl ⟨rfl, rfl⟩⟩, ⟨rfl, .inl ⟨rfl, rfl⟩⟩, ⟨rfl, .inl ⟨rfl, rfl⟩⟩, ⟨rfl, .inl ⟨rfl, rfl⟩⟩, .inl rfl, Nat.le_refl _⟩, Below.refl _ _, rfl, Nat.le_refl _, Nat.zero_le _, nil_good, by simp⟩)
  have HB1 := Lib.hid b1
  have HX0 := Lib.hid (show ∀ w', Below (w.heap.size + 1) W1 w' → w'.heap[w.heap.size]? = some (.cells nil4 33 (0, 0)) from fun w' hb => blk_below hb (Nat.lt_succ_self _) x0)
  have z1 := lt_of_blk x1
  clear hW1 b1 x0 x1
  go_loopw [5, 6] (fun t5 t6 wr => ∃ (s : SchemaL) (p : List UInt8) (k : Nat) (vf vt vn vs : Value), t6 = .int .i64 k ∧ t5 = strV p ∧ RIn w W1 t s p k vf vt vn vs wr) (fun _ t6 _ => x.size - (intOf t6).toNat)
  case atStart => exact ⟨nilS, [], 0, _, _, _, _, rfl, rfl, K0.out⟩
  case round =>
    obtain ⟨s, p, k, vf, vt, vn, vs, rfl, rfl, hp⟩ := hrel
    have K := Lib.hid hp
    have hpl : p.length ≤ 65536 := by have := hp.len; have := hp.k; omega
    have hkt : k ≤ x.size := by have := hp.k; omega
    have zY := lt_of_blk hp.pa.y
    clear hp K0
    by_cases hlt : k < x.size
    · have hq : decide ((k : Int) < x.size) = true := by simp; omega
      have hdr := drop_one x k hlt
      rw [HT.out] at hdr
      by_cases hc10 : x[k] = 10
      · have e1 : ((x[k].toNat : Int) != 10) = false := by rw [hc10]; rfl
        rw [hc10] at hdr
        have hstep : refA p s (t.drop k) = if (readN s (toks p)).1 < 0 then none else refA [] (readN s (toks p)).2 (t.drop (k + 1)) := by rw [hdr]; simp [refA]
        have HNext := Lib.hid (show ∀ (c : Int) (s' : SchemaL), readN s (toks p) = (c, s') → ¬ c < 0 → ∀ uf ut un us w', PAt (w.heap.size + 1) (w.heap.size + 1) uf ut un us s' w' → Below (w.heap.size + 1) W1 w' → RIn w W1 t s' [] (k + 1) uf ut un us w' from fun c s' hrd hc uf ut un us w' h1 h2 => by
          have hneg : ¬ (readN s (toks p)).1 < 0 := by rw [hrd]; exact hc
          have hln := read_len hneg
          have hjl := (toksA_len p []).1
          have hg := K.out.good.read (W := toks p) (toks_okW K.out.no)
          rw [hrd] at hln hg
          refine ⟨h1, h2, ?_, ?_, by omega, hg, by simp⟩
          · rw [K.out.eq, hstep, if_neg hneg, hrd]
          · have := K.out.len
            have e : toks p = toksA [] p := rfl
            rw [e] at hln
            simp at hjl hln ⊢; omega)
        have HBad := Lib.hid (show ∀ y : Int × SchemaL, readN s (toks p) = y → y.1 < 0 → r = (nilS, 14) from fun y hy h => by
          rw [HR.out, HT.out]; unfold refN; rw [if_neg (by omega), K.out.eq, hstep, hy, if_pos h])
        have hroom := K.out.room htz
        have HRm := Lib.hid hroom
        clear hdr hstep hc10 hroom
        go_wp2_with fail
        have hrt := rtokens_any ⟨p.toArray⟩ wr (by rw [mk_size]; omega)
        rw [show (⟨p.toArray⟩ : ByteArray).data.toList = p by simp] at hrt
        refine hrt.mono ?_
        clear hrt
        have h0 : [] ∉ toks p := fun hm => toksA_ne _ [] _ hm rfl
        obtain ⟨W, hW⟩ : ∃ W, toks p = W := ⟨_, rfl⟩
        rw [hW] at HNext HBad h0 ⊢
        have H0 := Lib.hid h0
        clear hW
        rintro e wS ⟨v7, rfl, ho⟩
        have hvw := (OwnV.vec (enc := encS) (fun _ => rfl) ho).any
        have HPW := Lib.hid (K.out.pa.below ho.2)
        have HBS := Lib.hid (K.out.b.trans (ho.2.mono (Nat.le_of_lt zY)))
        have zS := ho.2.size
        have hsR := HRm.out
        obtain ⟨af, cf, haf⟩ := own_slice HPW.out.f
        obtain ⟨at', ct, hat⟩ := own_slice HPW.out.t
        obtain ⟨an, cn, han⟩ := own_slice HPW.out.n
        obtain ⟨as', cs, has⟩ := own_slice HPW.out.s
        subst haf hat han has
        have hl1 := hsR.f; have hl2 := hsR.t; have hl3 := hsR.n; have hl4 := hsR.s
        clear ho e1 K h0 hsR
        by_cases h2 : W.length = 2
        · obtain ⟨a, b, rfl⟩ := len_two h2
          obtain ⟨bw, ow, cw, rfl, zbS, q0, q1⟩ := words_two hvw
          clear h2 hvw
          by_cases h1 : a = titleW
          · subst h1
            have HRd := Lib.hid (show readN s [titleW, b] = (1, addT s b) by unfold readN; rw [if_neg H0.out]; dsimp only; rw [if_pos rfl])
            unfold titleW at q0
            go_wp2_with fail
            clear q0
            obtain ⟨i0, hi, hz0, hz1, hz2⟩ := info_parts infoS
            have HI := Lib.hid hi; have HZ0 := Lib.hid hz0; have HZ1 := Lib.hid hz1; have HZ2 := Lib.hid hz2
            clear hi hz0 hz1 hz2
            have y0 := cells4 HPW.out.y
            have qy := y0.2.1
            have gy := (frozen_of_row _ _ _ _ _ HPW.out.y : wS.frozen? ⟨w.heap.size + 1, 1, none⟩ = false)
            have zYS := lt_of_blk HPW.out.y
            have hBS : w.heap.size + 1 ≤ wS.heap.size := by omega
            clear y0
            refine wp_region_noPanic ?_
            refine wp_region_k (by kernel_rfl) (fun w' => w'.cell? ⟨w.heap.size + 1, 1, none⟩ = some (.slice at' s.rules.titles.length ct) ∧ w'.cell? ⟨bw, ow + 1, none⟩ = some (strV b)) 7 (⟨qy, q1⟩) (fun hHeld => ?_)
            refine wpAnyK_take (i := 0) (v := ?_) rfl (by kernel_rfl) (by kernel_rfl) (by kernel_rfl) (by kernel_rfl) (fun _ _ _ h => h) (Or.inl ⟨by rfl, ?_⟩) (by assumption) ?_
            rotate_left 1
            · (intro wS hSw; (try dsimp only at hSw); go_simp; try with_reducible rfl)
            try simp only [List.getElem_toArray, List.getElem_cons_zero, List.getElem_cons_succ, Act.put, List.setIfInBounds_toArray, List.set_cons_zero, List.set_cons_succ]
            refine wpAnyK_take (i := 1) (v := ?_) rfl (by kernel_rfl) (by kernel_rfl) (by kernel_rfl) (by kernel_rfl) (fun _ _ _ h => h) (Or.inl ⟨by rfl, ?_⟩) (by assumption) ?_
            rotate_left 1
            · (intro wS hSw; (try dsimp only at hSw); go_simp; try with_reducible rfl)
            try simp only [List.getElem_toArray, List.getElem_cons_zero, List.getElem_cons_succ, Act.put, List.setIfInBounds_toArray, List.set_cons_zero, List.set_cons_succ]
            refine wpAnyK_take (i := 2) (v := ?_) rfl (by kernel_rfl) (by kernel_rfl) (by kernel_rfl) (by kernel_rfl) (fun _ _ _ h => h) (Or.inl ⟨by rfl, ?_⟩) (by assumption) ?_
            rotate_left 1
            · (intro wS hSw; (try dsimp only at hSw); go_simp; try with_reducible rfl)
            try simp only [List.getElem_toArray, List.getElem_cons_zero, List.getElem_cons_succ, Act.put, List.setIfInBounds_toArray, List.set_cons_zero, List.set_cons_succ]
            refine wpAnyK_take (i := 3) (v := ?_) rfl (by kernel_rfl) (by kernel_rfl) (by kernel_rfl) (by kernel_rfl) (fun _ _ _ h => h) (Or.inl ⟨by rfl, ?_⟩) (by assumption) ?_
            rotate_left 1
            · (intro wS hSw; (try dsimp only at hSw); go_simp; try with_reducible rfl)
            try simp only [List.getElem_toArray, List.getElem_cons_zero, List.getElem_cons_succ, Act.put, List.setIfInBounds_toArray, List.set_cons_zero, List.set_cons_succ]
            refine wpAnyK_take (i := 4) (v := ?_) rfl (by kernel_rfl) (by kernel_rfl) (by kernel_rfl) (by kernel_rfl) (fun _ _ _ h => h) (Or.inl ⟨by rfl, ?_⟩) (by assumption) ?_
            rotate_left 1
            · (intro wS hSw; (try dsimp only at hSw); go_simp; try with_reducible rfl)
            try simp only [List.getElem_toArray, List.getElem_cons_zero, List.getElem_cons_succ, Act.put, List.setIfInBounds_toArray, List.set_cons_zero, List.set_cons_succ]
            refine wpAnyK_take (i := 5) (v := ?_) rfl (by kernel_rfl) (by kernel_rfl) (by kernel_rfl) (by kernel_rfl) (fun _ _ _ h => h) (Or.inl ⟨by rfl, ?_⟩) (by assumption) ?_
            rotate_left 1
            · (intro wS hSw; (try dsimp only at hSw); go_simp; try with_reducible rfl)
            try simp only [List.getElem_toArray, List.getElem_cons_zero, List.getElem_cons_succ, Act.put, List.setIfInBounds_toArray, List.set_cons_zero, List.set_cons_succ]
            have bA := ((Below.refl wS.heap.size wS).drew).alloc (Nat.le_refl _) (.cells #[strV b] 9)
            have hown := own_below HPW.out.t bA
            have hnews : ∀ i u, [strV b][i]? = some u → ((wS.drew).alloc (.cells #[strV b] 9)).cell? ((⟨wS.heap.size, 0, none⟩ : Addr).add i) = some u := fun i u hu => by
              have hX : ((wS.drew).alloc (.cells #[strV b] 9)).heap[wS.heap.size]? = some (.cells #[strV b] 9 (0, 0)) := blk_new rfl
              rw [add_plain, cell_of_row _ _ _ _ _ _ hX, Nat.zero_add]; simpa using hu
            have hone : ∀ u ∈ [strV b], u.oneCell' = true := by intro u hu; simp at hu; subst hu; rfl
            refine wpAnyK_ready (rs := [6]) (by kernel_rfl) (by simp) ?_
            refine AllReadyK.cons rfl (fun K hK => ?_) AllReadyK.nil
            go_simp
            skip
            refine shutK hK (⟨(bA.cell (p := ⟨w.heap.size + 1, 1, none⟩) zYS).trans qy, (bA.cell (p := ⟨bw, ow + 1, none⟩) zbS).trans q1⟩) (fun hHeld => ?_)
            clear hK K
            try simp only [List.getElem_toArray, List.getElem_cons_zero, List.getElem_cons_succ, Act.put, List.setIfInBounds_toArray, List.set_cons_zero, List.set_cons_succ]
            refine wpAnyK_ready (rs := [7]) (by kernel_rfl) (by simp) ?_
            refine AllReadyK.cons rfl (fun K hK => ?_) AllReadyK.nil
            refine wp_append_lies _ (.tmp 83) (.tmp 87) 28 (by rfl) (w.heap.size + 1) 9 i0 (.string ⟨#[]⟩) 1 16 Tryz.underlying28 HI.out HZ0.out HZ1.out HZ2.out rfl (by decide) (.slice at' s.rules.titles.length ct) s.rules.titles.length (s.rules.titles.flatMap encS) (by rfl) hown ⟨wS.heap.size, 0, none⟩ 1 1 [strV b] (by rfl) rfl hnews hone (by omega) (by unfold maxLen; omega) (by omega) (by simp; omega) (wS.heap.size + 1) (by simp) ?_; intro g cap w5 hown5 hg5 hat5 hlt5; have cY5 : w5.cell? ⟨w.heap.size + 1, 1, none⟩ = some (.slice at' s.rules.titles.length ct) := (hg5.cell_far ⟨w.heap.size + 1, 1, none⟩ (by simp; omega) (PAt.far_t HPW.out)).trans ((bA.cell (p := ⟨w.heap.size + 1, 1, none⟩) zYS).trans qy); have fY5 : w5.frozen? ⟨w.heap.size + 1, 1, none⟩ = false := (hg5.frozen_far ⟨w.heap.size + 1, 1, none⟩ (by simp; omega) (PAt.far_t HPW.out)).trans ((bA.frozen (p := ⟨w.heap.size + 1, 1, none⟩) zYS).trans gy)
            refine shutK_off hK (by decide) ?_
            clear hK K
            try simp only [List.getElem_toArray, List.getElem_cons_zero, List.getElem_cons_succ, Act.put, List.setIfInBounds_toArray, List.set_cons_zero, List.set_cons_succ]
            have hstep := HPW.out.addT hBS b bA hg5 hown5 (by simpa using hat5)
            have HS5 := Lib.hid hstep
            clear hstep hown5 hg5 hat5 hown hnews hone bA
            refine wpAnyK_ready (rs := [8]) (by kernel_rfl) (by simp) ?_
            refine AllReadyK.cons rfl (fun K hK => ?_) AllReadyK.nil
            go_simp
            skip
            refine shutK_off hK (by decide) ?_
            clear hK K
            try simp only [List.getElem_toArray, List.getElem_cons_zero, List.getElem_cons_succ, Act.put, List.setIfInBounds_toArray, List.set_cons_zero, List.set_cons_succ]
            refine wpAnyK_ready (rs := [9]) (by kernel_rfl) (by simp) ?_
            refine AllReadyK.cons rfl (fun K hK => ?_) AllReadyK.nil
            go_simp
            skip
            refine shutK_off hK (by decide) ?_
            clear hK K
            try simp only [List.getElem_toArray, List.getElem_cons_zero, List.getElem_cons_succ, Act.put, List.setIfInBounds_toArray, List.set_cons_zero, List.set_cons_succ]
            refine wpAnyK_ready (rs := [10]) (by kernel_rfl) (by simp) ?_
            refine AllReadyK.cons rfl (fun K hK => ?_) AllReadyK.nil
            go_simp
            skip
            refine shutK_off hK (by decide) ?_
            clear hK K
            try simp only [List.getElem_toArray, List.getElem_cons_zero, List.getElem_cons_succ, Act.put, List.setIfInBounds_toArray, List.set_cons_zero, List.set_cons_succ]
            refine wpAnyK_done (by kernel_rfl) ?_ _
            refine NoPanic.normal ?_
            have HKN := Lib.hid (HNext.out 1 (addT s b) HRd.out (by decide) _ _ _ _ _ HS5.out.1 (HBS.out.trans HS5.out.2))
            go_wp2_with fail
            go_roundw
            case rel => exact ⟨_, [], k + 1, _, _, _, _, by go_num, rfl, HKN.out⟩
            case measure => simp [intOf]; omega
          · have HRd := Lib.hid (show readN s [a, b] = (-1, s) by unfold readN; rw [if_neg H0.out]; dsimp only; rw [if_neg h1])
            have e1 : (a == [116, 105, 116, 108, 101]) = false := by simpa [titleW] using h1
            clear h1
            have HE14 := Lib.hid (HBad.out _ HRd.out (show (-1 : Int) < 0 by decide))
            have HXw := HX0.out _ HBS.out
            clear HNext
            go_wp2_with (refine wpList_store_row rfl 33 (.tmp 2) (.tmp 34) rfl w.heap.size nil4 rfl rfl 33 nil4 HXw (by kernel_rfl) (by kernel_rfl) (by kernel_rfl) ?_)
            exact bodyPost_row2 rfl rfl (heap_setRow HXw) Tryz.underlying33 rfl (by kernel_rfl) ⟨_, _, _, _, by rw [HE14.out]; rfl, by rw [HE14.out]; exact nil_schema _ _, below_setRow (HB1.out.trans (HBS.out.mono (Nat.le_succ _))) (Nat.le_refl _)⟩
        · by_cases h3 : W.length = 3
          · obtain ⟨a, b, c, rfl⟩ := len_three h3
            obtain ⟨bw, ow, cw, rfl, zbS, q0, q1, q2⟩ := words_three hvw
            clear h2 h3 hvw
            by_cases h1 : a = fieldW
            · subst h1
              have HRd0 := Lib.hid (show readN s [fieldW, b, c] = if kindNum c = 0 then (-1, s) else (0, addF s (b, kindNum c)) by unfold readN; rw [if_neg H0.out]; dsimp only; rw [if_pos rfl])
              have HKb := Lib.hid (kindNum_bd c)
              unfold fieldW at q0
              obtain ⟨wT, rfl⟩ : ∃ wT : World, wT = wS := ⟨_, rfl⟩
              go_wp2_with fail
              clear q0
              go_loopw [8, 9] (fun t8 t9 wr => ∃ m : Nat, 1 ≤ m ∧ m ≤ 5 ∧ t9 = .int .i64 m ∧ t8 = .int .i64 (kindUp (kindNum c) m) ∧ Below wT.heap.size wT wr) (fun _ t9 _ => 5 - (intOf t9).toNat)
              case atStart => exact ⟨1, by omega, by omega, rfl, by unfold kindUp; rw [if_neg (by omega)], Below.refl _ _⟩
              case round =>
                obtain ⟨m, hm1, hm5, rfl, rfl, hbw⟩ := hrel
                by_cases hm4 : m ≤ 4
                · have hq2 : decide ((m : Int) ≤ 4) = true := by simp; omega
                  have q2r := (hbw.cell (p := ⟨bw, ow + 2, none⟩) zbS).trans q2
                  have zbr : bw < wr.heap.size := by have := hbw.size; omega
                  have HST := Lib.hid (kindUp_step c m hm1 hm4)
                  have HBW := Lib.hid hbw
                  have hm5' : m < 5 := by omega
                  have hm5i : (m : Int) < 5 := by omega
                  obtain ⟨ku, hku⟩ : ∃ u, kindUp (kindNum c) m = u := ⟨_, rfl⟩
                  rw [hku] at HST
                  rw [hku]
                  have HKU := Lib.hid hku
                  clear hbw hku
                  by_cases hkc : kindW (m : Int) = c
                  · have HKC := Lib.hid hkc
                    go_wp2_with fail
                    refine wp_region_noPanic ?_
                    refine wp_region_held_drew (S := (fun w' => w'.cell? ⟨bw, ow + 2, none⟩ = some (strV c))) (by kernel_rfl) (q2r) (fun hHeld => ?_)
                    refine wpAnyH_take (i := 1) (v := ?_) rfl (by kernel_rfl) (by kernel_rfl) (by kernel_rfl) (fun _ _ _ h => h) (Or.inl ⟨by rfl, ?_⟩) (by assumption) ?_
                    rotate_left 1
                    · (intro wS hSw; (try dsimp only at hSw); go_simp; try with_reducible rfl)
                    try simp only [List.getElem_toArray, List.getElem_cons_zero, List.getElem_cons_succ, Act.put, List.setIfInBounds_toArray, List.set_cons_zero, List.set_cons_succ]
                    refine wpAnyH_take (i := 4) (v := ?_) rfl (by kernel_rfl) (by kernel_rfl) (by kernel_rfl) (fun _ _ _ h => h) (Or.inl ⟨by rfl, ?_⟩) (by assumption) ?_
                    rotate_left 1
                    · (intro wS hSw; (try dsimp only at hSw); go_simp; try with_reducible rfl)
                    try simp only [List.getElem_toArray, List.getElem_cons_zero, List.getElem_cons_succ, Act.put, List.setIfInBounds_toArray, List.set_cons_zero, List.set_cons_succ]
                    refine wpAnyH_take (i := 5) (v := ?_) rfl (by kernel_rfl) (by kernel_rfl) (by kernel_rfl) (fun _ _ _ h => h) (Or.inl ⟨by rfl, ?_⟩) (by assumption) ?_
                    rotate_left 1
                    · (intro wS hSw; (try dsimp only at hSw); go_simp; try with_reducible rfl)
                    try simp only [List.getElem_toArray, List.getElem_cons_zero, List.getElem_cons_succ, Act.put, List.setIfInBounds_toArray, List.set_cons_zero, List.set_cons_succ]
                    refine wpAnyH_take (i := 6) (v := ?_) rfl (by kernel_rfl) (by kernel_rfl) (by kernel_rfl) (fun _ _ _ h => h) (Or.inl ⟨by rfl, ?_⟩) (by assumption) ?_
                    rotate_left 1
                    · (intro wS hSw; (try dsimp only at hSw); go_simp; try with_reducible rfl)
                    try simp only [List.getElem_toArray, List.getElem_cons_zero, List.getElem_cons_succ, Act.put, List.setIfInBounds_toArray, List.set_cons_zero, List.set_cons_succ]
                    refine wpAnyH_ready (rs := [0]) (by kernel_rfl) (by simp) ?_
                    refine AllReadyH.cons rfl (fun K hK => ?_) AllReadyH.nil
                    go_simp
                    refine (rkinds_any _).mono ?_; rintro e w2 ⟨rfl, hrow, hb2⟩; have hb3 := ((Below.refl wr.heap.size wr).drew).trans hb2; have ck : w2.cell? ⟨wr.heap.size, m, none⟩ = some (strV (kindsR.getD m [])) := hrow.cell m hm5'; rw [kindsR_get m hm4, HKC.out] at ck; have HBQ := Lib.hid (HBW.out.trans (hb3.mono HBW.out.size)); have qa := (hb3.cell (p := ⟨bw, ow + 2, none⟩) zbr).trans q2r
                    refine hK.out _ _ (qa) (fun hHeld => ?_)
                    clear hK K
                    try simp only [List.getElem_toArray, List.getElem_cons_zero, List.getElem_cons_succ, Act.put, List.setIfInBounds_toArray, List.set_cons_zero, List.set_cons_succ]
                    refine wpAnyH_take (i := 2) (v := ?_) rfl (by kernel_rfl) (by kernel_rfl) (by kernel_rfl) (fun _ _ _ h => h) (Or.inl ⟨by rfl, ?_⟩) (by assumption) ?_
                    rotate_left 1
                    · (intro wS hSw; (try dsimp only at hSw); go_simp; try with_reducible rfl)
                    try simp only [List.getElem_toArray, List.getElem_cons_zero, List.getElem_cons_succ, Act.put, List.setIfInBounds_toArray, List.set_cons_zero, List.set_cons_succ]
                    refine wpAnyH_ready (rs := [3]) (by kernel_rfl) (by simp) ?_
                    refine AllReadyH.cons rfl (fun K hK => ?_) AllReadyH.nil
                    go_simp
                    skip
                    refine hK.out _ _ (qa) (fun hHeld => ?_)
                    clear hK K
                    try simp only [List.getElem_toArray, List.getElem_cons_zero, List.getElem_cons_succ, Act.put, List.setIfInBounds_toArray, List.set_cons_zero, List.set_cons_succ]
                    refine wpAnyH_take (i := 7) (v := ?_) rfl (by kernel_rfl) (by kernel_rfl) (by kernel_rfl) (fun _ _ _ h => h) (Or.inl ⟨by rfl, ?_⟩) (by assumption) ?_
                    rotate_left 1
                    · (intro wS hSw; (try dsimp only at hSw); go_simp; try with_reducible rfl)
                    try simp only [List.getElem_toArray, List.getElem_cons_zero, List.getElem_cons_succ, Act.put, List.setIfInBounds_toArray, List.set_cons_zero, List.set_cons_succ]
                    refine wpAnyH_done (by kernel_rfl) ?_ _
                    refine NoPanic.normal ?_
                    clear ck qa q2r
                    go_wp2_with fail
                    go_roundw
                    case rel => exact ⟨m + 1, by omega, by omega, by go_num, by rw [HST.out, if_pos HKC.out], HBQ.out⟩
                    case measure => simp [intOf]; omega
                  · have HKC := Lib.hid hkc
                    obtain ⟨kw, hkwd⟩ : ∃ u, kindW (m : Int) = u := ⟨_, rfl⟩
                    have hne : (kw == c) = false := by rw [← hkwd]; simpa using hkc
                    have HKW := Lib.hid hkwd
                    clear hkc hkwd
                    go_wp2_with fail
                    refine wp_region_noPanic ?_
                    refine wp_region_held_drew (S := (fun w' => w'.cell? ⟨bw, ow + 2, none⟩ = some (strV c))) (by kernel_rfl) (q2r) (fun hHeld => ?_)
                    refine wpAnyH_take (i := 1) (v := ?_) rfl (by kernel_rfl) (by kernel_rfl) (by kernel_rfl) (fun _ _ _ h => h) (Or.inl ⟨by rfl, ?_⟩) (by assumption) ?_
                    rotate_left 1
                    · (intro wS hSw; (try dsimp only at hSw); go_simp; try with_reducible rfl)
                    try simp only [List.getElem_toArray, List.getElem_cons_zero, List.getElem_cons_succ, Act.put, List.setIfInBounds_toArray, List.set_cons_zero, List.set_cons_succ]
                    refine wpAnyH_take (i := 4) (v := ?_) rfl (by kernel_rfl) (by kernel_rfl) (by kernel_rfl) (fun _ _ _ h => h) (Or.inl ⟨by rfl, ?_⟩) (by assumption) ?_
                    rotate_left 1
                    · (intro wS hSw; (try dsimp only at hSw); go_simp; try with_reducible rfl)
                    try simp only [List.getElem_toArray, List.getElem_cons_zero, List.getElem_cons_succ, Act.put, List.setIfInBounds_toArray, List.set_cons_zero, List.set_cons_succ]
                    refine wpAnyH_take (i := 5) (v := ?_) rfl (by kernel_rfl) (by kernel_rfl) (by kernel_rfl) (fun _ _ _ h => h) (Or.inl ⟨by rfl, ?_⟩) (by assumption) ?_
                    rotate_left 1
                    · (intro wS hSw; (try dsimp only at hSw); go_simp; try with_reducible rfl)
                    try simp only [List.getElem_toArray, List.getElem_cons_zero, List.getElem_cons_succ, Act.put, List.setIfInBounds_toArray, List.set_cons_zero, List.set_cons_succ]
                    refine wpAnyH_take (i := 6) (v := ?_) rfl (by kernel_rfl) (by kernel_rfl) (by kernel_rfl) (fun _ _ _ h => h) (Or.inl ⟨by rfl, ?_⟩) (by assumption) ?_
                    rotate_left 1
                    · (intro wS hSw; (try dsimp only at hSw); go_simp; try with_reducible rfl)
                    try simp only [List.getElem_toArray, List.getElem_cons_zero, List.getElem_cons_succ, Act.put, List.setIfInBounds_toArray, List.set_cons_zero, List.set_cons_succ]
                    refine wpAnyH_ready (rs := [0]) (by kernel_rfl) (by simp) ?_
                    refine AllReadyH.cons rfl (fun K hK => ?_) AllReadyH.nil
                    go_simp
                    refine (rkinds_any _).mono ?_; rintro e w2 ⟨rfl, hrow, hb2⟩; have hb3 := ((Below.refl wr.heap.size wr).drew).trans hb2; have ck : w2.cell? ⟨wr.heap.size, m, none⟩ = some (strV (kindsR.getD m [])) := hrow.cell m hm5'; rw [kindsR_get m hm4, HKW.out] at ck; have HBQ := Lib.hid (HBW.out.trans (hb3.mono HBW.out.size)); have qa := (hb3.cell (p := ⟨bw, ow + 2, none⟩) zbr).trans q2r
                    refine hK.out _ _ (qa) (fun hHeld => ?_)
                    clear hK K
                    try simp only [List.getElem_toArray, List.getElem_cons_zero, List.getElem_cons_succ, Act.put, List.setIfInBounds_toArray, List.set_cons_zero, List.set_cons_succ]
                    refine wpAnyH_take (i := 2) (v := ?_) rfl (by kernel_rfl) (by kernel_rfl) (by kernel_rfl) (fun _ _ _ h => h) (Or.inl ⟨by rfl, ?_⟩) (by assumption) ?_
                    rotate_left 1
                    · (intro wS hSw; (try dsimp only at hSw); go_simp; try with_reducible rfl)
                    try simp only [List.getElem_toArray, List.getElem_cons_zero, List.getElem_cons_succ, Act.put, List.setIfInBounds_toArray, List.set_cons_zero, List.set_cons_succ]
                    refine wpAnyH_ready (rs := [3]) (by kernel_rfl) (by simp) ?_
                    refine AllReadyH.cons rfl (fun K hK => ?_) AllReadyH.nil
                    go_simp
                    skip
                    refine hK.out _ _ (qa) (fun hHeld => ?_)
                    clear hK K
                    try simp only [List.getElem_toArray, List.getElem_cons_zero, List.getElem_cons_succ, Act.put, List.setIfInBounds_toArray, List.set_cons_zero, List.set_cons_succ]
                    refine wpAnyH_take (i := 7) (v := ?_) rfl (by kernel_rfl) (by kernel_rfl) (by kernel_rfl) (fun _ _ _ h => h) (Or.inl ⟨by rfl, ?_⟩) (by assumption) ?_
                    rotate_left 1
                    · (intro wS hSw; (try dsimp only at hSw); go_simp; try with_reducible rfl)
                    try simp only [List.getElem_toArray, List.getElem_cons_zero, List.getElem_cons_succ, Act.put, List.setIfInBounds_toArray, List.set_cons_zero, List.set_cons_succ]
                    refine wpAnyH_done (by kernel_rfl) ?_ _
                    refine NoPanic.normal ?_
                    clear ck qa q2r
                    go_wp2_with fail
                    go_roundw
                    case rel => exact ⟨m + 1, by omega, by omega, by go_num, by rw [HST.out, if_neg HKC.out], HBQ.out⟩
                    case measure => simp [intOf]; omega
                · have hq2 : decide ((m : Int) ≤ 4) = false := by simp; omega
                  obtain rfl : m = 5 := by omega
                  rw [kindUp_end c]
                  have hBt := HBS.out
                  have HPW2 := Lib.hid (HPW.out.below hbw)
                  have HBS2 := Lib.hid (hBt.trans (hbw.mono (by have := lt_of_blk HPW.out.y; omega)))
                  have q1 := (hbw.cell (p := ⟨bw, ow + 1, none⟩) zbS).trans q1
                  have zbS : bw < wr.heap.size := by have := hbw.size; omega
                  have zS2 := hbw.size
                  clear HPW HBS hbw q2 hBt
                  have HPW := HPW2; have HBS := HBS2
                  clear HPW2 HBS2
                  obtain ⟨wS, rfl⟩ : ∃ wS : World, wS = wr := ⟨_, rfl⟩
                  obtain ⟨m, hm⟩ : ∃ m, kindNum c = m := ⟨_, rfl⟩
                  rw [hm] at HRd0 HKb ⊢
                  clear hm
                  by_cases hm0 : m = 0
                  · subst hm0
                    have HRd := Lib.hid (show readN s [fieldW, b, c] = (-1, s) by rw [HRd0.out, if_pos rfl])
                    clear q1
                    have HE14 := Lib.hid (HBad.out _ HRd.out (show (-1 : Int) < 0 by decide))
                    have HXw := HX0.out _ HBS.out
                    clear HNext
                    go_wp2_with (refine wpList_store_row rfl 33 (.tmp 2) (.tmp 60) rfl w.heap.size nil4 rfl rfl 33 nil4 HXw (by kernel_rfl) (by kernel_rfl) (by kernel_rfl) ?_)
                    exact bodyPost_row2 rfl rfl (heap_setRow HXw) Tryz.underlying33 rfl (by kernel_rfl) ⟨_, _, _, _, by rw [HE14.out]; rfl, by rw [HE14.out]; exact nil_schema _ _, below_setRow (HB1.out.trans (HBS.out.mono (Nat.le_succ _))) (Nat.le_refl _)⟩
                  · have e0 : (m == 0) = false := by simpa using hm0
                    have HRd := Lib.hid (show readN s [fieldW, b, c] = (0, addF s (b, m)) by rw [HRd0.out, if_neg hm0])
                    clear hm0
                    go_wp2_with fail
                    obtain ⟨i0, hi, hz0, hz1, hz2⟩ := info_parts infoF
                    have HI := Lib.hid hi; have HZ0 := Lib.hid hz0; have HZ1 := Lib.hid hz1; have HZ2 := Lib.hid hz2
                    clear hi hz0 hz1 hz2
                    have y0 := cells4 HPW.out.y
                    have qy := y0.1
                    have gy := (frozen_of_row _ _ _ _ _ HPW.out.y : wS.frozen? ⟨w.heap.size + 1, 0, none⟩ = false)
                    have zYS := lt_of_blk HPW.out.y
                    have hBS : w.heap.size + 1 ≤ wS.heap.size := by omega
                    clear y0
                    refine wp_region_noPanic ?_
                    refine wp_region_k (by kernel_rfl) (fun w' => w'.cell? ⟨w.heap.size + 1, 0, none⟩ = some (.slice af s.fields.length cf) ∧ w'.cell? ⟨bw, ow + 1, none⟩ = some (strV b)) 8 (⟨qy, q1⟩) (fun hHeld => ?_)
                    refine wpAnyK_take (i := 0) (v := ?_) rfl (by kernel_rfl) (by kernel_rfl) (by kernel_rfl) (by kernel_rfl) (fun _ _ _ h => h) (Or.inl ⟨by rfl, ?_⟩) (by assumption) ?_
                    rotate_left 1
                    · (intro wS hSw; (try dsimp only at hSw); go_simp; try with_reducible rfl)
                    try simp only [List.getElem_toArray, List.getElem_cons_zero, List.getElem_cons_succ, Act.put, List.setIfInBounds_toArray, List.set_cons_zero, List.set_cons_succ]
                    refine wpAnyK_take (i := 1) (v := ?_) rfl (by kernel_rfl) (by kernel_rfl) (by kernel_rfl) (by kernel_rfl) (fun _ _ _ h => h) (Or.inl ⟨by rfl, ?_⟩) (by assumption) ?_
                    rotate_left 1
                    · (intro wS hSw; (try dsimp only at hSw); go_simp; try with_reducible rfl)
                    try simp only [List.getElem_toArray, List.getElem_cons_zero, List.getElem_cons_succ, Act.put, List.setIfInBounds_toArray, List.set_cons_zero, List.set_cons_succ]
                    refine wpAnyK_take (i := 2) (v := ?_) rfl (by kernel_rfl) (by kernel_rfl) (by kernel_rfl) (by kernel_rfl) (fun _ _ _ h => h) (Or.inl ⟨by rfl, ?_⟩) (by assumption) ?_
                    rotate_left 1
                    · (intro wS hSw; (try dsimp only at hSw); go_simp; try with_reducible rfl)
                    try simp only [List.getElem_toArray, List.getElem_cons_zero, List.getElem_cons_succ, Act.put, List.setIfInBounds_toArray, List.set_cons_zero, List.set_cons_succ]
                    refine wpAnyK_take (i := 3) (v := ?_) rfl (by kernel_rfl) (by kernel_rfl) (by kernel_rfl) (by kernel_rfl) (fun _ _ _ h => h) (Or.inl ⟨by rfl, ?_⟩) (by assumption) ?_
                    rotate_left 1
                    · (intro wS hSw; (try dsimp only at hSw); go_simp; try with_reducible rfl)
                    try simp only [List.getElem_toArray, List.getElem_cons_zero, List.getElem_cons_succ, Act.put, List.setIfInBounds_toArray, List.set_cons_zero, List.set_cons_succ]
                    refine wpAnyK_take (i := 4) (v := ?_) rfl (by kernel_rfl) (by kernel_rfl) (by kernel_rfl) (by kernel_rfl) (fun _ _ _ h => h) (Or.inl ⟨by rfl, ?_⟩) (by assumption) ?_
                    rotate_left 1
                    · (intro wS hSw; (try dsimp only at hSw); go_simp; try with_reducible rfl)
                    try simp only [List.getElem_toArray, List.getElem_cons_zero, List.getElem_cons_succ, Act.put, List.setIfInBounds_toArray, List.set_cons_zero, List.set_cons_succ]
                    refine wpAnyK_take (i := 5) (v := ?_) rfl (by kernel_rfl) (by kernel_rfl) (by kernel_rfl) (by kernel_rfl) (fun _ _ _ h => h) (Or.inl ⟨by rfl, ?_⟩) (by assumption) ?_
                    rotate_left 1
                    · (intro wS hSw; (try dsimp only at hSw); go_simp; try with_reducible rfl)
                    try simp only [List.getElem_toArray, List.getElem_cons_zero, List.getElem_cons_succ, Act.put, List.setIfInBounds_toArray, List.set_cons_zero, List.set_cons_succ]
                    refine wpAnyK_take (i := 6) (v := ?_) rfl (by kernel_rfl) (by kernel_rfl) (by kernel_rfl) (by kernel_rfl) (fun _ _ _ h => h) (Or.inl ⟨by rfl, ?_⟩) (by assumption) ?_
                    rotate_left 1
                    · (intro wS hSw; (try dsimp only at hSw); go_simp; try with_reducible rfl)
                    try simp only [List.getElem_toArray, List.getElem_cons_zero, List.getElem_cons_succ, Act.put, List.setIfInBounds_toArray, List.set_cons_zero, List.set_cons_succ]
                    have bA := ((Below.refl wS.heap.size wS).drew).alloc (Nat.le_refl _) (.cells #[strV b, .int .i64 m] 42)
                    have hown := own_below HPW.out.f bA
                    have hnews : ∀ i u, [strV b, .int .i64 m][i]? = some u → ((wS.drew).alloc (.cells #[strV b, .int .i64 m] 42)).cell? ((⟨wS.heap.size, 0, none⟩ : Addr).add i) = some u := fun i u hu => by
                      have hX : ((wS.drew).alloc (.cells #[strV b, .int .i64 m] 42)).heap[wS.heap.size]? = some (.cells #[strV b, .int .i64 m] 42 (0, 0)) := blk_new rfl
                      rw [add_plain, cell_of_row _ _ _ _ _ _ hX, Nat.zero_add]; simpa using hu
                    have hone : ∀ u ∈ [strV b, .int .i64 m], u.oneCell' = true := by intro u hu; simp at hu; rcases hu with rfl | rfl <;> rfl
                    refine wpAnyK_ready (rs := [7]) (by kernel_rfl) (by simp) ?_
                    refine AllReadyK.cons rfl (fun K hK => ?_) AllReadyK.nil
                    go_simp
                    skip
                    refine shutK hK (⟨(bA.cell (p := ⟨w.heap.size + 1, 0, none⟩) zYS).trans qy, (bA.cell (p := ⟨bw, ow + 1, none⟩) zbS).trans q1⟩) (fun hHeld => ?_)
                    clear hK K
                    try simp only [List.getElem_toArray, List.getElem_cons_zero, List.getElem_cons_succ, Act.put, List.setIfInBounds_toArray, List.set_cons_zero, List.set_cons_succ]
                    refine wpAnyK_ready (rs := [8]) (by kernel_rfl) (by simp) ?_
                    refine AllReadyK.cons rfl (fun K hK => ?_) AllReadyK.nil
                    refine wp_append_lies _ (.tmp 62) (.tmp 68) 27 (by rfl) (w.heap.size + 1) 42 i0 (.agg #[.string ⟨#[]⟩, .int .i64 0]) 2 24 Tryz.underlying27 HI.out HZ0.out HZ1.out HZ2.out rfl (by decide) (.slice af s.fields.length cf) s.fields.length (s.fields.flatMap encF) (by rfl) hown ⟨wS.heap.size, 0, none⟩ 1 1 [strV b, .int .i64 m] (by rfl) rfl hnews hone (by omega) (by unfold maxLen; omega) (by omega) (by simp; omega) (wS.heap.size + 1) (by simp) ?_; intro g cap w5 hown5 hg5 hat5 hlt5; have cY5 : w5.cell? ⟨w.heap.size + 1, 0, none⟩ = some (.slice af s.fields.length cf) := (hg5.cell_far ⟨w.heap.size + 1, 0, none⟩ (by simp; omega) (PAt.far_f HPW.out)).trans ((bA.cell (p := ⟨w.heap.size + 1, 0, none⟩) zYS).trans qy); have fY5 : w5.frozen? ⟨w.heap.size + 1, 0, none⟩ = false := (hg5.frozen_far ⟨w.heap.size + 1, 0, none⟩ (by simp; omega) (PAt.far_f HPW.out)).trans ((bA.frozen (p := ⟨w.heap.size + 1, 0, none⟩) zYS).trans gy)
                    refine shutK_off hK (by decide) ?_
                    clear hK K
                    try simp only [List.getElem_toArray, List.getElem_cons_zero, List.getElem_cons_succ, Act.put, List.setIfInBounds_toArray, List.set_cons_zero, List.set_cons_succ]
                    have hstep := HPW.out.addF hBS (b, m) bA hg5 hown5 (by simpa using hat5)
                    have HS5 := Lib.hid hstep
                    clear hstep hown5 hg5 hat5 hown hnews hone bA
                    refine wpAnyK_ready (rs := [9]) (by kernel_rfl) (by simp) ?_
                    refine AllReadyK.cons rfl (fun K hK => ?_) AllReadyK.nil
                    go_simp
                    skip
                    refine shutK_off hK (by decide) ?_
                    clear hK K
                    try simp only [List.getElem_toArray, List.getElem_cons_zero, List.getElem_cons_succ, Act.put, List.setIfInBounds_toArray, List.set_cons_zero, List.set_cons_succ]
                    refine wpAnyK_ready (rs := [10]) (by kernel_rfl) (by simp) ?_
                    refine AllReadyK.cons rfl (fun K hK => ?_) AllReadyK.nil
                    go_simp
                    skip
                    refine shutK_off hK (by decide) ?_
                    clear hK K
                    try simp only [List.getElem_toArray, List.getElem_cons_zero, List.getElem_cons_succ, Act.put, List.setIfInBounds_toArray, List.set_cons_zero, List.set_cons_succ]
                    refine wpAnyK_done (by kernel_rfl) ?_ _
                    refine NoPanic.normal ?_
                    have HKN := Lib.hid (HNext.out 0 (addF s (b, m)) HRd.out (by decide) _ _ _ _ _ HS5.out.1 (HBS.out.trans HS5.out.2))
                    go_wp2_with fail
                    go_roundw
                    case rel => exact ⟨_, [], k + 1, _, _, _, _, by go_num, rfl, HKN.out⟩
                    case measure => simp [intOf]; omega
            · by_cases h2 : a = nickW
              · subst h2
                have HRd := Lib.hid (show readN s [nickW, b, c] = (2, addN s (b, c)) by unfold readN; rw [if_neg H0.out]; dsimp only; rw [if_neg h1, if_pos rfl])
                clear h1
                unfold nickW at q0
                go_wp2_with fail
                clear q0
                obtain ⟨i0, hi, hz0, hz1, hz2⟩ := info_parts infoP
                have HI := Lib.hid hi; have HZ0 := Lib.hid hz0; have HZ1 := Lib.hid hz1; have HZ2 := Lib.hid hz2
                clear hi hz0 hz1 hz2
                have y0 := cells4 HPW.out.y
                have qy := y0.2.2.1
                have gy := (frozen_of_row _ _ _ _ _ HPW.out.y : wS.frozen? ⟨w.heap.size + 1, 2, none⟩ = false)
                have zYS := lt_of_blk HPW.out.y
                have hBS : w.heap.size + 1 ≤ wS.heap.size := by omega
                clear y0
                refine wp_region_noPanic ?_
                refine wp_region_k (by kernel_rfl) (fun w' => w'.cell? ⟨w.heap.size + 1, 2, none⟩ = some (.slice an s.rules.nicks.length cn) ∧ w'.cell? ⟨bw, ow + 1, none⟩ = some (strV b) ∧ w'.cell? ⟨bw, ow + 2, none⟩ = some (strV c)) 11 (⟨qy, q1, q2⟩) (fun hHeld => ?_)
                refine wpAnyK_take (i := 0) (v := ?_) rfl (by kernel_rfl) (by kernel_rfl) (by kernel_rfl) (by kernel_rfl) (fun _ _ _ h => h) (Or.inl ⟨by rfl, ?_⟩) (by assumption) ?_
                rotate_left 1
                · (intro wS hSw; (try dsimp only at hSw); go_simp; try with_reducible rfl)
                try simp only [List.getElem_toArray, List.getElem_cons_zero, List.getElem_cons_succ, Act.put, List.setIfInBounds_toArray, List.set_cons_zero, List.set_cons_succ]
                refine wpAnyK_take (i := 1) (v := ?_) rfl (by kernel_rfl) (by kernel_rfl) (by kernel_rfl) (by kernel_rfl) (fun _ _ _ h => h) (Or.inl ⟨by rfl, ?_⟩) (by assumption) ?_
                rotate_left 1
                · (intro wS hSw; (try dsimp only at hSw); go_simp; try with_reducible rfl)
                try simp only [List.getElem_toArray, List.getElem_cons_zero, List.getElem_cons_succ, Act.put, List.setIfInBounds_toArray, List.set_cons_zero, List.set_cons_succ]
                refine wpAnyK_take (i := 2) (v := ?_) rfl (by kernel_rfl) (by kernel_rfl) (by kernel_rfl) (by kernel_rfl) (fun _ _ _ h => h) (Or.inl ⟨by rfl, ?_⟩) (by assumption) ?_
                rotate_left 1
                · (intro wS hSw; (try dsimp only at hSw); go_simp; try with_reducible rfl)
                try simp only [List.getElem_toArray, List.getElem_cons_zero, List.getElem_cons_succ, Act.put, List.setIfInBounds_toArray, List.set_cons_zero, List.set_cons_succ]
                refine wpAnyK_take (i := 3) (v := ?_) rfl (by kernel_rfl) (by kernel_rfl) (by kernel_rfl) (by kernel_rfl) (fun _ _ _ h => h) (Or.inl ⟨by rfl, ?_⟩) (by assumption) ?_
                rotate_left 1
                · (intro wS hSw; (try dsimp only at hSw); go_simp; try with_reducible rfl)
                try simp only [List.getElem_toArray, List.getElem_cons_zero, List.getElem_cons_succ, Act.put, List.setIfInBounds_toArray, List.set_cons_zero, List.set_cons_succ]
                refine wpAnyK_take (i := 4) (v := ?_) rfl (by kernel_rfl) (by kernel_rfl) (by kernel_rfl) (by kernel_rfl) (fun _ _ _ h => h) (Or.inl ⟨by rfl, ?_⟩) (by assumption) ?_
                rotate_left 1
                · (intro wS hSw; (try dsimp only at hSw); go_simp; try with_reducible rfl)
                try simp only [List.getElem_toArray, List.getElem_cons_zero, List.getElem_cons_succ, Act.put, List.setIfInBounds_toArray, List.set_cons_zero, List.set_cons_succ]
                refine wpAnyK_take (i := 5) (v := ?_) rfl (by kernel_rfl) (by kernel_rfl) (by kernel_rfl) (by kernel_rfl) (fun _ _ _ h => h) (Or.inl ⟨by rfl, ?_⟩) (by assumption) ?_
                rotate_left 1
                · (intro wS hSw; (try dsimp only at hSw); go_simp; try with_reducible rfl)
                try simp only [List.getElem_toArray, List.getElem_cons_zero, List.getElem_cons_succ, Act.put, List.setIfInBounds_toArray, List.set_cons_zero, List.set_cons_succ]
                refine wpAnyK_take (i := 6) (v := ?_) rfl (by kernel_rfl) (by kernel_rfl) (by kernel_rfl) (by kernel_rfl) (fun _ _ _ h => h) (Or.inl ⟨by rfl, ?_⟩) (by assumption) ?_
                rotate_left 1
                · (intro wS hSw; (try dsimp only at hSw); go_simp; try with_reducible rfl)
                try simp only [List.getElem_toArray, List.getElem_cons_zero, List.getElem_cons_succ, Act.put, List.setIfInBounds_toArray, List.set_cons_zero, List.set_cons_succ]
                refine wpAnyK_take (i := 7) (v := ?_) rfl (by kernel_rfl) (by kernel_rfl) (by kernel_rfl) (by kernel_rfl) (fun _ _ _ h => h) (Or.inl ⟨by rfl, ?_⟩) (by assumption) ?_
                rotate_left 1
                · (intro wS hSw; (try dsimp only at hSw); go_simp; try with_reducible rfl)
                try simp only [List.getElem_toArray, List.getElem_cons_zero, List.getElem_cons_succ, Act.put, List.setIfInBounds_toArray, List.set_cons_zero, List.set_cons_succ]
                refine wpAnyK_take (i := 8) (v := ?_) rfl (by kernel_rfl) (by kernel_rfl) (by kernel_rfl) (by kernel_rfl) (fun _ _ _ h => h) (Or.inl ⟨by rfl, ?_⟩) (by assumption) ?_
                rotate_left 1
                · (intro wS hSw; (try dsimp only at hSw); go_simp; try with_reducible rfl)
                try simp only [List.getElem_toArray, List.getElem_cons_zero, List.getElem_cons_succ, Act.put, List.setIfInBounds_toArray, List.set_cons_zero, List.set_cons_succ]
                refine wpAnyK_take (i := 9) (v := ?_) rfl (by kernel_rfl) (by kernel_rfl) (by kernel_rfl) (by kernel_rfl) (fun _ _ _ h => h) (Or.inl ⟨by rfl, ?_⟩) (by assumption) ?_
                rotate_left 1
                · (intro wS hSw; (try dsimp only at hSw); go_simp; try with_reducible rfl)
                try simp only [List.getElem_toArray, List.getElem_cons_zero, List.getElem_cons_succ, Act.put, List.setIfInBounds_toArray, List.set_cons_zero, List.set_cons_succ]
                have bA := ((Below.refl wS.heap.size wS).drew).alloc (Nat.le_refl _) (.cells #[strV b, strV c] 83)
                have hown := own_below HPW.out.n bA
                have hnews : ∀ i u, [strV b, strV c][i]? = some u → ((wS.drew).alloc (.cells #[strV b, strV c] 83)).cell? ((⟨wS.heap.size, 0, none⟩ : Addr).add i) = some u := fun i u hu => by
                  have hX : ((wS.drew).alloc (.cells #[strV b, strV c] 83)).heap[wS.heap.size]? = some (.cells #[strV b, strV c] 83 (0, 0)) := blk_new rfl
                  rw [add_plain, cell_of_row _ _ _ _ _ _ hX, Nat.zero_add]; simpa using hu
                have hone : ∀ u ∈ [strV b, strV c], u.oneCell' = true := by intro u hu; simp at hu; rcases hu with rfl | rfl <;> rfl
                refine wpAnyK_ready (rs := [10]) (by kernel_rfl) (by simp) ?_
                refine AllReadyK.cons rfl (fun K hK => ?_) AllReadyK.nil
                go_simp
                skip
                refine shutK hK (⟨(bA.cell (p := ⟨w.heap.size + 1, 2, none⟩) zYS).trans qy, (bA.cell (p := ⟨bw, ow + 1, none⟩) zbS).trans q1, (bA.cell (p := ⟨bw, ow + 2, none⟩) zbS).trans q2⟩) (fun hHeld => ?_)
                clear hK K
                try simp only [List.getElem_toArray, List.getElem_cons_zero, List.getElem_cons_succ, Act.put, List.setIfInBounds_toArray, List.set_cons_zero, List.set_cons_succ]
                refine wpAnyK_ready (rs := [11]) (by kernel_rfl) (by simp) ?_
                refine AllReadyK.cons rfl (fun K hK => ?_) AllReadyK.nil
                refine wp_append_lies _ (.tmp 103) (.tmp 111) 29 (by rfl) (w.heap.size + 1) 83 i0 (.agg #[.string ⟨#[]⟩, .string ⟨#[]⟩]) 2 32 Tryz.underlying29 HI.out HZ0.out HZ1.out HZ2.out rfl (by decide) (.slice an s.rules.nicks.length cn) s.rules.nicks.length (s.rules.nicks.flatMap encP) (by rfl) hown ⟨wS.heap.size, 0, none⟩ 1 1 [strV b, strV c] (by rfl) rfl hnews hone (by omega) (by unfold maxLen; omega) (by omega) (by simp; omega) (wS.heap.size + 1) (by simp) ?_; intro g cap w5 hown5 hg5 hat5 hlt5; have cY5 : w5.cell? ⟨w.heap.size + 1, 2, none⟩ = some (.slice an s.rules.nicks.length cn) := (hg5.cell_far ⟨w.heap.size + 1, 2, none⟩ (by simp; omega) (PAt.far_n HPW.out)).trans ((bA.cell (p := ⟨w.heap.size + 1, 2, none⟩) zYS).trans qy); have fY5 : w5.frozen? ⟨w.heap.size + 1, 2, none⟩ = false := (hg5.frozen_far ⟨w.heap.size + 1, 2, none⟩ (by simp; omega) (PAt.far_n HPW.out)).trans ((bA.frozen (p := ⟨w.heap.size + 1, 2, none⟩) zYS).trans gy)
                refine shutK_off hK (by decide) ?_
                clear hK K
                try simp only [List.getElem_toArray, List.getElem_cons_zero, List.getElem_cons_succ, Act.put, List.setIfInBounds_toArray, List.set_cons_zero, List.set_cons_succ]
                have hstep := HPW.out.addN hBS (b, c) bA hg5 hown5 (by simpa using hat5)
                have HS5 := Lib.hid hstep
                clear hstep hown5 hg5 hat5 hown hnews hone bA
                refine wpAnyK_ready (rs := [12]) (by kernel_rfl) (by simp) ?_
                refine AllReadyK.cons rfl (fun K hK => ?_) AllReadyK.nil
                go_simp
                skip
                refine shutK_off hK (by decide) ?_
                clear hK K
                try simp only [List.getElem_toArray, List.getElem_cons_zero, List.getElem_cons_succ, Act.put, List.setIfInBounds_toArray, List.set_cons_zero, List.set_cons_succ]
                refine wpAnyK_ready (rs := [13]) (by kernel_rfl) (by simp) ?_
                refine AllReadyK.cons rfl (fun K hK => ?_) AllReadyK.nil
                go_simp
                skip
                refine shutK_off hK (by decide) ?_
                clear hK K
                try simp only [List.getElem_toArray, List.getElem_cons_zero, List.getElem_cons_succ, Act.put, List.setIfInBounds_toArray, List.set_cons_zero, List.set_cons_succ]
                refine wpAnyK_ready (rs := [14]) (by kernel_rfl) (by simp) ?_
                refine AllReadyK.cons rfl (fun K hK => ?_) AllReadyK.nil
                go_simp
                skip
                refine shutK_off hK (by decide) ?_
                clear hK K
                try simp only [List.getElem_toArray, List.getElem_cons_zero, List.getElem_cons_succ, Act.put, List.setIfInBounds_toArray, List.set_cons_zero, List.set_cons_succ]
                refine wpAnyK_done (by kernel_rfl) ?_ _
                refine NoPanic.normal ?_
                have HKN := Lib.hid (HNext.out 2 (addN s (b, c)) HRd.out (by decide) _ _ _ _ _ HS5.out.1 (HBS.out.trans HS5.out.2))
                go_wp2_with fail
                go_roundw
                case rel => exact ⟨_, [], k + 1, _, _, _, _, by go_num, rfl, HKN.out⟩
                case measure => simp [intOf]; omega
              · by_cases h3 : a = streetW
                · subst h3
                  have HRd := Lib.hid (show readN s [streetW, b, c] = (3, addS s (b, c)) by unfold readN; rw [if_neg H0.out]; dsimp only; rw [if_neg h1, if_neg h2, if_pos rfl])
                  clear h1 h2
                  unfold streetW at q0
                  go_wp2_with fail
                  clear q0
                  obtain ⟨i0, hi, hz0, hz1, hz2⟩ := info_parts infoP
                  have HI := Lib.hid hi; have HZ0 := Lib.hid hz0; have HZ1 := Lib.hid hz1; have HZ2 := Lib.hid hz2
                  clear hi hz0 hz1 hz2
                  have y0 := cells4 HPW.out.y
                  have qy := y0.2.2.2
                  have gy := (frozen_of_row _ _ _ _ _ HPW.out.y : wS.frozen? ⟨w.heap.size + 1, 3, none⟩ = false)
                  have zYS := lt_of_blk HPW.out.y
                  have hBS : w.heap.size + 1 ≤ wS.heap.size := by omega
                  clear y0
                  refine wp_region_noPanic ?_
                  refine wp_region_k (by kernel_rfl) (fun w' => w'.cell? ⟨w.heap.size + 1, 3, none⟩ = some (.slice as' s.rules.streets.length cs) ∧ w'.cell? ⟨bw, ow + 1, none⟩ = some (strV b) ∧ w'.cell? ⟨bw, ow + 2, none⟩ = some (strV c)) 11 (⟨qy, q1, q2⟩) (fun hHeld => ?_)
                  refine wpAnyK_take (i := 0) (v := ?_) rfl (by kernel_rfl) (by kernel_rfl) (by kernel_rfl) (by kernel_rfl) (fun _ _ _ h => h) (Or.inl ⟨by rfl, ?_⟩) (by assumption) ?_
                  rotate_left 1
                  · (intro wS hSw; (try dsimp only at hSw); go_simp; try with_reducible rfl)
                  try simp only [List.getElem_toArray, List.getElem_cons_zero, List.getElem_cons_succ, Act.put, List.setIfInBounds_toArray, List.set_cons_zero, List.set_cons_succ]
                  refine wpAnyK_take (i := 1) (v := ?_) rfl (by kernel_rfl) (by kernel_rfl) (by kernel_rfl) (by kernel_rfl) (fun _ _ _ h => h) (Or.inl ⟨by rfl, ?_⟩) (by assumption) ?_
                  rotate_left 1
                  · (intro wS hSw; (try dsimp only at hSw); go_simp; try with_reducible rfl)
                  try simp only [List.getElem_toArray, List.getElem_cons_zero, List.getElem_cons_succ, Act.put, List.setIfInBounds_toArray, List.set_cons_zero, List.set_cons_succ]
                  refine wpAnyK_take (i := 2) (v := ?_) rfl (by kernel_rfl) (by kernel_rfl) (by kernel_rfl) (by kernel_rfl) (fun _ _ _ h => h) (Or.inl ⟨by rfl, ?_⟩) (by assumption) ?_
                  rotate_left 1
                  · (intro wS hSw; (try dsimp only at hSw); go_simp; try with_reducible rfl)
                  try simp only [List.getElem_toArray, List.getElem_cons_zero, List.getElem_cons_succ, Act.put, List.setIfInBounds_toArray, List.set_cons_zero, List.set_cons_succ]
                  refine wpAnyK_take (i := 3) (v := ?_) rfl (by kernel_rfl) (by kernel_rfl) (by kernel_rfl) (by kernel_rfl) (fun _ _ _ h => h) (Or.inl ⟨by rfl, ?_⟩) (by assumption) ?_
                  rotate_left 1
                  · (intro wS hSw; (try dsimp only at hSw); go_simp; try with_reducible rfl)
                  try simp only [List.getElem_toArray, List.getElem_cons_zero, List.getElem_cons_succ, Act.put, List.setIfInBounds_toArray, List.set_cons_zero, List.set_cons_succ]
                  refine wpAnyK_take (i := 4) (v := ?_) rfl (by kernel_rfl) (by kernel_rfl) (by kernel_rfl) (by kernel_rfl) (fun _ _ _ h => h) (Or.inl ⟨by rfl, ?_⟩) (by assumption) ?_
                  rotate_left 1
                  · (intro wS hSw; (try dsimp only at hSw); go_simp; try with_reducible rfl)
                  try simp only [List.getElem_toArray, List.getElem_cons_zero, List.getElem_cons_succ, Act.put, List.setIfInBounds_toArray, List.set_cons_zero, List.set_cons_succ]
                  refine wpAnyK_take (i := 5) (v := ?_) rfl (by kernel_rfl) (by kernel_rfl) (by kernel_rfl) (by kernel_rfl) (fun _ _ _ h => h) (Or.inl ⟨by rfl, ?_⟩) (by assumption) ?_
                  rotate_left 1
                  · (intro wS hSw; (try dsimp only at hSw); go_simp; try with_reducible rfl)
                  try simp only [List.getElem_toArray, List.getElem_cons_zero, List.getElem_cons_succ, Act.put, List.setIfInBounds_toArray, List.set_cons_zero, List.set_cons_succ]
                  refine wpAnyK_take (i := 6) (v := ?_) rfl (by kernel_rfl) (by kernel_rfl) (by kernel_rfl) (by kernel_rfl) (fun _ _ _ h => h) (Or.inl ⟨by rfl, ?_⟩) (by assumption) ?_
                  rotate_left 1
                  · (intro wS hSw; (try dsimp only at hSw); go_simp; try with_reducible rfl)
                  try simp only [List.getElem_toArray, List.getElem_cons_zero, List.getElem_cons_succ, Act.put, List.setIfInBounds_toArray, List.set_cons_zero, List.set_cons_succ]
                  refine wpAnyK_take (i := 7) (v := ?_) rfl (by kernel_rfl) (by kernel_rfl) (by kernel_rfl) (by kernel_rfl) (fun _ _ _ h => h) (Or.inl ⟨by rfl, ?_⟩) (by assumption) ?_
                  rotate_left 1
                  · (intro wS hSw; (try dsimp only at hSw); go_simp; try with_reducible rfl)
                  try simp only [List.getElem_toArray, List.getElem_cons_zero, List.getElem_cons_succ, Act.put, List.setIfInBounds_toArray, List.set_cons_zero, List.set_cons_succ]
                  refine wpAnyK_take (i := 8) (v := ?_) rfl (by kernel_rfl) (by kernel_rfl) (by kernel_rfl) (by kernel_rfl) (fun _ _ _ h => h) (Or.inl ⟨by rfl, ?_⟩) (by assumption) ?_
                  rotate_left 1
                  · (intro wS hSw; (try dsimp only at hSw); go_simp; try with_reducible rfl)
                  try simp only [List.getElem_toArray, List.getElem_cons_zero, List.getElem_cons_succ, Act.put, List.setIfInBounds_toArray, List.set_cons_zero, List.set_cons_succ]
                  refine wpAnyK_take (i := 9) (v := ?_) rfl (by kernel_rfl) (by kernel_rfl) (by kernel_rfl) (by kernel_rfl) (fun _ _ _ h => h) (Or.inl ⟨by rfl, ?_⟩) (by assumption) ?_
                  rotate_left 1
                  · (intro wS hSw; (try dsimp only at hSw); go_simp; try with_reducible rfl)
                  try simp only [List.getElem_toArray, List.getElem_cons_zero, List.getElem_cons_succ, Act.put, List.setIfInBounds_toArray, List.set_cons_zero, List.set_cons_succ]
                  have bA := ((Below.refl wS.heap.size wS).drew).alloc (Nat.le_refl _) (.cells #[strV b, strV c] 83)
                  have hown := own_below HPW.out.s bA
                  have hnews : ∀ i u, [strV b, strV c][i]? = some u → ((wS.drew).alloc (.cells #[strV b, strV c] 83)).cell? ((⟨wS.heap.size, 0, none⟩ : Addr).add i) = some u := fun i u hu => by
                    have hX : ((wS.drew).alloc (.cells #[strV b, strV c] 83)).heap[wS.heap.size]? = some (.cells #[strV b, strV c] 83 (0, 0)) := blk_new rfl
                    rw [add_plain, cell_of_row _ _ _ _ _ _ hX, Nat.zero_add]; simpa using hu
                  have hone : ∀ u ∈ [strV b, strV c], u.oneCell' = true := by intro u hu; simp at hu; rcases hu with rfl | rfl <;> rfl
                  refine wpAnyK_ready (rs := [10]) (by kernel_rfl) (by simp) ?_
                  refine AllReadyK.cons rfl (fun K hK => ?_) AllReadyK.nil
                  go_simp
                  skip
                  refine shutK hK (⟨(bA.cell (p := ⟨w.heap.size + 1, 3, none⟩) zYS).trans qy, (bA.cell (p := ⟨bw, ow + 1, none⟩) zbS).trans q1, (bA.cell (p := ⟨bw, ow + 2, none⟩) zbS).trans q2⟩) (fun hHeld => ?_)
                  clear hK K
                  try simp only [List.getElem_toArray, List.getElem_cons_zero, List.getElem_cons_succ, Act.put, List.setIfInBounds_toArray, List.set_cons_zero, List.set_cons_succ]
                  refine wpAnyK_ready (rs := [11]) (by kernel_rfl) (by simp) ?_
                  refine AllReadyK.cons rfl (fun K hK => ?_) AllReadyK.nil
                  refine wp_append_lies _ (.tmp 127) (.tmp 135) 29 (by rfl) (w.heap.size + 1) 83 i0 (.agg #[.string ⟨#[]⟩, .string ⟨#[]⟩]) 2 32 Tryz.underlying29 HI.out HZ0.out HZ1.out HZ2.out rfl (by decide) (.slice as' s.rules.streets.length cs) s.rules.streets.length (s.rules.streets.flatMap encP) (by rfl) hown ⟨wS.heap.size, 0, none⟩ 1 1 [strV b, strV c] (by rfl) rfl hnews hone (by omega) (by unfold maxLen; omega) (by omega) (by simp; omega) (wS.heap.size + 1) (by simp) ?_; intro g cap w5 hown5 hg5 hat5 hlt5; have cY5 : w5.cell? ⟨w.heap.size + 1, 3, none⟩ = some (.slice as' s.rules.streets.length cs) := (hg5.cell_far ⟨w.heap.size + 1, 3, none⟩ (by simp; omega) (PAt.far_s HPW.out)).trans ((bA.cell (p := ⟨w.heap.size + 1, 3, none⟩) zYS).trans qy); have fY5 : w5.frozen? ⟨w.heap.size + 1, 3, none⟩ = false := (hg5.frozen_far ⟨w.heap.size + 1, 3, none⟩ (by simp; omega) (PAt.far_s HPW.out)).trans ((bA.frozen (p := ⟨w.heap.size + 1, 3, none⟩) zYS).trans gy)
                  refine shutK_off hK (by decide) ?_
                  clear hK K
                  try simp only [List.getElem_toArray, List.getElem_cons_zero, List.getElem_cons_succ, Act.put, List.setIfInBounds_toArray, List.set_cons_zero, List.set_cons_succ]
                  have hstep := HPW.out.addS hBS (b, c) bA hg5 hown5 (by simpa using hat5)
                  have HS5 := Lib.hid hstep
                  clear hstep hown5 hg5 hat5 hown hnews hone bA
                  refine wpAnyK_ready (rs := [12]) (by kernel_rfl) (by simp) ?_
                  refine AllReadyK.cons rfl (fun K hK => ?_) AllReadyK.nil
                  go_simp
                  skip
                  refine shutK_off hK (by decide) ?_
                  clear hK K
                  try simp only [List.getElem_toArray, List.getElem_cons_zero, List.getElem_cons_succ, Act.put, List.setIfInBounds_toArray, List.set_cons_zero, List.set_cons_succ]
                  refine wpAnyK_ready (rs := [13]) (by kernel_rfl) (by simp) ?_
                  refine AllReadyK.cons rfl (fun K hK => ?_) AllReadyK.nil
                  go_simp
                  skip
                  refine shutK_off hK (by decide) ?_
                  clear hK K
                  try simp only [List.getElem_toArray, List.getElem_cons_zero, List.getElem_cons_succ, Act.put, List.setIfInBounds_toArray, List.set_cons_zero, List.set_cons_succ]
                  refine wpAnyK_ready (rs := [14]) (by kernel_rfl) (by simp) ?_
                  refine AllReadyK.cons rfl (fun K hK => ?_) AllReadyK.nil
                  go_simp
                  skip
                  refine shutK_off hK (by decide) ?_
                  clear hK K
                  try simp only [List.getElem_toArray, List.getElem_cons_zero, List.getElem_cons_succ, Act.put, List.setIfInBounds_toArray, List.set_cons_zero, List.set_cons_succ]
                  refine wpAnyK_done (by kernel_rfl) ?_ _
                  refine NoPanic.normal ?_
                  have HKN := Lib.hid (HNext.out 3 (addS s (b, c)) HRd.out (by decide) _ _ _ _ _ HS5.out.1 (HBS.out.trans HS5.out.2))
                  go_wp2_with fail
                  go_roundw
                  case rel => exact ⟨_, [], k + 1, _, _, _, _, by go_num, rfl, HKN.out⟩
                  case measure => simp [intOf]; omega
                · have HRd := Lib.hid (show readN s [a, b, c] = (-1, s) by unfold readN; rw [if_neg H0.out]; dsimp only; rw [if_neg h1, if_neg h2, if_neg h3])
                  have e1 : (a == [102, 105, 101, 108, 100]) = false := by simpa [fieldW] using h1
                  have e2 : (a == [110, 105, 99, 107, 110, 97, 109, 101]) = false := by simpa [nickW] using h2
                  have e3 : (a == [115, 116, 114, 101, 101, 116]) = false := by simpa [streetW] using h3
                  clear h1 h2 h3
                  have HE14 := Lib.hid (HBad.out _ HRd.out (show (-1 : Int) < 0 by decide))
                  have HXw := HX0.out _ HBS.out
                  clear HNext
                  go_wp2_with (refine wpList_store_row rfl 33 (.tmp 2) (.tmp 34) rfl w.heap.size nil4 rfl rfl 33 nil4 HXw (by kernel_rfl) (by kernel_rfl) (by kernel_rfl) ?_)
                  exact bodyPost_row2 rfl rfl (heap_setRow HXw) Tryz.underlying33 rfl (by kernel_rfl) ⟨_, _, _, _, by rw [HE14.out]; rfl, by rw [HE14.out]; exact nil_schema _ _, below_setRow (HB1.out.trans (HBS.out.mono (Nat.le_succ _))) (Nat.le_refl _)⟩
          · have HRd := Lib.hid (read_else (s := s) h2 h3)
            have d2 : ((W.length : Int) == 2) = false := by simp; omega
            have d3 : ((W.length : Int) == 3) = false := by simp; omega
            obtain ⟨aw, cw, rfl⟩ := hvw.slice
            clear h2 h3 hvw
            have HE14 := Lib.hid (HBad.out _ HRd.out (show (-1 : Int) < 0 by decide))
            have HXw := HX0.out _ HBS.out
            clear HNext
            go_wp2_with (refine wpList_store_row rfl 33 (.tmp 2) (.tmp 34) rfl w.heap.size nil4 rfl rfl 33 nil4 HXw (by kernel_rfl) (by kernel_rfl) (by kernel_rfl) ?_)
            exact bodyPost_row2 rfl rfl (heap_setRow HXw) Tryz.underlying33 rfl (by kernel_rfl) ⟨_, _, _, _, by rw [HE14.out]; rfl, by rw [HE14.out]; exact nil_schema _ _, below_setRow (HB1.out.trans (HBS.out.mono (Nat.le_succ _))) (Nat.le_refl _)⟩
      · have e1 : ((x[k].toNat : Int) != 10) = true := by
          simp only [bne_iff_ne, ne_eq]; intro e; apply hc10; rw [← UInt8.toNat_inj]; simp; omega
        have hext := ext_one x k hlt
        have HK2 := Lib.hid (show RIn w W1 t s (p ++ [x[k]]) (k + 1) vf vt vn vs wr from ⟨K.out.pa, K.out.b, by
          rw [K.out.eq, hdr]; simp [refA, hc10], by have := K.out.len; simp; omega, by omega, K.out.good, fun b hb => by
          rcases List.mem_append.1 hb with hb | hb
          · exact K.out.no b hb
          · have := List.mem_singleton.1 hb; subst this; exact hc10⟩)
        clear hdr hc10
        go_wp2_with fail
        go_roundw
        case rel => exact ⟨s, p ++ [x[k]], k + 1, _, _, _, _, by go_num, rfl, HK2.out⟩
        case measure => simp [intOf]; omega
    · have hq : decide ((k : Int) < x.size) = false := by simp; omega
      obtain rfl : k = x.size := by omega
      have hend : refA [] nilS t = some (s, p) := by
        rw [K.out.eq, List.drop_eq_nil_of_le (by omega)]; rfl
      have hrv : r = if p = [] ∧ textL s = t then (if checkS s = 0 then (s, 0) else (nilS, checkS s)) else (nilS, 14) := by
        rw [HR.out, HT.out]; unfold refN; rw [if_neg (by omega), hend]
      have HRV := Lib.hid hrv
      have hXr := HX0.out _ K.out.b
      have HBZ := Lib.hid (HB1.out.trans (K.out.b.mono (Nat.le_succ _)))
      have htx := K.out.len
      clear hend hrv
      by_cases hp0 : p = []
      · subst hp0
        obtain ⟨af, cf, haf⟩ := own_slice K.out.pa.f
        obtain ⟨at', ct, hat⟩ := own_slice K.out.pa.t
        obtain ⟨an, cn, han⟩ := own_slice K.out.pa.n
        obtain ⟨as', cs, has⟩ := own_slice K.out.pa.s
        subst haf hat han has
        obtain ⟨y0, y1, y2, y3⟩ := cells4 K.out.pa.y
        have HXR := Lib.hid hXr; clear hXr
        have hroom := K.out.room htz
        have HRm := Lib.hid (show Room s 1000000 from ⟨by have := hroom.f; omega, by have := hroom.t; omega, by have := hroom.n; omega, by have := hroom.s; omega⟩)
        clear hroom
        go_wp2_with fail
        refine (rwritten_any Any1 _ _ _ _ s _ K.out.pa.schema.any (fun x hx => (K.out.good.f x hx).2) (by simp at htx; omega) HRm.out).mono ?_
        rintro e w5 ⟨rfl, hb5⟩
        have hy5 := blk_below hb5 zY K.out.pa.y
        obtain ⟨y0, y1, y2, y3⟩ := cells4 hy5
        have z5 := lt_of_blk hy5
        have HX5 := Lib.hid (blk_below hb5 (by omega) HXR.out)
        have HP5 := Lib.hid (K.out.pa.below hb5)
        have HB5 := Lib.hid (HBZ.out.trans (hb5.mono (by omega)))
        clear hb5 hy5
        obtain ⟨l, hl'⟩ : ∃ l, textL s = l := ⟨_, rfl⟩
        rw [hl'] at HRV ⊢
        by_cases hlt' : l = t
        · have hx : x = ⟨l.toArray⟩ := by
            apply ByteArray.ext; rw [hlt', ← HT.out]
          have HRV2 := Lib.hid (show r = if checkS s = 0 then (s, 0) else (nilS, checkS s) by rw [HRV.out, if_pos ⟨by first | rfl | trivial, hlt'⟩])
          clear HT HL HR hlt' hl'
          subst hx
          go_wp2_with fail
          refine (rscheck_any Any1 _ _ _ _ s _ HP5.out.schema.any).mono ?_
          obtain ⟨c, hc⟩ : ∃ c, checkS s = c := ⟨_, rfl⟩
          rw [hc] at HRV2 ⊢
          rintro e w6 ⟨rfl, hb6⟩
          have hy6 := blk_below hb6 z5 HP5.out.y
          obtain ⟨y0, y1, y2, y3⟩ := cells4 hy6
          have z6 := lt_of_blk hy6
          have HX6 := Lib.hid (blk_below hb6 (lt_of_blk HX5.out) HX5.out)
          have HP6 := Lib.hid (HP5.out.below hb6)
          have HB6 := Lib.hid (HB5.out.trans (hb6.mono (by omega)))
          clear hb6 hy6 hc
          by_cases hc0 : c = 0
          · subst hc0
            have HE0 := Lib.hid (show r = (s, 0) by rw [HRV2.out, if_pos rfl])
            go_wp2_with (refine wpList_store_row rfl 33 (.tmp 2) (.tmp 154) rfl w.heap.size _ rfl rfl 33 nil4 HX6.out (by kernel_rfl) (by kernel_rfl) (by kernel_rfl) ?_)
            exact bodyPost_row2 rfl rfl (heap_setRow HX6.out) Tryz.underlying33 rfl (by kernel_rfl) ⟨_, _, _, _, by rw [HE0.out]; rfl, by rw [HE0.out]; exact schema_setRow HP6.out.schema (Nat.lt_succ_self _), below_setRow HB6.out (Nat.le_refl _)⟩
          · have q4 : (c != 0) = true := by simpa using hc0
            have HE0 := Lib.hid (show r = (nilS, c) by rw [HRV2.out, if_neg hc0])
            clear hc0
            go_wp2_with (refine wpList_store_row rfl 33 (.tmp 2) (.tmp 152) rfl w.heap.size nil4 rfl rfl 33 nil4 HX6.out (by kernel_rfl) (by kernel_rfl) (by kernel_rfl) ?_)
            exact bodyPost_row2 rfl rfl (heap_setRow HX6.out) Tryz.underlying33 rfl (by kernel_rfl) ⟨_, _, _, _, by rw [HE0.out]; rfl, by rw [HE0.out]; exact nil_schema _ _, below_setRow HB6.out (Nat.le_refl _)⟩
        · have HE14 := Lib.hid (show r = (nilS, 14) by rw [HRV.out, if_neg (fun h => hlt' h.2)])
          have hxt : x.toList = t := by rw [Lib.toList_data x]; exact HT.out
          have q1 : (l != x.toList) = true := by rw [hxt]; simpa using hlt'
          have q2 : (l == x.toList) = false := by rw [hxt]; simpa using hlt'
          clear hxt hlt' hl'
          go_wp2_with (refine wpList_store_row rfl 33 (.tmp 2) (.tmp 147) rfl w.heap.size nil4 rfl rfl 33 nil4 HX5.out (by kernel_rfl) (by kernel_rfl) (by kernel_rfl) ?_)
          exact bodyPost_row2 rfl rfl (heap_setRow HX5.out) Tryz.underlying33 rfl (by kernel_rfl) ⟨_, _, _, _, by rw [HE14.out]; rfl, by rw [HE14.out]; exact nil_schema _ _, below_setRow HB5.out (Nat.le_refl _)⟩
      · have HE14 := Lib.hid (show r = (nilS, 14) by rw [HRV.out, if_neg (fun h => hp0 h.1)])
        have q1 : (p == []) = false := by simpa using hp0
        have q2 : p.isEmpty = false := by simpa using hp0
        have q3 : (p != []) = true := by simpa using hp0
        have HXR := Lib.hid hXr; clear hXr hp0
        go_wp2_with (refine wpList_store_row rfl 33 (.tmp 2) (.tmp 147) rfl w.heap.size nil4 rfl rfl 33 nil4 HXR.out (by kernel_rfl) (by kernel_rfl) (by kernel_rfl) ?_)
        exact bodyPost_row2 rfl rfl (heap_setRow HXR.out) Tryz.underlying33 rfl (by kernel_rfl) ⟨_, _, _, _, by rw [HE14.out]; rfl, by rw [HE14.out]; exact nil_schema _ _, below_setRow HBZ.out (Nat.le_refl _)⟩
set_option maxHeartbeats 4000000 in
theorem rparse_long (x : ByteArray) (w : World) (ht : 65536 < x.size) (hs : x.size ≤ 9223372036854775807) (r : SchemaL × Int) (hr : r = refN x.data.toList) :
    Calls Tryz.prog 37 #[.string x] w (ParsePost r w) := by
  have d1 : decide ((65536 : Int) < x.size) = true := by simp; omega
  have hl : x.data.toList.length = x.size := by simp
  have HN := Lib.hid (show r = (nilS, 1) by rw [hr]; unfold refN; rw [if_pos (by omega)])
  clear hr hl
  go_enter Tryz.func37, Tryz.ntmps37
  go_wp2_with (refine wpList_store_row rfl 33 (.tmp 2) (.tmp 14) rfl w.heap.size nil4 rfl rfl 33 nil4 (blk_new rfl) (by kernel_rfl) (by kernel_rfl) (by kernel_rfl) ?_)
  exact bodyPost_row2 rfl rfl (heap_setRow (blk_new rfl)) Tryz.underlying33 rfl (by kernel_rfl) ⟨_, _, _, _, by rw [HN.out]; rfl, by rw [HN.out]; exact nil_schema _ _, below_setRow ((Below.refl _ _).alloc (Nat.le_refl _) _) (Nat.le_refl _)⟩
theorem rsparse_any (t : List UInt8) (w : World) (ht : t.length ≤ 9223372036854775807) :
    Calls Tryz.prog 37 #[strV t] w (ParsePost (parseN t) w) := by
  have e : parseN t = refN (⟨t.toArray⟩ : ByteArray).data.toList := by rw [ref_parse]
  by_cases h : t.length ≤ 65536
  · exact rparse_yes ⟨t.toArray⟩ w (by rw [mk_size]; omega) _ e
  · exact rparse_long ⟨t.toArray⟩ w (by rw [mk_size]; omega) (by rw [mk_size]; omega) _ e
end Go.Proofs.YtfgoiojmbphmnaaGreatDoor
end
section
/- The law SchemaExact, walked: for every list of numbers, schema, place, value and text it returns true and leaves what was there. -/
set_option linter.unusedSimpArgs false
set_option linter.unusedVariables false
set_option maxRecDepth 100000
namespace Go.Proofs.YtfgoiojmbphmnaaGreatDoor
open Go.RowKit Cal
attribute [local go_sem] toList_mk mk_size str_append
theorem gramsN_len (s : SchemaL) (f : Int) (l : List UInt8) : (gramsN s f l).1.length ≤ 80 := by
  unfold gramsN
  by_cases h1 : (findN s f).2 = 0
  · rw [if_pos h1]
    by_cases h2 : normalB s f l = true
    · rw [if_pos h2]
      have hk := findN_kind h1
      unfold normalB at h2
      rw [if_pos h1] at h2
      unfold gramsK
      dsimp only
      by_cases h0 : l = []
      · rw [if_pos h0]; simp
      · rw [if_neg h0] at h2 ⊢
        obtain ⟨g1, g2, g3⟩ := own_facts h2 hk
        split
        · rw [posL_len]; omega
        · split
          · simp
          · have := grams_bound g1; omega
    · rw [if_neg h2]; simp
  · rw [if_neg h1]; simp
theorem sameS_refl' (s : SchemaL) : sameS s s = true := by unfold sameS; simp
theorem few_valid' {s : SchemaL} (h : checkS s = 0) : Few4 s := by
  obtain ⟨g1, _, g3⟩ := check_fields h
  obtain ⟨⟨n1, n2, n3⟩, _⟩ := check_zero g3
  exact ⟨by omega, by omega, by omega, by omega⟩
theorem few_parse (t : List UInt8) : Few4 (parseN t).1 := by
  unfold parseN
  split
  · exact ⟨by simp [nilS], by simp [nilS], by simp [nilS], by simp [nilS]⟩
  · split
    · exact ⟨by simp [nilS], by simp [nilS], by simp [nilS], by simp [nilS]⟩
    · split
      · exact few_valid' (by assumption)
      · exact ⟨by simp [nilS], by simp [nilS], by simp [nilS], by simp [nilS]⟩
theorem textN_len (s : SchemaL) : (textN s).1.length ≤ 14000 := by
  unfold textN
  split
  · exact text_bound (by assumption)
  · simp
/-- where the law stands: the deck in block D, what was there of old as it was -/
structure XBase (D : Nat) (w wx : World) : Prop where
  deck : DeckAt wx D
  base : Below w.heap.size w wx
  lt : w.heap.size ≤ D
theorem XBase.moved {D : Nat} {w wx wy : World} (h : XBase D w wx) (m : Moved D wx wy) : XBase D w wy := ⟨m.deck, m.base h.base h.lt, h.lt⟩
theorem cell_moved {D : Nat} {wx wy : World} {b o : Nat} {v : Value} (m : Moved D wx wy) (hb : b ≠ D) (h : wx.cell? ⟨b, o, none⟩ = some v) : wy.cell? ⟨b, o, none⟩ = some v :=
  (World.cell?_of_block (w := wx) (a := ⟨b, o, none⟩) (m.grown.block b (World.block_lt_of_cell? _ ⟨b, o, none⟩ h) (by simp; omega))).trans h
/-- the row of three schemas in block G -/
structure XThree (D : Nat) (w : World) (G : Nat) (wx : World) : Prop where
  b : XBase D w wx
  gD : G ≠ D
  all : ∀ k, k < 3 → ∃ vf vt vn vs s, wx.cell? ⟨G, k * 4, none⟩ = some vf ∧ wx.cell? ⟨G, k * 4 + 1, none⟩ = some vt ∧ wx.cell? ⟨G, k * 4 + 2, none⟩ = some vn ∧ wx.cell? ⟨G, k * 4 + 3, none⟩ = some vs ∧ SchemaAt wx (fun b => b ≠ D) vf vt vn vs s ∧ s.fields.length ≤ 20
theorem XThree.moved {D : Nat} {w : World} {G : Nat} {wx wy : World} (h : XThree D w G wx) (m : Moved D wx wy) : XThree D w G wy :=
  ⟨h.b.moved m, h.gD, fun k hk => by
    obtain ⟨vf, vt, vn, vs, s, c0, c1, c2, c3, hs, hl⟩ := h.all k hk
    exact ⟨vf, vt, vn, vs, s, cell_moved m h.gD c0, cell_moved m h.gD c1, cell_moved m h.gD c2, cell_moved m h.gD c3, hs.moved' (fun _ h => h) m, hl⟩⟩
/-- a schema in hand, in block X; the world has moved on from w0 -/
structure XTwo (D : Nat) (w w0 : World) (X : Nat) (vf vt vn vs : Value) (s : SchemaL) (wx : World) : Prop where
  b : XBase D w wx
  m : Moved D w0 wx
  x : wx.heap[X]? = some (.cells #[vf, vt, vn, vs] 33 (0, 0))
  sc : SchemaAt wx (fun b => b ≠ D) vf vt vn vs s
  xD : X ≠ D
theorem XTwo.moved {D : Nat} {w w0 : World} {X : Nat} {vf vt vn vs : Value} {s : SchemaL} {wx wy : World} (h : XTwo D w w0 X vf vt vn vs s wx) (m : Moved D wx wy) : XTwo D w w0 X vf vt vn vs s wy :=
  ⟨h.b.moved m, h.m.trans m, m.blk h.xD h.x, h.sc.moved' (fun _ h => h) m, h.xD⟩
theorem XTwo.below {D : Nat} {w w0 : World} {X : Nat} {vf vt vn vs : Value} {s : SchemaL} {wx wy : World} (h : XTwo D w w0 X vf vt vn vs s wx) (hb : Below wx.heap.size wx wy) : XTwo D w w0 X vf vt vn vs s wy := h.moved ((Moved.start h.b.deck).below hb)
theorem XTwo.held {D : Nat} {w w0 : World} {X : Nat} {vf vt vn vs : Value} {s : SchemaL} {wx : World} (h : XTwo D w w0 X vf vt vn vs s wx) : wx.cell? ⟨X, 0, none⟩ = some vf ∧ wx.cell? ⟨X, 1, none⟩ = some vt ∧ wx.cell? ⟨X, 2, none⟩ = some vn ∧ wx.cell? ⟨X, 3, none⟩ = some vs := cells4 h.x
theorem XTwo.start {D : Nat} {w w0 : World} {X : Nat} {vf vt vn vs : Value} {s : SchemaL} {wx : World} (h : XTwo D w w0 X vf vt vn vs s wx) : XTwo D w wx X vf vt vn vs s wx := ⟨h.b, Moved.start h.b.deck, h.x, h.sc, h.xD⟩
/-- the twelve cells of three schemas -/
theorem three_start {D : Nat} {w W3 w5 : World} {t : TypeId} {af at' an as' bf bt bn bs ef et en es : Value} {s0 s1 s2 : SchemaL} (hb : XBase D w w5) (h0 : SchemaAt w Any1 af at' an as' s0) (h1 : SchemaAt w5 (fun b => W3.heap.size ≤ b) bf bt bn bs s1) (h2 : SchemaAt w5 (fun b => W3.heap.size ≤ b) ef et en es s2)
    (hl0 : s0.fields.length ≤ 20) (hl1 : s1.fields.length ≤ 20) (hl2 : s2.fields.length ≤ 20) (hD : D < W3.heap.size) :
    XThree D w w5.heap.size (w5.alloc (.cells #[af, at', an, as', bf, bt, bn, bs, ef, et, en, es] t)) := by
  have bl : Below w5.heap.size w5 (w5.alloc (.cells #[af, at', an, as', bf, bt, bn, bs, ef, et, en, es] t)) := (Below.refl _ _).alloc (Nat.le_refl _) _
  have hlt := hb.deck.lt
  have hx : (w5.alloc (.cells #[af, at', an, as', bf, bt, bn, bs, ef, et, en, es] t)).heap[w5.heap.size]? = some (.cells #[af, at', an, as', bf, bt, bn, bs, ef, et, en, es] t (0, 0)) := blk_new rfl
  have cc : ∀ j v, (#[af, at', an, as', bf, bt, bn, bs, ef, et, en, es] : Array Value)[j]? = some v → (w5.alloc (.cells #[af, at', an, as', bf, bt, bn, bs, ef, et, en, es] t)).cell? ⟨w5.heap.size, j, none⟩ = some v := fun j v h => by rw [cell_of_row _ _ _ _ _ _ hx]; exact h
  refine ⟨hb.moved ((Moved.start hb.deck).below bl), by omega, fun k hk => ?_⟩
  have hlw := hb.lt
  have mv0 : ∀ b, b < w.heap.size → Any1 b → (w5.alloc (.cells #[af, at', an, as', bf, bt, bn, bs, ef, et, en, es] t)).heap[b]? = w.heap[b]? ∧ b ≠ D := fun b h _ => ⟨(hb.base.trans (bl.mono hb.base.size)).block b h, by omega⟩
  have z0 := (hb.base.trans (bl.mono hb.base.size)).size
  have mv : ∀ b, b < w5.heap.size → W3.heap.size ≤ b → (w5.alloc (.cells #[af, at', an, as', bf, bt, bn, bs, ef, et, en, es] t)).heap[b]? = w5.heap[b]? ∧ b ≠ D := fun b h h' => ⟨bl.block b h, by omega⟩
  rcases (by omega : k = 0 ∨ k = 1 ∨ k = 2) with rfl | rfl | rfl
  · exact ⟨_, _, _, _, s0, cc 0 _ rfl, cc 1 _ rfl, cc 2 _ rfl, cc 3 _ rfl, ⟨h0.1.move z0 mv0, h0.2.1.move z0 mv0, h0.2.2.1.move z0 mv0, h0.2.2.2.move z0 mv0⟩, hl0⟩
  · exact ⟨_, _, _, _, s1, cc 4 _ rfl, cc 5 _ rfl, cc 6 _ rfl, cc 7 _ rfl, ⟨h1.1.move bl.size mv, h1.2.1.move bl.size mv, h1.2.2.1.move bl.size mv, h1.2.2.2.move bl.size mv⟩, hl1⟩
  · exact ⟨_, _, _, _, s2, cc 8 _ rfl, cc 9 _ rfl, cc 10 _ rfl, cc 11 _ rfl, ⟨h2.1.move bl.size mv, h2.2.1.move bl.size mv, h2.2.2.1.move bl.size mv, h2.2.2.2.move bl.size mv⟩, hl2⟩
theorem ints3 {D : Nat} {wb : World} {t : TypeId} (hb : DeckAt wb D) (x y z : Int) : wb.heap.size ≠ D ∧ Moved D wb (wb.alloc (.cells #[.int .i64 x, .int .i64 y, .int .i64 z] t)) ∧ ∀ j, j < 3 → ∃ u : Int, (wb.alloc (.cells #[.int .i64 x, .int .i64 y, .int .i64 z] t)).cell? ⟨wb.heap.size, j, none⟩ = some (.int .i64 u) := by
  have hlt := hb.lt
  refine ⟨by omega, (Moved.start hb).alloc _, fun j hj => ?_⟩
  have hx : (wb.alloc (.cells #[.int .i64 x, .int .i64 y, .int .i64 z] t)).heap[wb.heap.size]? = some (.cells #[.int .i64 x, .int .i64 y, .int .i64 z] t (0, 0)) := blk_new rfl
  rcases (by omega : j = 0 ∨ j = 1 ∨ j = 2) with rfl | rfl | rfl
  · exact ⟨x, by rw [cell_of_row _ _ _ _ _ _ hx]; rfl⟩
  · exact ⟨y, by rw [cell_of_row _ _ _ _ _ _ hx]; rfl⟩
  · exact ⟨z, by rw [cell_of_row _ _ _ _ _ _ hx]; rfl⟩
theorem strs_row {D : Nat} {wb : World} {t : TypeId} (hb : DeckAt wb D) (M : Nat) (L : List (List UInt8)) (hL : ∀ x ∈ L, x.length ≤ M) (cs : Array Value) (hc : cs = (L.map strV).toArray) : wb.heap.size ≠ D ∧ Moved D wb (wb.alloc (.cells cs t)) ∧ ∀ j, j < L.length → ∃ x, (wb.alloc (.cells cs t)).cell? ⟨wb.heap.size, j, none⟩ = some (strV x) ∧ x.length ≤ M := by
  have hlt := hb.lt
  refine ⟨by omega, (Moved.start hb).alloc _, fun j hj => ⟨L[j], ?_, hL _ (List.getElem_mem hj)⟩⟩
  have hx : (wb.alloc (.cells cs t)).heap[wb.heap.size]? = some (.cells cs t (0, 0)) := blk_new rfl
  rw [cell_of_row _ _ _ _ _ _ hx, hc]
  simp [hj]
set_option maxHeartbeats 16000000 in
theorem sexact_walk (a : Option Addr) (n cap : Nat) (zs : List Int) (vf vt vn vs : Value) (s0 : SchemaL) (f : Int) (value text : ByteArray) (w : World) (hr : IsRow .i64 w a n cap zs) (hs : SchemaAt w Any1 vf vt vn vs s0) (hf : (Lit.int .i64 f).wf = true) (hv : value.size ≤ maxLen) (ht : text.size ≤ maxLen) (hm : MaxAt w) :
    Calls Tryz.prog 6 #[.slice a n cap, .agg #[vf, vt, vn, vs], .int .i64 f, .string value, .string text] w fun e w' => e = .returned (.bool true) ∧ Below w.heap.size w w' := by
  obtain ⟨v0, rfl⟩ : ∃ l : List UInt8, value = ⟨l.toArray⟩ := ⟨value.data.toList, by simp⟩
  obtain ⟨t0, rfl⟩ : ∃ l : List UInt8, text = ⟨l.toArray⟩ := ⟨text.data.toList, by simp⟩
  obtain ⟨af, cf, rfl⟩ := hs.1.slice
  obtain ⟨at', ct, rfl⟩ := hs.2.1.slice
  obtain ⟨an, cn, rfl⟩ := hs.2.2.1.slice
  obtain ⟨as', cs, rfl⟩ := hs.2.2.2.slice
  have HS0 := Lib.hid hs
  have HM := Lib.hid hm
  have HR := Lib.hid hr
  clear hs hm hr hf hv
  have htl : t0.length ≤ 9223372036854775807 := by rw [mk_size] at ht; unfold maxLen at ht; omega
  clear ht
  go_enter Tryz.func6, Tryz.ntmps6
  go_wp2_with fail
  refine (awake_s _).mono ?_; rintro e w1 ⟨rfl, hb1⟩
  have HX1 := Lib.hid (blk_below (b := w.heap.size) (o := .cells #[.slice af s0.fields.length cf, .slice at' s0.rules.titles.length ct, .slice an s0.rules.nicks.length cn, .slice as' s0.rules.streets.length cs] 33 (0, 0)) hb1 (by simp) (blk_new rfl))
  have HB1 := Lib.hid (((Below.refl w.heap.size w).alloc (Nat.le_refl _) (.cells #[.slice af s0.fields.length cf, .slice at' s0.rules.titles.length ct, .slice an s0.rules.nicks.length cn, .slice as' s0.rules.streets.length cs] 33)).trans (hb1.mono (by simp)))
  have zX1 := lt_of_blk HX1.out
  clear hb1
  obtain ⟨c0, c1, c2, c3⟩ := cells4 HX1.out
  by_cases hn : n ≤ 400
  · have hd : decide (n ≤ 400) = true := by simpa using hn
    go_wp2_with fail
    refine (few_any a n cap _).mono ?_; rintro e w' ⟨rfl, rfl⟩
    go_wp2_with fail
    refine (small_any Any1 _ _ _ _ s0 _ (HS0.out.below HB1.out)).mono ?_; rintro e w2 ⟨rfl, hb2⟩
    have HX2 := Lib.hid (blk_below hb2 zX1 HX1.out)
    have HB2 := Lib.hid (HB1.out.trans (hb2.mono HB1.out.size))
    have zX2 := lt_of_blk HX2.out
    clear hb2 c0 c1 c2 c3 zX1 HX1 HB1
    by_cases hsm : smallB s0 = true
    · rw [hsm]
      go_wp2_with fail
      refine (mshort_any Any1 _ [v0] _ (blockVec (k := 1) (enc := encS) (L := [v0]) (S := Any1) (A := w2.heap.size) (fun _ => rfl) (blk_new rfl) trivial 1 rfl) (by simp)).mono ?_
      rintro e w3 ⟨rfl, hb3⟩
      have HX3 := Lib.hid (blk_below (b := w.heap.size) hb3 (by simp; omega) (blk_old HX2.out))
      have HB3 := Lib.hid ((HB2.out.alloc HB2.out.size _).trans (hb3.mono (by have := HB2.out.size; simp; omega)))
      have zX3 := lt_of_blk HX3.out
      clear hb3 zX2 HX2 HB2
      rw [show ([v0].all fun x => decide (x.length ≤ 200)) = decide (v0.length ≤ 200) by simp]
      by_cases hv : v0.length ≤ 200
      · have hd2 : decide (v0.length ≤ 200) = true := by simpa using hv
        rw [hd2]
        by_cases ht : t0.length ≤ 600
        · have hd3 : decide ((600 : Int) < t0.length) = false := by simp; omega
          have hF0 : s0.fields.length ≤ 20 := by unfold smallB at hsm; simp at hsm; omega
          clear hsm hd2 htl
          go_wp2_with fail
          refine (new_any a n cap _).mono ?_; rintro e w' ⟨rfl, rfl⟩
          have Hdk := Lib.hid (deck_law (cap := cap) hn HR.out HB3.out)
          go_wp2_with fail
          have M0 := Lib.hid (Moved.start Hdk.out)
          have HX4 := Lib.hid (show (w3.alloc (.cells #[.slice a n cap, .int .i64 0, .int .u64 11400714819323198485] 71)).heap[w.heap.size]? = _ from blk_old HX3.out)
          obtain ⟨W3, hW3⟩ : ∃ W, w3.alloc (.cells #[.slice a n cap, .int .i64 0, .int .u64 11400714819323198485] 71) = W := ⟨_, rfl⟩
          have HB4 := Lib.hid (HB3.out.alloc HB3.out.size (.cells #[.slice a n cap, .int .i64 0, .int .u64 11400714819323198485] 71))
          have zD : w.heap.size < w3.heap.size := zX3
          rw [hW3] at M0 HX4 HB4 ⊢
          have hDz : W3.heap.size = w3.heap.size + 1 := by rw [← hW3]; simp
          generalize w3.heap.size = D at *
          clear hW3 Hdk HX3 HB3 zX3 hn
          obtain ⟨c0, c1, c2, c3⟩ := cells4 HX4.out
          refine wp_region_noPanic ?_
          refine wp_region_held_drew (S := (fun w' => w'.cell? ⟨w.heap.size, 0, none⟩ = some (.slice af s0.fields.length cf) ∧ w'.cell? ⟨w.heap.size, 1, none⟩ = some (.slice at' s0.rules.titles.length ct) ∧ w'.cell? ⟨w.heap.size, 2, none⟩ = some (.slice an s0.rules.nicks.length cn) ∧ w'.cell? ⟨w.heap.size, 3, none⟩ = some (.slice as' s0.rules.streets.length cs))) (by kernel_rfl) (⟨c0, c1, c2, c3⟩) (fun hHeld => ?_)
          refine wpAnyH_take (i := 0) (v := ?_) rfl (by kernel_rfl) (by kernel_rfl) (by kernel_rfl) (fun _ _ _ h => h) (Or.inl ⟨by rfl, ?_⟩) (by assumption) ?_
          rotate_left 1
          · (intro wS hSw; (try dsimp only at hSw); go_simp; try with_reducible rfl)
          try simp only [List.getElem_toArray, List.getElem_cons_zero, List.getElem_cons_succ, Act.put, List.setIfInBounds_toArray, List.set_cons_zero, List.set_cons_succ]
          refine wpAnyH_take (i := 1) (v := ?_) rfl (by kernel_rfl) (by kernel_rfl) (by kernel_rfl) (fun _ _ _ h => h) (Or.inl ⟨by rfl, ?_⟩) (by assumption) ?_
          rotate_left 1
          · (intro wS hSw; (try dsimp only at hSw); go_simp; try with_reducible rfl)
          try simp only [List.getElem_toArray, List.getElem_cons_zero, List.getElem_cons_succ, Act.put, List.setIfInBounds_toArray, List.set_cons_zero, List.set_cons_succ]
          refine wpAnyH_take (i := 3) (v := ?_) rfl (by kernel_rfl) (by kernel_rfl) (by kernel_rfl) (fun _ _ _ h => h) (Or.inl ⟨by rfl, ?_⟩) (by assumption) ?_
          rotate_left 1
          · (intro wS hSw; (try dsimp only at hSw); go_simp; try with_reducible rfl)
          try simp only [List.getElem_toArray, List.getElem_cons_zero, List.getElem_cons_succ, Act.put, List.setIfInBounds_toArray, List.set_cons_zero, List.set_cons_succ]
          refine wpAnyH_take (i := 7) (v := ?_) rfl (by kernel_rfl) (by kernel_rfl) (by kernel_rfl) (fun _ _ _ h => h) (Or.inl ⟨by rfl, ?_⟩) (by assumption) ?_
          rotate_left 1
          · (intro wS hSw; (try dsimp only at hSw); go_simp; try with_reducible rfl)
          try simp only [List.getElem_toArray, List.getElem_cons_zero, List.getElem_cons_succ, Act.put, List.setIfInBounds_toArray, List.set_cons_zero, List.set_cons_succ]
          refine wpAnyH_ready (rs := [2]) (by kernel_rfl) (by simp) ?_
          refine AllReadyH.cons rfl (fun K hK => ?_) AllReadyH.nil
          go_simp
          refine (schema_deal D _ (M0.out.drew).deck).mono ?_; rintro e w4 ⟨uf, ut, un, us, s1, rfl, hS, hSD, mv⟩
          refine hK.out _ _ (cells4 (mv.blk (by omega) HX4.out)) (fun hHeld => ?_)
          clear hK K
          try simp only [List.getElem_toArray, List.getElem_cons_zero, List.getElem_cons_succ, Act.put, List.setIfInBounds_toArray, List.set_cons_zero, List.set_cons_succ]
          obtain ⟨bf, df, rfl⟩ := hS.1.slice
          obtain ⟨bt, dt, rfl⟩ := hS.2.1.slice
          obtain ⟨bn, dn, rfl⟩ := hS.2.2.1.slice
          obtain ⟨bs, ds, rfl⟩ := hS.2.2.2.slice
          have M4 := Lib.hid ((M0.out.drew).trans mv)
          have HS1 := Lib.hid hS
          have hF1 := hSD.fields.len
          clear hS hSD mv M0
          refine wpAnyH_ready (rs := [4]) (by kernel_rfl) (by simp) ?_
          refine AllReadyH.cons rfl (fun K hK => ?_) AllReadyH.nil
          go_simp
          refine (sbent_deal D _ M4.out.deck).mono ?_; rintro e w5 ⟨xf, xt, xn, xs, s2, rfl, hS, hfw, mv⟩
          refine hK.out _ _ (cells4 (mv.blk (by omega) (M4.out.blk (by omega) HX4.out))) (fun hHeld => ?_)
          clear hK K
          try simp only [List.getElem_toArray, List.getElem_cons_zero, List.getElem_cons_succ, Act.put, List.setIfInBounds_toArray, List.set_cons_zero, List.set_cons_succ]
          obtain ⟨ef, gf, rfl⟩ := hS.1.slice
          obtain ⟨et, gt, rfl⟩ := hS.2.1.slice
          obtain ⟨en, gn, rfl⟩ := hS.2.2.1.slice
          obtain ⟨es, gs, rfl⟩ := hS.2.2.2.slice
          have M5 := Lib.hid (M4.out.trans mv)
          have HS2 := Lib.hid hS
          have hF2 := hfw.1
          have HS1 := Lib.hid (HS1.out.moved' (fun b hb => by have : W3.heap.size ≤ b := hb; omega) mv)
          have hz5 : W3.heap.size ≤ w4.heap.size := M4.out.size
          clear hS hfw mv M4
          refine wpAnyH_ready (rs := [5]) (by kernel_rfl) (by simp) ?_
          refine AllReadyH.cons rfl (fun K hK => ?_) AllReadyH.nil
          go_simp
          skip
          refine hK.out _ _ (cells4 (blk_old (M5.out.blk (by omega) HX4.out))) (fun hHeld => ?_)
          clear hK K
          try simp only [List.getElem_toArray, List.getElem_cons_zero, List.getElem_cons_succ, Act.put, List.setIfInBounds_toArray, List.set_cons_zero, List.set_cons_succ]
          refine wpAnyH_take (i := 6) (v := ?_) rfl (by kernel_rfl) (by kernel_rfl) (by kernel_rfl) (fun _ _ _ h => h) (Or.inl ⟨by rfl, ?_⟩) (by assumption) ?_
          rotate_left 1
          · (intro wS hSw; (try dsimp only at hSw); go_simp; try with_reducible rfl)
          try simp only [List.getElem_toArray, List.getElem_cons_zero, List.getElem_cons_succ, Act.put, List.setIfInBounds_toArray, List.set_cons_zero, List.set_cons_succ]
          refine wpAnyH_done (by kernel_rfl) ?_ _
          refine NoPanic.normal ?_
          go_wp2_with fail
          refine wp_world (fun WS hWS => ?_)
          have K0 := Lib.hid (show XThree D w w5.heap.size WS by rw [hWS]; exact three_start ⟨M5.out.deck, M5.out.base HB4.out (by omega), by omega⟩ HS0.out HS1.out (W3 := W3) ⟨HS2.out.1.weaken (fun b h => by omega), HS2.out.2.weaken (fun b h => by omega)⟩ hF0 (by have := hF1; omega) (by have := hF2; omega) (by omega))
          generalize w5.heap.size = G at *
          clear hWS M5 HS1 HS2 hF0 hF1 hF2 hz5 HX4 HB4 c0 c1 c2 c3 hDz
          go_loopw [71] (fun i wr => ∃ k : Nat, k ≤ 3 ∧ i = .int .i64 k ∧ XThree D w G wr) (fun i _ => 3 - (intOf i).toNat)
          case atStart => exact ⟨0, by omega, rfl, K0.out⟩
          case round =>
            obtain ⟨k, hk, rfl, hb⟩ := hrel
            have KR := Lib.hid hb
            clear hb
            by_cases hlt : k < 3
            · have hq : decide ((k : Int) < 3) = true := by simp; omega
              obtain ⟨uf, ut, un, us, s, c0, c1, c2, c3, hs, hl⟩ := KR.out.all k hlt
              obtain ⟨qf, pf, rfl⟩ := hs.1.slice
              obtain ⟨qt, pt, rfl⟩ := hs.2.1.slice
              obtain ⟨qn, pn, rfl⟩ := hs.2.2.1.slice
              obtain ⟨qs, ps, rfl⟩ := hs.2.2.2.slice
              have HSS := Lib.hid hs
              clear hs
              go_wp2_with fail
              have K1 := Lib.hid (show XTwo D w wr wr.heap.size (.slice qf s.fields.length pf) (.slice qt s.rules.titles.length pt) (.slice qn s.rules.nicks.length pn) (.slice qs s.rules.streets.length ps) s (wr.alloc (.cells #[.slice qf s.fields.length pf, .slice qt s.rules.titles.length pt, .slice qn s.rules.nicks.length pn, .slice qs s.rules.streets.length ps] 33)) from by
                have hbl : Below wr.heap.size wr (wr.alloc (.cells #[.slice qf s.fields.length pf, .slice qt s.rules.titles.length pt, .slice qn s.rules.nicks.length pn, .slice qs s.rules.streets.length ps] 33)) := (Below.refl _ _).alloc (Nat.le_refl _) _
                have hmv := (Moved.start KR.out.b.deck).below hbl
                have hlD := KR.out.b.deck.lt
                exact ⟨KR.out.b.moved hmv, hmv, blk_new rfl, HSS.out.below hbl, by omega⟩)
              clear HSS c0 c1 c2 c3
              obtain ⟨c0, c1, c2, c3⟩ := K1.out.held
              refine wp_region_noPanic ?_
              refine wp_region_held_drew (S := (fun w' => w'.cell? ⟨wr.heap.size, 0, none⟩ = some (.slice qf s.fields.length pf) ∧ w'.cell? ⟨wr.heap.size, 1, none⟩ = some (.slice qt s.rules.titles.length pt) ∧ w'.cell? ⟨wr.heap.size, 2, none⟩ = some (.slice qn s.rules.nicks.length pn) ∧ w'.cell? ⟨wr.heap.size, 3, none⟩ = some (.slice qs s.rules.streets.length ps))) (by kernel_rfl) (⟨c0, c1, c2, c3⟩) (fun hHeld => ?_)
              refine wpAnyH_take (i := 0) (v := ?_) rfl (by kernel_rfl) (by kernel_rfl) (by kernel_rfl) (fun _ _ _ h => h) (Or.inl ⟨by rfl, ?_⟩) (by assumption) ?_
              rotate_left 1
              · (intro wS hSw; (try dsimp only at hSw); go_simp; try with_reducible rfl)
              try simp only [List.getElem_toArray, List.getElem_cons_zero, List.getElem_cons_succ, Act.put, List.setIfInBounds_toArray, List.set_cons_zero, List.set_cons_succ]
              refine wpAnyH_take (i := 2) (v := ?_) rfl (by kernel_rfl) (by kernel_rfl) (by kernel_rfl) (fun _ _ _ h => h) (Or.inl ⟨by rfl, ?_⟩) (by assumption) ?_
              rotate_left 1
              · (intro wS hSw; (try dsimp only at hSw); go_simp; try with_reducible rfl)
              try simp only [List.getElem_toArray, List.getElem_cons_zero, List.getElem_cons_succ, Act.put, List.setIfInBounds_toArray, List.set_cons_zero, List.set_cons_succ]
              refine wpAnyH_ready (rs := [1]) (by kernel_rfl) (by simp) ?_
              refine AllReadyH.cons rfl (fun K hK => ?_) AllReadyH.nil
              go_simp
              refine (scheck_any _ _ _ _ _ s _ (K1.out.below (Below.refl _ _).drew).sc).mono ?_; rintro e wa ⟨rfl, hb⟩; have K2 := Lib.hid ((K1.out.below (Below.refl _ _).drew).below hb); clear hb K1
              refine hK.out _ _ (K2.out.held) (fun hHeld => ?_)
              clear hK K
              try simp only [List.getElem_toArray, List.getElem_cons_zero, List.getElem_cons_succ, Act.put, List.setIfInBounds_toArray, List.set_cons_zero, List.set_cons_succ]
              refine wpAnyH_ready (rs := [3]) (by kernel_rfl) (by simp) ?_
              refine AllReadyH.cons rfl (fun K hK => ?_) AllReadyH.nil
              go_simp
              refine (rscheck_any _ _ _ _ _ s _ K2.out.sc).mono ?_; rintro e wb ⟨rfl, hb⟩; have K3 := Lib.hid (K2.out.below hb); clear hb K2
              refine hK.out _ _ (K3.out.held) (fun hHeld => ?_)
              clear hK K
              try simp only [List.getElem_toArray, List.getElem_cons_zero, List.getElem_cons_succ, Act.put, List.setIfInBounds_toArray, List.set_cons_zero, List.set_cons_succ]
              refine wpAnyH_take (i := 4) (v := ?_) rfl (by kernel_rfl) (by kernel_rfl) (by kernel_rfl) (fun _ _ _ h => h) (Or.inl ⟨by rfl, ?_⟩) (by assumption) ?_
              rotate_left 1
              · (intro wS hSw; (try dsimp only at hSw); go_simp; try with_reducible rfl)
              try simp only [List.getElem_toArray, List.getElem_cons_zero, List.getElem_cons_succ, Act.put, List.setIfInBounds_toArray, List.set_cons_zero, List.set_cons_succ]
              refine wpAnyH_done (by kernel_rfl) ?_ _
              refine NoPanic.normal ?_
              clear c0 c1 c2 c3
              obtain ⟨c0, c1, c2, c3⟩ := K3.out.held
              have hsub : IntKind.i64.wrap ((s.fields.length : Int) - 1) = (s.fields.length : Int) - 1 := IntWalk.i64_in _ ⟨by omega, by omega⟩
              go_wp2_with fail
              clear hsub
              refine wp_world (fun WA hWA => ?_)
              obtain ⟨hVD, mvA, hV⟩ := ints3 (t := 3) K3.out.b.deck f 0 ((s.fields.length : Int) - 1)
              rw [← hWA] at mvA hV
              have K4 := Lib.hid (K3.out.moved mvA)
              have HV := Lib.hid hV
              generalize wb.heap.size = V at *
              generalize wr.heap.size = X at *
              clear hWA mvA hV K3 c0 c1 c2 c3
              go_loopw [87] (fun i wr2 => ∃ k2 : Nat, k2 ≤ 3 ∧ i = .int .i64 k2 ∧ XTwo D w WA X (.slice qf s.fields.length pf) (.slice qt s.rules.titles.length pt) (.slice qn s.rules.nicks.length pn) (.slice qs s.rules.streets.length ps) s wr2) (fun i _ => 3 - (intOf i).toNat)
              case atStart => exact ⟨0, by omega, rfl, K4.out.start⟩
              case round =>
                obtain ⟨k2, hk2, rfl, hb⟩ := hrel
                have L0 := Lib.hid hb
                clear hb
                by_cases hlt2 : k2 < 3
                · have hq2 : decide ((k2 : Int) < 3) = true := by simp; omega
                  obtain ⟨y, cy⟩ := HV.out k2 hlt2
                  have cy := cell_moved L0.out.m hVD cy
                  go_wp2_with fail
                  refine (next_any D _ 4 L0.out.b.deck (by omega) (by omega)).mono ?_
                  rintro e w6 ⟨q, rfl, q0, q1, mv⟩
                  have L1 := Lib.hid (L0.out.moved mv)
                  have ew : IntKind.i64.wrap (1 + q) = 1 + q := IntWalk.i64_in _ ⟨by omega, by omega⟩
                  clear mv L0 cy
                  go_wp2_with fail
                  clear ew
                  refine (raw_deal D (1 + q) _ L1.out.b.deck).mono ?_
                  rintro e w7 ⟨x1, rfl, hx1, mv⟩
                  have L2 := Lib.hid (L1.out.moved mv)
                  clear mv L1 q0 q1
                  go_wp2_with fail
                  refine (text_deal D _ L2.out.b.deck).mono ?_
                  rintro e w8 ⟨x2, rfl, hx2, mv⟩
                  have L3 := Lib.hid (L2.out.moved mv)
                  clear mv L2
                  go_wp2_with fail
                  refine wp_world (fun WB hWB => ?_)
                  obtain ⟨hUD, mvB, hU⟩ := strs_row (t := 9) L3.out.b.deck 200 [v0, x1, x2, []] (by intro x hx; simp at hx; rcases hx with rfl | rfl | rfl | rfl <;> first | omega | simp) _ rfl
                  have mvB : Moved D w8 WB := by rw [hWB]; exact mvB
                  have hU : ∀ j, j < 4 → ∃ x, WB.cell? ⟨w8.heap.size, j, none⟩ = some (strV x) ∧ x.length ≤ 200 := by rw [hWB]; exact hU
                  have L4 := Lib.hid (L3.out.moved mvB)
                  have HU := Lib.hid hU
                  generalize w8.heap.size = U at *
                  clear hWB mvB hU L3 hx1 hx2
                  go_loopw [101] (fun i wr3 => ∃ k3 : Nat, k3 ≤ 4 ∧ i = .int .i64 k3 ∧ XTwo D w WB X (.slice qf s.fields.length pf) (.slice qt s.rules.titles.length pt) (.slice qn s.rules.nicks.length pn) (.slice qs s.rules.streets.length ps) s wr3) (fun i _ => 4 - (intOf i).toNat)
                  case atStart => exact ⟨0, by omega, rfl, L4.out.start⟩
                  case round =>
                    obtain ⟨k3, hk3, rfl, hb⟩ := hrel
                    have N0 := Lib.hid hb
                    clear hb
                    by_cases hlt3 : k3 < 4
                    · have hq3 : decide ((k3 : Int) < 4) = true := by simp; omega
                      obtain ⟨x, cx, hx⟩ := HU.out k3 hlt3
                      have cx := cell_moved N0.out.m hUD cx
                      obtain ⟨c0, c1, c2, c3⟩ := N0.out.held
                      go_wp2_with fail
                      refine (value_any _ _ _ _ _ s y ⟨x.toArray⟩ _ N0.out.sc (by rw [mk_size]; omega)).mono ?_
                      rw [show (⟨x.toArray⟩ : ByteArray).data.toList = x by simp]
                      obtain ⟨⟨b, er⟩, hval⟩ : ∃ p, valueN s y x = p := ⟨_, rfl⟩
                      have hform : b.length ≤ 64 := by have := (valueN_form s y x).1; rw [hval] at this; exact this
                      have HVal := Lib.hid hval
                      rw [hval]
                      unfold pairV
                      rintro e w9 ⟨rfl, hb⟩
                      have N1 := Lib.hid (N0.out.below hb)
                      clear hb N0 cx hval c0 c1 c2 c3
                      obtain ⟨c0, c1, c2, c3⟩ := N1.out.held
                      go_wp2_with fail
                      refine (rvalue_any _ _ _ _ _ s y ⟨x.toArray⟩ _ N1.out.sc (by rw [mk_size]; omega)).mono ?_
                      rw [show (⟨x.toArray⟩ : ByteArray).data.toList = x by simp, HVal.out]
                      unfold pairV
                      rintro e w10 ⟨rfl, hb⟩
                      have N2 := Lib.hid (N1.out.below hb)
                      clear hb N1 HVal c0 c1 c2 c3
                      go_wp2_with fail
                      refine wp_world (fun WC hWC => ?_)
                      obtain ⟨hTD, mvC, hT⟩ := strs_row (t := 9) N2.out.b.deck 200 [x, b] (by intro z hz; simp at hz; rcases hz with rfl | rfl <;> omega) _ rfl
                      have mvC : Moved D w10 WC := by rw [hWC]; exact mvC
                      have hT : ∀ j, j < 2 → ∃ x, WC.cell? ⟨w10.heap.size, j, none⟩ = some (strV x) ∧ x.length ≤ 200 := by rw [hWC]; exact hT
                      have N3 := Lib.hid (N2.out.moved mvC)
                      have HT := Lib.hid hT
                      generalize w10.heap.size = T at *
                      clear hWC mvC hT N2 hx hform
                      go_loopw [131] (fun i wr4 => ∃ k4 : Nat, k4 ≤ 2 ∧ i = .int .i64 k4 ∧ XTwo D w WC X (.slice qf s.fields.length pf) (.slice qt s.rules.titles.length pt) (.slice qn s.rules.nicks.length pn) (.slice qs s.rules.streets.length ps) s wr4) (fun i _ => 2 - (intOf i).toNat)
                      case atStart => exact ⟨0, by omega, rfl, N3.out.start⟩
                      case round =>
                        obtain ⟨k4, hk4, rfl, hb⟩ := hrel
                        have P0 := Lib.hid hb
                        clear hb
                        by_cases hlt4 : k4 < 2
                        · have hq4 : decide ((k4 : Int) < 2) = true := by simp; omega
                          obtain ⟨z, cz, hz⟩ := HT.out k4 hlt4
                          have cz := cell_moved P0.out.m hTD cz
                          obtain ⟨c0, c1, c2, c3⟩ := P0.out.held
                          go_wp2_with fail
                          refine (grams_s _ _ _ _ _ s y ⟨z.toArray⟩ _ P0.out.sc (by rw [mk_size]; omega)).mono ?_
                          rw [show (⟨z.toArray⟩ : ByteArray).data.toList = z by simp]
                          obtain ⟨⟨G1, ge⟩, hg⟩ : ∃ p, gramsN s y z = p := ⟨_, rfl⟩
                          have hgl : G1.length ≤ 80 := by have := gramsN_len s y z; rw [hg] at this; exact this
                          have HG := Lib.hid hg.symm
                          rw [hg]
                          rintro e w11 ⟨gv, rfl, hG, hb⟩
                          dsimp only at hG
                          obtain ⟨ga, gc, rfl⟩ := hG.slice
                          have P1 := Lib.hid (P0.out.below hb)
                          have HG1 := Lib.hid hG
                          clear hb P0 cz hg hG c0 c1 c2 c3
                          obtain ⟨c0, c1, c2, c3⟩ := P1.out.held
                          dsimp only
                          go_wp2_with fail
                          refine (rsgrams_any _ _ _ _ _ s y z _ P1.out.sc (by omega) (G1, ge) HG.out).mono ?_
                          rintro e w12 ⟨gv, rfl, hG, hb⟩
                          dsimp only at hG
                          obtain ⟨ga2, gc2, rfl⟩ := hG.slice
                          have P2 := Lib.hid (P1.out.below hb)
                          have HG3 := Lib.hid (HG1.out.below hb)
                          have HG2 := Lib.hid hG
                          clear hb P1 HG1 hG c0 c1 c2 c3 HG
                          obtain ⟨c0, c1, c2, c3⟩ := P2.out.held
                          dsimp only
                          go_wp2_with fail
                          refine wp_region_noPanic ?_
                          refine wp_region_held_drew (S := (fun w' => w'.cell? ⟨X, 0, none⟩ = some (.slice qf s.fields.length pf) ∧ w'.cell? ⟨X, 1, none⟩ = some (.slice qt s.rules.titles.length pt) ∧ w'.cell? ⟨X, 2, none⟩ = some (.slice qn s.rules.nicks.length pn) ∧ w'.cell? ⟨X, 3, none⟩ = some (.slice qs s.rules.streets.length ps))) (by kernel_rfl) (⟨c0, c1, c2, c3⟩) (fun hHeld => ?_)
                          refine wpAnyH_take (i := 0) (v := ?_) rfl (by kernel_rfl) (by kernel_rfl) (by kernel_rfl) (fun _ _ _ h => h) (Or.inl ⟨by rfl, ?_⟩) (by assumption) ?_
                          rotate_left 1
                          · (intro wS hSw; (try dsimp only at hSw); go_simp; try with_reducible rfl)
                          try simp only [List.getElem_toArray, List.getElem_cons_zero, List.getElem_cons_succ, Act.put, List.setIfInBounds_toArray, List.set_cons_zero, List.set_cons_succ]
                          refine wpAnyH_take (i := 1) (v := ?_) rfl (by kernel_rfl) (by kernel_rfl) (by kernel_rfl) (fun _ _ _ h => h) (Or.inl ⟨by rfl, ?_⟩) (by assumption) ?_
                          rotate_left 1
                          · (intro wS hSw; (try dsimp only at hSw); go_simp; try with_reducible rfl)
                          try simp only [List.getElem_toArray, List.getElem_cons_zero, List.getElem_cons_succ, Act.put, List.setIfInBounds_toArray, List.set_cons_zero, List.set_cons_succ]
                          refine wpAnyH_take (i := 2) (v := ?_) rfl (by kernel_rfl) (by kernel_rfl) (by kernel_rfl) (fun _ _ _ h => h) (Or.inl ⟨by rfl, ?_⟩) (by assumption) ?_
                          rotate_left 1
                          · (intro wS hSw; (try dsimp only at hSw); go_simp; try with_reducible rfl)
                          try simp only [List.getElem_toArray, List.getElem_cons_zero, List.getElem_cons_succ, Act.put, List.setIfInBounds_toArray, List.set_cons_zero, List.set_cons_succ]
                          refine wpAnyH_take (i := 3) (v := ?_) rfl (by kernel_rfl) (by kernel_rfl) (by kernel_rfl) (fun _ _ _ h => h) (Or.inl ⟨by rfl, ?_⟩) (by assumption) ?_
                          rotate_left 1
                          · (intro wS hSw; (try dsimp only at hSw); go_simp; try with_reducible rfl)
                          try simp only [List.getElem_toArray, List.getElem_cons_zero, List.getElem_cons_succ, Act.put, List.setIfInBounds_toArray, List.set_cons_zero, List.set_cons_succ]
                          refine wpAnyH_take (i := 4) (v := ?_) rfl (by kernel_rfl) (by kernel_rfl) (by kernel_rfl) (fun _ _ _ h => h) (Or.inl ⟨by rfl, ?_⟩) (by assumption) ?_
                          rotate_left 1
                          · (intro wS hSw; (try dsimp only at hSw); go_simp; try with_reducible rfl)
                          try simp only [List.getElem_toArray, List.getElem_cons_zero, List.getElem_cons_succ, Act.put, List.setIfInBounds_toArray, List.set_cons_zero, List.set_cons_succ]
                          refine wpAnyH_take (i := 5) (v := ?_) rfl (by kernel_rfl) (by kernel_rfl) (by kernel_rfl) (fun _ _ _ h => h) (Or.inl ⟨by rfl, ?_⟩) (by assumption) ?_
                          rotate_left 1
                          · (intro wS hSw; (try dsimp only at hSw); go_simp; try with_reducible rfl)
                          try simp only [List.getElem_toArray, List.getElem_cons_zero, List.getElem_cons_succ, Act.put, List.setIfInBounds_toArray, List.set_cons_zero, List.set_cons_succ]
                          refine wpAnyH_ready (rs := [6]) (by kernel_rfl) (by simp) ?_
                          refine AllReadyH.cons rfl (fun K hK => ?_) AllReadyH.nil
                          go_simp
                          refine (rsame_any Any1 Any1 _ _ G1 G1 _ (HG3.out.below (Below.refl _ _).drew) (HG2.out.below (Below.refl _ _).drew) (by omega) (by omega)).mono ?_; rw [show (G1 == G1) = true by simp]; rintro e w13 ⟨rfl, hb⟩; have P3 := Lib.hid ((P2.out.below (Below.refl _ _).drew).below hb); clear hb P2
                          refine hK.out _ _ (P3.out.held) (fun hHeld => ?_)
                          clear hK K
                          try simp only [List.getElem_toArray, List.getElem_cons_zero, List.getElem_cons_succ, Act.put, List.setIfInBounds_toArray, List.set_cons_zero, List.set_cons_succ]
                          refine wpAnyH_take (i := 7) (v := ?_) rfl (by kernel_rfl) (by kernel_rfl) (by kernel_rfl) (fun _ _ _ h => h) (Or.inl ⟨by rfl, ?_⟩) (by assumption) ?_
                          rotate_left 1
                          · (intro wS hSw; (try dsimp only at hSw); go_simp; try with_reducible rfl)
                          try simp only [List.getElem_toArray, List.getElem_cons_zero, List.getElem_cons_succ, Act.put, List.setIfInBounds_toArray, List.set_cons_zero, List.set_cons_succ]
                          refine wpAnyH_take (i := 8) (v := ?_) rfl (by kernel_rfl) (by kernel_rfl) (by kernel_rfl) (fun _ _ _ h => h) (Or.inl ⟨by rfl, ?_⟩) (by assumption) ?_
                          rotate_left 1
                          · (intro wS hSw; (try dsimp only at hSw); go_simp; try with_reducible rfl)
                          try simp only [List.getElem_toArray, List.getElem_cons_zero, List.getElem_cons_succ, Act.put, List.setIfInBounds_toArray, List.set_cons_zero, List.set_cons_succ]
                          refine wpAnyH_take (i := 9) (v := ?_) rfl (by kernel_rfl) (by kernel_rfl) (by kernel_rfl) (fun _ _ _ h => h) (Or.inl ⟨by rfl, ?_⟩) (by assumption) ?_
                          rotate_left 1
                          · (intro wS hSw; (try dsimp only at hSw); go_simp; try with_reducible rfl)
                          try simp only [List.getElem_toArray, List.getElem_cons_zero, List.getElem_cons_succ, Act.put, List.setIfInBounds_toArray, List.set_cons_zero, List.set_cons_succ]
                          refine wpAnyH_take (i := 10) (v := ?_) rfl (by kernel_rfl) (by kernel_rfl) (by kernel_rfl) (fun _ _ _ h => h) (Or.inl ⟨by rfl, ?_⟩) (by assumption) ?_
                          rotate_left 1
                          · (intro wS hSw; (try dsimp only at hSw); go_simp; try with_reducible rfl)
                          try simp only [List.getElem_toArray, List.getElem_cons_zero, List.getElem_cons_succ, Act.put, List.setIfInBounds_toArray, List.set_cons_zero, List.set_cons_succ]
                          refine wpAnyH_take (i := 11) (v := ?_) rfl (by kernel_rfl) (by kernel_rfl) (by kernel_rfl) (fun _ _ _ h => h) (Or.inl ⟨by rfl, ?_⟩) (by assumption) ?_
                          rotate_left 1
                          · (intro wS hSw; (try dsimp only at hSw); go_simp; try with_reducible rfl)
                          try simp only [List.getElem_toArray, List.getElem_cons_zero, List.getElem_cons_succ, Act.put, List.setIfInBounds_toArray, List.set_cons_zero, List.set_cons_succ]
                          refine wpAnyH_take (i := 12) (v := ?_) rfl (by kernel_rfl) (by kernel_rfl) (by kernel_rfl) (fun _ _ _ h => h) (Or.inl ⟨by rfl, ?_⟩) (by assumption) ?_
                          rotate_left 1
                          · (intro wS hSw; (try dsimp only at hSw); go_simp; try with_reducible rfl)
                          try simp only [List.getElem_toArray, List.getElem_cons_zero, List.getElem_cons_succ, Act.put, List.setIfInBounds_toArray, List.set_cons_zero, List.set_cons_succ]
                          refine wpAnyH_take (i := 14) (v := ?_) rfl (by kernel_rfl) (by kernel_rfl) (by kernel_rfl) (fun _ _ _ h => h) (Or.inl ⟨by rfl, ?_⟩) (by assumption) ?_
                          rotate_left 1
                          · (intro wS hSw; (try dsimp only at hSw); go_simp; try with_reducible rfl)
                          try simp only [List.getElem_toArray, List.getElem_cons_zero, List.getElem_cons_succ, Act.put, List.setIfInBounds_toArray, List.set_cons_zero, List.set_cons_succ]
                          refine wpAnyH_take (i := 15) (v := ?_) rfl (by kernel_rfl) (by kernel_rfl) (by kernel_rfl) (fun _ _ _ h => h) (Or.inl ⟨by rfl, ?_⟩) (by assumption) ?_
                          rotate_left 1
                          · (intro wS hSw; (try dsimp only at hSw); go_simp; try with_reducible rfl)
                          try simp only [List.getElem_toArray, List.getElem_cons_zero, List.getElem_cons_succ, Act.put, List.setIfInBounds_toArray, List.set_cons_zero, List.set_cons_succ]
                          refine wpAnyH_take (i := 16) (v := ?_) rfl (by kernel_rfl) (by kernel_rfl) (by kernel_rfl) (fun _ _ _ h => h) (Or.inl ⟨by rfl, ?_⟩) (by assumption) ?_
                          rotate_left 1
                          · (intro wS hSw; (try dsimp only at hSw); go_simp; try with_reducible rfl)
                          try simp only [List.getElem_toArray, List.getElem_cons_zero, List.getElem_cons_succ, Act.put, List.setIfInBounds_toArray, List.set_cons_zero, List.set_cons_succ]
                          refine wpAnyH_ready (rs := [13]) (by kernel_rfl) (by simp) ?_
                          refine AllReadyH.cons rfl (fun K hK => ?_) AllReadyH.nil
                          go_simp
                          refine (normal_s _ _ _ _ _ s y ⟨z.toArray⟩ _ P3.out.sc (by rw [mk_size]; omega)).mono ?_; rintro e w14 ⟨rfl, hb⟩; have P4 := Lib.hid (P3.out.below hb); clear hb P3
                          refine hK.out _ _ (P4.out.held) (fun hHeld => ?_)
                          clear hK K
                          try simp only [List.getElem_toArray, List.getElem_cons_zero, List.getElem_cons_succ, Act.put, List.setIfInBounds_toArray, List.set_cons_zero, List.set_cons_succ]
                          refine wpAnyH_ready (rs := [17]) (by kernel_rfl) (by simp) ?_
                          refine AllReadyH.cons rfl (fun K hK => ?_) AllReadyH.nil
                          go_simp
                          refine (rsnormal_any _ _ _ _ _ s y ⟨z.toArray⟩ _ P4.out.sc (by rw [mk_size]; omega)).mono ?_; rintro e w15 ⟨rfl, hb⟩; have P5 := Lib.hid (P4.out.below hb); clear hb P4
                          refine hK.out _ _ (P5.out.held) (fun hHeld => ?_)
                          clear hK K
                          try simp only [List.getElem_toArray, List.getElem_cons_zero, List.getElem_cons_succ, Act.put, List.setIfInBounds_toArray, List.set_cons_zero, List.set_cons_succ]
                          refine wpAnyH_take (i := 18) (v := ?_) rfl (by kernel_rfl) (by kernel_rfl) (by kernel_rfl) (fun _ _ _ h => h) (Or.inl ⟨by rfl, ?_⟩) (by assumption) ?_
                          rotate_left 1
                          · (intro wS hSw; (try dsimp only at hSw); go_simp; try with_reducible rfl)
                          try simp only [List.getElem_toArray, List.getElem_cons_zero, List.getElem_cons_succ, Act.put, List.setIfInBounds_toArray, List.set_cons_zero, List.set_cons_succ]
                          refine wpAnyH_take (i := 19) (v := ?_) rfl (by kernel_rfl) (by kernel_rfl) (by kernel_rfl) (fun _ _ _ h => h) (Or.inl ⟨by rfl, ?_⟩) (by assumption) ?_
                          rotate_left 1
                          · (intro wS hSw; (try dsimp only at hSw); go_simp; try with_reducible rfl)
                          try simp only [List.getElem_toArray, List.getElem_cons_zero, List.getElem_cons_succ, Act.put, List.setIfInBounds_toArray, List.set_cons_zero, List.set_cons_succ]
                          refine wpAnyH_done (by kernel_rfl) ?_ _
                          refine NoPanic.normal ?_
                          clear c0 c1 c2 c3
                          go_wp2_with fail
                          go_roundw
                          case rel => exact ⟨k4 + 1, by omega, by go_num, P5.out⟩
                          case measure => simp [intOf]; omega
                        · have hq4 : decide ((k4 : Int) < 2) = false := by simp; omega
                          have N4 := Lib.hid (N3.out.moved P0.out.m)
                          clear HT P0
                          go_wp2_with fail
                          go_roundw
                          case rel => exact ⟨k3 + 1, by omega, by go_num, N4.out⟩
                          case measure => simp [intOf]; omega
                    · have hq3 : decide ((k3 : Int) < 4) = false := by simp; omega
                      have L5 := Lib.hid (L4.out.moved N0.out.m)
                      clear HU N0
                      go_wp2_with fail
                      go_roundw
                      case rel => exact ⟨k2 + 1, by omega, by go_num, L5.out⟩
                      case measure => simp [intOf]; omega
                · have hq2 : decide ((k2 : Int) < 3) = false := by simp; omega
                  have L1 := Lib.hid (K4.out.moved L0.out.m)
                  clear HV L0 K4
                  obtain ⟨c0, c1, c2, c3⟩ := L1.out.held
                  go_wp2_with fail
                  refine (stext_any _ _ _ _ _ s _ L1.out.sc).mono ?_
                  obtain ⟨⟨u, te⟩, hu⟩ : ∃ p, textN s = p := ⟨_, rfl⟩
                  have hul : u.length ≤ 14000 := by have := textN_len s; rw [hu] at this; exact this
                  have HTx := Lib.hid hu.symm
                  rw [hu]
                  unfold pairV
                  rintro e w6 ⟨rfl, hb⟩
                  have L2 := Lib.hid (L1.out.below hb)
                  clear hb L1 hu c0 c1 c2 c3
                  obtain ⟨c0, c1, c2, c3⟩ := L2.out.held
                  go_wp2_with fail
                  refine (rtext_any _ _ _ _ _ s _ L2.out.sc (u, te) HTx.out).mono ?_
                  unfold pairV
                  rintro e w7 ⟨rfl, hb⟩
                  have L3 := Lib.hid (L2.out.below hb)
                  clear hb L2 HTx c0 c1 c2 c3
                  go_wp2_with fail
                  refine wp_world (fun WB hWB => ?_)
                  obtain ⟨hUD, mvB, hU⟩ := strs_row (t := 9) L3.out.b.deck 20000 [t0, u, u ++ t0, u ++ [116, 105, 116, 108, 101, 32, 97, 10], u ++ [10], u ++ [115, 116, 114, 101, 101, 116, 32, 97, 32, 98]] (by intro x hx; simp at hx; rcases hx with rfl | rfl | rfl | rfl | rfl | rfl <;> first | omega | (simp; omega)) _ rfl
                  have mvB : Moved D w7 WB := by rw [hWB]; exact mvB
                  have hU : ∀ j, j < 6 → ∃ x, WB.cell? ⟨w7.heap.size, j, none⟩ = some (strV x) ∧ x.length ≤ 20000 := by rw [hWB]; exact hU
                  have L4 := Lib.hid (L3.out.moved mvB)
                  have HU := Lib.hid hU
                  generalize w7.heap.size = U at *
                  clear hWB mvB hU L3 hul
                  go_loopw [203] (fun i wr3 => ∃ k3 : Nat, k3 ≤ 6 ∧ i = .int .i64 k3 ∧ XTwo D w WB X (.slice qf s.fields.length pf) (.slice qt s.rules.titles.length pt) (.slice qn s.rules.nicks.length pn) (.slice qs s.rules.streets.length ps) s wr3) (fun i _ => 6 - (intOf i).toNat)
                  case atStart => exact ⟨0, by omega, rfl, L4.out.start⟩
                  case round =>
                    obtain ⟨k3, hk3, rfl, hb⟩ := hrel
                    have N0 := Lib.hid hb
                    clear hb
                    by_cases hlt3 : k3 < 6
                    · have hq3 : decide ((k3 : Int) < 6) = true := by simp; omega
                      obtain ⟨z, cz, hz⟩ := HU.out k3 hlt3
                      have cz := cell_moved N0.out.m hUD cz
                      go_wp2_with fail
                      refine (sparse_any z _ (HM.out.old N0.out.b.base) (by omega)).mono ?_
                      obtain ⟨⟨p, pe⟩, hp⟩ : ∃ q, parseN z = q := ⟨_, rfl⟩
                      have hfw : Few4 p := by have := few_parse z; rw [hp] at this; exact this
                      have HP := Lib.hid hp
                      have HFw := Lib.hid hfw
                      rw [hp]
                      rintro e w8 ⟨yf, yt, yn, ys, rfl, hS, hb⟩
                      dsimp only at hS ⊢
                      obtain ⟨af1, cf1, rfl⟩ := hS.1.slice
                      obtain ⟨at1, ct1, rfl⟩ := hS.2.1.slice
                      obtain ⟨an1, cn1, rfl⟩ := hS.2.2.1.slice
                      obtain ⟨as1, cs1, rfl⟩ := hS.2.2.2.slice
                      have N1 := Lib.hid (N0.out.below hb)
                      have HSa := Lib.hid hS.any
                      clear hb N0 cz hp hfw hS
                      go_wp2_with fail
                      refine (rsparse_any z _ (by omega)).mono ?_
                      rw [HP.out]
                      rintro e w9 ⟨yf, yt, yn, ys, rfl, hS, hb⟩
                      dsimp only at hS ⊢
                      obtain ⟨af2, cf2, rfl⟩ := hS.1.slice
                      obtain ⟨at2, ct2, rfl⟩ := hS.2.1.slice
                      obtain ⟨an2, cn2, rfl⟩ := hS.2.2.1.slice
                      obtain ⟨as2, cs2, rfl⟩ := hS.2.2.2.slice
                      have HY := Lib.hid (blk_below (b := w8.heap.size) (o := .cells #[.slice af1 p.fields.length cf1, .slice at1 p.rules.titles.length ct1, .slice an1 p.rules.nicks.length cn1, .slice as1 p.rules.streets.length cs1] 33 (0, 0)) hb (by simp) (blk_new rfl))
                      have bA := ((Below.refl w8.heap.size w8).alloc (Nat.le_refl _) (.cells #[.slice af1 p.fields.length cf1, .slice at1 p.rules.titles.length ct1, .slice an1 p.rules.nicks.length cn1, .slice as1 p.rules.streets.length cs1] 33)).trans (hb.mono (by simp))
                      have bB := (Below.refl w9.heap.size w9).alloc (Nat.le_refl _) (.cells #[.slice af2 p.fields.length cf2, .slice at2 p.rules.titles.length ct2, .slice an2 p.rules.nicks.length cn2, .slice as2 p.rules.streets.length cs2] 33)
                      have N2 := Lib.hid ((N1.out.below bA).below bB)
                      have HSa2 := Lib.hid ((HSa.out.below bA).below bB)
                      have HSb := Lib.hid (hS.any.below bB)
                      have zY := lt_of_blk HY.out
                      obtain ⟨c0, c1, c2, c3⟩ := cells4 HY.out
                      clear hb N1 HP hS bA bB HSa
                      go_wp2_with fail
                      refine (rsames_any Any1 Any1 _ _ _ _ _ _ _ _ p p _ HSa2.out HSb.out HFw.out HFw.out).mono ?_
                      rw [sameS_refl']
                      rintro e wa ⟨rfl, hb⟩
                      have N3 := Lib.hid (N2.out.below hb)
                      clear hb N2 c0 c1 c2 c3 HY zY HSa2 HSb HFw
                      go_wp2_with fail
                      go_roundw
                      case rel => exact ⟨k3 + 1, by omega, by go_num, N3.out⟩
                      case measure => simp [intOf]; omega
                    · have hq3 : decide ((k3 : Int) < 6) = false := by simp; omega
                      have L5 := Lib.hid (L4.out.moved N0.out.m)
                      clear HU N0
                      go_wp2_with fail
                      go_roundw
                      case rel => exact ⟨k + 1, by omega, by go_num, KR.out.moved L5.out.m⟩
                      case measure => simp [intOf]; omega
            · have hq : decide ((k : Int) < 3) = false := by simp; omega
              go_wp2_with fail
              refine (word_is v0 _).mono ?_
              rintro e w6 ⟨rfl, hb⟩
              have HE1 := Lib.hid (KR.out.b.base.trans (hb.mono KR.out.b.base.size))
              clear hb
              go_wp2_with fail
              refine (rword_any v0 _).mono ?_
              rintro e w7 ⟨rfl, rfl⟩
              go_wp2_with fail
              refine (word_is [97, 98, 99, 100, 101, 102, 103, 104, 105, 106, 107, 108] _).mono ?_
              rw [show wordB [97, 98, 99, 100, 101, 102, 103, 104, 105, 106, 107, 108] = true by decide +kernel]
              rintro e w8 ⟨rfl, hb⟩
              have HE2 := Lib.hid (HE1.out.trans (hb.mono HE1.out.size))
              clear hb HE1
              go_wp2_with fail
              refine (word_is [97, 98, 99, 100, 101, 102, 103, 104, 105, 106, 107, 108, 109] _).mono ?_
              rw [show wordB [97, 98, 99, 100, 101, 102, 103, 104, 105, 106, 107, 108, 109] = false by decide +kernel]
              rintro e w9 ⟨rfl, hb⟩
              have HE3 := Lib.hid (HE2.out.trans (hb.mono HE2.out.size))
              clear hb HE2
              go_wp2_with fail
              go_ret
              exact ⟨rfl, HE3.out⟩
        · have hd3 : decide ((600 : Int) < t0.length) = true := by simp; omega
          go_wp2_with fail
          refine (awake_s _).mono ?_; rintro e w4 ⟨rfl, hb4⟩
          go_wp2_with fail
          go_ret
          exact ⟨rfl, HB3.out.trans (hb4.mono HB3.out.size)⟩
      · have hd2 : decide (v0.length ≤ 200) = false := by simpa using hv
        rw [hd2]
        go_wp2_with fail
        refine (awake_s _).mono ?_; rintro e w4 ⟨rfl, hb4⟩
        go_wp2_with fail
        go_ret
        exact ⟨rfl, HB3.out.trans (hb4.mono HB3.out.size)⟩
    · have hsm : smallB s0 = false := by simpa using hsm
      rw [hsm]
      go_wp2_with fail
      refine (awake_s _).mono ?_; rintro e w4 ⟨rfl, hb4⟩
      go_wp2_with fail
      go_ret
      exact ⟨rfl, HB2.out.trans (hb4.mono HB2.out.size)⟩
  · have hd : decide (n ≤ 400) = false := by simpa using hn
    go_wp2_with fail
    refine (few_any a n cap _).mono ?_; rintro e w' ⟨rfl, rfl⟩
    go_wp2_with fail
    refine (awake_s _).mono ?_; rintro e w4 ⟨rfl, hb4⟩
    go_wp2_with fail
    go_ret
    exact ⟨rfl, HB1.out.trans (hb4.mono HB1.out.size)⟩
end Go.Proofs.YtfgoiojmbphmnaaGreatDoor
end
section
/- A schema that comes in as an argument: four rows, as the laws' contracts read them. -/
set_option linter.unusedSimpArgs false
set_option linter.unusedVariables false
set_option maxRecDepth 100000
namespace Go.Proofs.YtfgoiojmbphmnaaGreatDoor
open Go.RowKit Go.WideShapes Go.ChangeShapes Go.Joins
/-- a row that came in reads as a list -/
theorem vec_in {α : Type} {w : World} {a : Addr} {len cap k : Nat} {enc : α → List Value} (g : Nat → α) (hk : ∀ x, (enc x).length = k) (hk0 : 0 < k) (hl : len ≤ cap)
    (hc : ∀ i, i < len → ∀ j u, (enc (g i))[j]? = some u → w.cell? (a.add (i * k + j)) = some u) : Vec w Any1 k enc (.slice (some a) len cap) ((List.range len).map g) := by
  refine ⟨some a, cap, by simp, by simpa using hl, fun h0 => ?_⟩
  have h0 : 0 < len := by simpa using h0
  obtain ⟨b, off, spot⟩ := a
  obtain ⟨u, hu⟩ : ∃ u, (enc (g 0))[0]? = some u := ⟨_, List.getElem?_eq_getElem (by rw [hk]; exact hk0)⟩
  have c0 := hc 0 h0 0 u hu
  have hs : spot = none := by
    cases spot with
    | none => rfl
    | some s =>
      exfalso
      have he : ((⟨b, off, some s⟩ : Addr).add (0 * k + 0)).spot.isSome = true := by unfold Addr.add; split <;> simp_all
      unfold World.cell? at c0
      split at c0
      · rw [if_pos he] at c0; cases c0
      · cases c0
  subst hs
  refine ⟨b, off, rfl, trivial, ?_, fun j x hj i u hu => ?_⟩
  · rw [add_plain] at c0; exact World.block_lt_of_cell? _ _ c0
  · have hjl : j < len := by have := (List.getElem?_eq_some_iff.1 hj).1; simpa using this
    rw [List.getElem?_map, List.getElem?_range hjl] at hj
    obtain rfl := Option.some.inj hj
    have := hc j hjl i u hu
    rw [add_plain] at this
    rw [Nat.add_assoc]; exact this
def bytesOf (v : Value) : List UInt8 := match v with | .string s => s.data.toList | _ => []
theorem bytesOf_mk (s : ByteArray) : Value.string s = strV (bytesOf (.string s)) := by
  show Value.string s = .string ⟨s.data.toList.toArray⟩
  simp
def numOf (v : Value) : Int := match v with | .int _ n => n | _ => 0
section
variable {H : Type} {enc : TypeId × Value → H} {W : World} {base : Nat} {spare : Nat → Bool} {held : Bool}
theorem in_strs {fuel : Nat} {cs : List Value} {x : DataW H × List MemPlace} (h : DataW.trod enc Tryz.prog W base spare held fuel 28 cs = some x) : ∃ v L, cs = [v] ∧ Vec W Any1 1 encS v L := by
  rcases Go.Deep.open_strs Tryz.underlying28 Tryz.underlying9 (by kernel_rfl) h with ⟨rfl, _⟩ | ⟨a, len, cap, m, Sx, rfl, _, hl, _, hm, _, hx⟩
  · exact ⟨_, [], rfl, Vec.nil _ _ _ _⟩
  · have hlm : len ≤ m := by rw [hm]; split <;> omega
    refine ⟨_, _, rfl, vec_in (fun i => (Sx i).data.toList) (fun _ => rfl) (by omega) hl fun i hi j u hu => ?_⟩
    cases j with
    | zero => cases hu; rw [Nat.mul_one]; rw [show strV (Sx i).data.toList = .string (Sx i) from (bytesOf_mk _).symm]; exact (hx i (by omega)).1
    | succ j => simp [encS] at hu
theorem in_pairs {fuel : Nat} {cs : List Value} {x : DataW H × List MemPlace} (h : DataW.trod enc Tryz.prog W base spare held fuel 29 cs = some x) : ∃ v L, cs = [v] ∧ Vec W Any1 2 encP v L := by
  rcases Go.Deep.open_slice_pairs Tryz.underlying29 Tryz.underlying83 (by kernel_rfl) rfl rfl (by kernel_rfl) (by kernel_rfl) h with ⟨rfl, _⟩ | ⟨a, len, cap, m, n, V0, V1, D0, D1, P0, P1, rfl, _, hl, _, hm, _, hx⟩
  · exact ⟨_, [], rfl, Vec.nil _ _ _ _⟩
  · have hlm : len ≤ m := by rw [hm]; split <;> omega
    refine ⟨_, _, rfl, vec_in (fun i => (bytesOf (V0 i), bytesOf (V1 i))) (fun _ => rfl) (by omega) hl fun i hi j u hu => ?_⟩
    obtain ⟨c0, c1, g0, g1⟩ := hx i (by omega)
    obtain ⟨s0, e0, _⟩ := DataW.trod_string Tryz.underlying9 g0
    obtain ⟨s1, e1, _⟩ := DataW.trod_string Tryz.underlying9 g1
    simp only [List.cons.injEq, and_true] at e0 e1
    match j, hu with
    | 0, hu => cases hu; dsimp only; rw [e0, ← bytesOf_mk, ← e0]; exact c0
    | 1, hu => cases hu; dsimp only; rw [e1, ← bytesOf_mk, ← e1]; exact c1
    | j + 2, hu => simp [encP] at hu
theorem in_fields {fuel : Nat} {cs : List Value} {x : DataW H × List MemPlace} (h : DataW.trod enc Tryz.prog W base spare held fuel 27 cs = some x) : ∃ v L, cs = [v] ∧ Vec W Any1 2 encF v L := by
  rcases Go.Deep.open_slice_pairs Tryz.underlying27 Tryz.underlying42 (by kernel_rfl) rfl rfl (by kernel_rfl) (by kernel_rfl) h with ⟨rfl, _⟩ | ⟨a, len, cap, m, n, V0, V1, D0, D1, P0, P1, rfl, _, hl, _, hm, _, hx⟩
  · exact ⟨_, [], rfl, Vec.nil _ _ _ _⟩
  · have hlm : len ≤ m := by rw [hm]; split <;> omega
    refine ⟨_, _, rfl, vec_in (fun i => (bytesOf (V0 i), numOf (V1 i))) (fun _ => rfl) (by omega) hl fun i hi j u hu => ?_⟩
    obtain ⟨c0, c1, g0, g1⟩ := hx i (by omega)
    obtain ⟨s0, e0, _⟩ := DataW.trod_string Tryz.underlying9 g0
    obtain ⟨s1, e1, _⟩ := DataW.trod_int Tryz.underlying3 g1
    simp only [List.cons.injEq, and_true] at e0 e1
    match j, hu with
    | 0, hu => cases hu; dsimp only; rw [e0, ← bytesOf_mk, ← e0]; exact c0
    | 1, hu => cases hu; dsimp only; rw [e1]; show W.cell? _ = some (.int .i64 s1); rw [← e1]; exact c1
    | j + 2, hu => simp [encF] at hu
theorem open_schema {r : Reach} {b0 : Nat} {v : Value} {d : DataW H} {ps : List MemPlace} (hv : Value.okWide Tryz.prog W r b0 33 v) (h : DataW.Trod enc Tryz.prog W base spare held 33 v d ps) :
    ∃ vf vt vn vs s, v = .agg #[vf, vt, vn, vs] ∧ SchemaAt W Any1 vf vt vn vs s := by
  obtain ⟨cs, rfl, hsz⟩ := okWide_struct Tryz.underlying33 hv
  obtain ⟨c0, c1, c2, c3, rfl⟩ := array4 (hsz.trans (by kernel_rfl))
  obtain ⟨fuel, hf⟩ := h
  obtain ⟨xs, n, _, _, _, hlen, hx⟩ := DataW.trod_struct Tryz.underlying33 hf
  have h0 := hx 0 _ rfl
  have h1 := hx 1 _ rfl
  rw [List.getElem?_eq_getElem (by rw [hlen]; decide)] at h0 h1
  simp only [Value.cells] at h0 h1
  obtain ⟨xf, F, e0, hF⟩ := in_fields h0
  obtain ⟨ys, n', _, _, _, hlen', hy⟩ := DataW.trod_struct Tryz.underlying31 h1
  have g0 := hy 0 _ rfl
  have g1 := hy 1 _ rfl
  have g2 := hy 2 _ rfl
  rw [List.getElem?_eq_getElem (by rw [hlen']; decide)] at g0 g1 g2
  obtain ⟨xt, T, e1, hT⟩ := in_strs g0
  obtain ⟨xn, N, e2, hN⟩ := in_pairs g1
  obtain ⟨xs', R, e3, hR⟩ := in_pairs g2
  have k27 : Tryz.prog.cellsOf 27 = 1 := by kernel_rfl
  have k28 : Tryz.prog.cellsOf 28 = 1 := by kernel_rfl
  have k29 : Tryz.prog.cellsOf 29 = 1 := by kernel_rfl
  have k31 : Tryz.prog.cellsOf 31 = 3 := by kernel_rfl
  simp [k27, k28, k29, k31] at e0 e1 e2 e3
  exact ⟨c0, c1, c2, c3, ⟨F, ⟨T, N, R⟩⟩, rfl, by rw [e0]; exact hF, by rw [e1]; exact hT, by rw [e2]; exact hN, by rw [e3]; exact hR⟩
end
end Go.Proofs.YtfgoiojmbphmnaaGreatDoor
end
section
/- The wrap of a row with listed variables, the world's shape handed on to the contract. -/
namespace Go.Proofs.YtfgoiojmbphmnaaGreatDoor
open Go
theorem handed_shaped {H : Type} {enc : TypeId × Value → H} {a : Assume} {C : Checked} {os : Os} {f : FuncId} {fn : Func} {s : ChangeSpec} {conds : List PathCond} {apart fresh handsOn again : Bool} {X : World → Array Value → Prop}
    (hX : ∀ (w w' : World) (args : Array Value), w.heap = w'.heap → X w args → X w' args)
    (own : ownKnob C.prog.godebug = none) (started : os.Started) (noInit : C.prog.inits.idxOf? f = none) (hfn : C.prog.funcs[f]? = some fn)
    (witness : ∃ (w : World) (tape : Tape) (i : Input), w.os = os ∧ (w.forCall tape i).Shaped C.prog ∧ i.vars = [] ∧ Input.okWide C.prog (w.forCall tape i) .any w.heap.size f i ∧
      ((s.pre enc C.prog fn conds apart (w.forCall tape i).memory i.args ∧ X (w.forCall tape i).memory i.args) ∧ sizedMet enc C.prog fn (OpenSpec.ofChange s) apart (w.forCall tape i).memory i.args) ∧ a.holds C.prog (lone (Frame.enter C.prog f i.args .normal) [] (w.forCall tape i)))
    (contract : ∀ (W : World) (base : Nat) (args : Array Value) (ds gs : List (DataW H)) (before : List MemPlace),
      (∀ (j : Nat) t v, fn.params[j]? = some t → args[j]? = some v → Value.okWide C.prog W .any base t v) →
      DataW.Whole enc C.prog fn.params.toList s.vars apart W args.toList ds gs before →
      X W args → W.ShapedOpen C.prog →
      Calls C.prog f args W fun e W' => ∃ v, e = .returned v ∧ s.post enc C.prog fn apart fresh handsOn again W args v W') :
    ReturnsInHanded a C os f .any (fun w args => (s.pre enc C.prog fn conds apart w args ∧ X w args) ∧ sizedMet enc C.prog fn (OpenSpec.ofChange s) apart w args) (s.post enc C.prog fn apart fresh handsOn again) := by
  refine returnsInHanded_of_calls own started noInit witness ?_
  intro w tape i _ hsh _ hok hpre hholds
  obtain ⟨_, _, _, fn', hfn', _, _, _, _, hval⟩ := hok
  obtain rfl : fn' = fn := Option.some.inj (hfn'.symm.trans hfn)
  obtain ⟨⟨⟨ds, gs, before, hw, hc⟩, hx⟩, hz⟩ := hpre
  refine (contract (w.forCall tape i) w.heap.size i.args ds gs before hval (DataW.Whole.of_heap (w' := w.forCall tape i) (by rfl) hw) (hX _ _ _ (by rfl) hx) hsh).mono fun e W' ⟨v, he, hp⟩ => ?_
  subst he
  exact ChangeSpec.post_blind hp
end Go.Proofs.YtfgoiojmbphmnaaGreatDoor
end
section
namespace Go.Proofs.YtfgoiojmbphmnaaGreatDoor.schemaExact
open Go.ChangeShapes Go.WideShapes Go.ChangeAt Go.RowKit Go.Joins
open Go.ChangeMaps (open_string shut_string)
set_option linter.unusedVariables false

theorem own : ownKnob Tryz.prog.godebug = none := by kernel_rfl
theorem laidOut : laidOutB Tryz.prog = true := by kernel_rfl

set_option maxRecDepth 100000 in
theorem lifted (os : Os) (started : os.Started) (H : Type) (enc : TypeId × Value → H) :
    ReturnsInHanded {} Tryz.checked os 6 .any (fun w args => (Rows.schemaExactSpec.pre enc Tryz.prog Tryz.f6 Rows.schemaExactRow.domain false w args ∧ laidMetH Tryz.prog Rows.schemaExactRow.laid w) ∧ sizedMet enc Tryz.prog Tryz.f6 (OpenSpec.ofChange Rows.schemaExactSpec) false w args) (Rows.schemaExactSpec.post enc Tryz.prog Tryz.f6 false true false false) := by
  refine handed_shaped (C := Tryz.checked) (X := fun w _ => laidMetH Tryz.prog Rows.schemaExactRow.laid w) (fun _ _ _ hh h => h.of_heap hh) own started (by kernel_rfl) Tryz.func6
    (ChangeSpec.witness_shaped (enc := enc) (C := Tryz.checked) (os := os) (X := fun w _ => laidMetH Tryz.prog Rows.schemaExactRow.laid w) false (World.laidAll Tryz.prog os Rows.schemaExactRow.laid) #[.slice none 0 0, .agg #[.slice none 0 0, .slice none 0 0, .slice none 0 0, .slice none 0 0], .int .i64 0, .string .empty, .string .empty] 8 (World.laidAll_os _ _ _)
      (World.shaped_of_ZipB (by kernel_rfl) (by kernel_rfl)) (by kernel_rfl) (by kernel_rfl) (by kernel_rfl)
      (by rw [MakeChecks.laidMetH_plain _ _ _ (by kernel_rfl)]; exact laidMet_laidAll _ (by kernel_rfl) (by kernel_rfl))) ?_
  intro W base args ds gs before hval0 hW hLaid hsh
  have hval : ∀ (j : Nat) t v, Tryz.f6.params[j]? = some t → args[j]? = some v → Value.okWide Tryz.prog W .any base t v := hval0
  have hW' := hW
  obtain ⟨p, q, hA0, hV, rfl, hfz, hnd⟩ := hW
  have hA : DataW.TrodAll enc Tryz.prog W 0 (fun _ => true) true Tryz.f6.params.toList args.toList ds p := hA0
  rw [Tryz.params6] at hA hval
  obtain ⟨v0, vs0, d0, ds0, p0, q0, hargs, rfl, rfl, h0, r0⟩ := trodAll_cons hA
  obtain ⟨v1, vs1, d1, ds1, p1, q1, rfl, rfl, rfl, h1, r1⟩ := trodAll_cons r0
  obtain ⟨v2, vs2, d2, ds2, p2, q2, rfl, rfl, rfl, h2, r2⟩ := trodAll_cons r1
  obtain ⟨v3, vs3, d3, ds3, p3, q3, rfl, rfl, rfl, h3, r3⟩ := trodAll_cons r2
  obtain ⟨v4, vs4, d4, ds4, p4, q4, rfl, rfl, rfl, h4, r4⟩ := trodAll_cons r3
  obtain ⟨rfl, rfl, rfl⟩ := trodAll_nil r4
  obtain rfl : args = #[v0, v1, v2, v3, v4] := by cases args; simp_all
  obtain ⟨rfl, rfl⟩ := trodVars_none hV
  obtain ⟨a0, len0, cap0, rfl⟩ := okWide_slice Tryz.underlying22 (hval 0 22 v0 rfl rfl)
  have k0 := h0
  have lt0 : ∀ x ∈ p0, x.block < W.heap.size := by obtain ⟨m, hm⟩ := k0; exact DataW.trod_lt m _ _ _ hm
  obtain ⟨z0, w0⟩ : ∃ zs, IsRow .i64 W a0 len0 cap0 zs := by
    obtain ⟨fuel, hf⟩ := h0
    rcases open_ints Tryz.underlying22 Tryz.underlying3 (by kernel_rfl) hf with ⟨hcs, _⟩ | ⟨x, l, c, zs, hcs, _, hl, hm, hz, _, hcell, hwz⟩
    · simp [Value.cells] at hcs
      obtain ⟨rfl, rfl, rfl⟩ := hcs
      exact ⟨[], .inl ⟨rfl, rfl, rfl, rfl⟩⟩
    · simp [Value.cells] at hcs
      obtain ⟨rfl, rfl, rfl⟩ := hcs
      exact ⟨zs, .inr ⟨_, rfl, hl, hm, by simpa using hz, hcell, hwz⟩⟩
  have k1 := h1
  have lt1 : ∀ x ∈ p1, x.block < W.heap.size := by obtain ⟨m, hm⟩ := k1; exact DataW.trod_lt m _ _ _ hm
  obtain ⟨vf1, vt1, vn1, vs1', sch1, rfl, w1⟩ := open_schema (hval 1 33 v1 rfl rfl) h1
  have k2 := h2
  have lt2 : ∀ x ∈ p2, x.block < W.heap.size := by obtain ⟨m, hm⟩ := k2; exact DataW.trod_lt m _ _ _ hm
  obtain ⟨x2, rfl, hd2, hp2, w2⟩ := open_int Tryz.underlying3 (hval 2 3 v2 rfl rfl) h2
  have k3 := h3
  have lt3 : ∀ x ∈ p3, x.block < W.heap.size := by obtain ⟨m, hm⟩ := k3; exact DataW.trod_lt m _ _ _ hm
  obtain ⟨s3, rfl, hd3, hp3, w3⟩ := open_string Tryz.underlying9 (hval 3 9 v3 rfl rfl) h3
  have k4 := h4
  have lt4 : ∀ x ∈ p4, x.block < W.heap.size := by obtain ⟨m, hm⟩ := k4; exact DataW.trod_lt m _ _ _ hm
  obtain ⟨s4, rfl, hd4, hp4, w4⟩ := open_string Tryz.underlying9 (hval 4 9 v4 rfl rfl) h4
  clear hA0 hval0
  refine (sexact_walk a0 len0 cap0 z0 vf1 vt1 vn1 vs1' sch1 x2 s3 s4 W w0 w1 w2 w3 w4 (Tryz.laysM145.s1_3 W hsh)).mono fun e W' ⟨he, bel⟩ => ?_
  subst he
  exact ⟨_, rfl, _, _, _, [], _, [], hW', trodAll_mk1 (shut_bool Tryz.underlying4 _), (trodAll_cons_mk (Below.trod laidOut (by kernel_rfl) (of_decide_eq_true (by kernel_rfl)) k0 bel lt0) (trodAll_cons_mk (Below.trod laidOut (by kernel_rfl) (of_decide_eq_true (by kernel_rfl)) k1 bel lt1) (trodAll_cons_mk (Below.trod laidOut (by kernel_rfl) (of_decide_eq_true (by kernel_rfl)) k2 bel lt2) (trodAll_cons_mk (Below.trod laidOut (by kernel_rfl) (of_decide_eq_true (by kernel_rfl)) k3 bel lt3) (trodAll_cons_mk (Below.trod laidOut (by kernel_rfl) (of_decide_eq_true (by kernel_rfl)) k4 bel lt4) trodAll_mk0))))), rfl, bel.frame _, fun h => by cases h⟩

theorem over : Rows.schemaExactRow.holds Tryz.pinned (OpenSpec.ofChange Rows.schemaExactSpec) :=
  OpenClaim.holds_of_wide 6 Tryz.f6 rfl rfl rfl rfl rfl rfl rfl ⟨rfl, rfl, rfl, rfl, rfl⟩ rfl rfl rfl rfl rfl (by kernel_rfl) Tryz.func6 (by kernel_rfl)
    (of_decide_eq_true (by kernel_rfl)) (by unfold Func.isWrapper; first | (rw [if_pos (by decide +kernel)]; kernel_rfl) | (rw [if_neg (by decide +kernel)]; exact ⟨rfl, rfl⟩))
    (fun os started H enc _ => lifted os started H enc)

/-- THE STATEMENT -/
theorem proved : Rows.SchemaExactCardSaid :=
  Claim7.holds_tied_plain_at .later [] [.data, .pinned] true (true, "d80584c64c476ce7af35335222562c676e5987e6d7256348884298adb1664843") false
    over (fun _ h => by cases h) (by kernel_rfl) (fun _ h => by cases h) schemaExact_row_tie rfl ⟨rfl, rfl⟩ (by kernel_rfl) rfl
    (fun f fn hf hfn => by
      obtain rfl : f = 6 := Option.some.inj ((show Tryz.prog.funcNamed Rows.schemaExactRow.func = some 6 by kernel_rfl).symm.trans hf) |>.symm
      obtain rfl : fn = Tryz.f6 := (Option.some.inj (Tryz.func6.symm.trans hfn)).symm
      exact ⟨by kernel_rfl, fun j t ht => by
        rw [Tryz.params6] at ht
        have hm : t ∈ [22, 33, 3, 9, 9] := by simpa using Array.mem_of_getElem? ht
        have hall : ([22, 33, 3, 9, 9].all fun u => !Tryz.prog.wantsStandIn u) = true := by kernel_rfl
        exact (show Tryz.prog.wantsStandIn t = false by simpa using List.all_eq_true.1 hall t hm)⟩)
    (by kernel_rfl)
#print axioms proved
end Go.Proofs.YtfgoiojmbphmnaaGreatDoor.schemaExact
end
