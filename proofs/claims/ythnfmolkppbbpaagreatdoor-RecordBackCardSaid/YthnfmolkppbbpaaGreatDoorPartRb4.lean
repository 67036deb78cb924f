/- Parts of one proof: SchF, SchK, SchL, SchM, SchG, SchH, SchN, GramC, GramB, GramD, RecPlain, EncPlain, SipA, AppendNil, OwnV, SipB, MakeQ. -/
import Derived.Test.YthnfmolkppbbpaaGreatDoorPartRb3
import Derived.Sort.KeysCollected
import Derived.Sort.Walk0
import Derived.Shelf.SlIter.Nil
import Derived.Shelf.SortM.Plain
import Derived.Shelf.SortM.SortNone
import Derived.Ground.GgzProg
import Derived.Ground.SlgmProg
import Derived.Maps.OwnSet
import Derived.StringKeys
import Derived.Lib.ItoaNum
import Derived.Deep.AppendLies
import Derived.Deep.RegionLaw
import Derived.Lib.AppendStr
set_option linter.unusedSimpArgs false
set_option linter.unusedVariables false
namespace Go.Proofs.YthnfmolkppbbpaaGreatDoor
section
set_option maxRecDepth 100000
open Go.RowKit Cal
attribute [local go_sem] toList_mk mk_size
set_option maxHeartbeats 4000000 in
theorem normal_s (S : Nat → Prop) (vf vt vn vs : Value) (s : SchemaL) (f : Int) (x : ByteArray) (w : World) (h : SchemaAt w S vf vt vn vs s) (hx : x.size ≤ 9223372036854775000) :
    Calls Tryz.prog 83 #[.agg #[vf, vt, vn, vs], .int .i64 f, .string x] w fun e w' => e = .returned (.bool (normalB s f x.data.toList)) ∧ Below w.heap.size w w' := by
  have HS := Lib.hid h.any
  have HL := Lib.hid (Lib.toList_data x)
  have hfin : ∀ p, normalB s f x.data.toList = p → Ending.returned (.bool p) = .returned (.bool (normalB s f x.data.toList)) := fun p h => by rw [h]
  have HF := Lib.hid hfin
  clear h hfin
  have K := find_s Any1 vf vt vn vs s f (w.alloc (.cells #[vf, vt, vn, vs] 33)) (HS.out.below ((Below.refl _ _).alloc (Nat.le_refl _) _))
  have hkk := findN_kind (s := s) (f := f)
  have hval : normalB s f x.data.toList = if (findN s f).2 = 0 then (if x.data.toList = [] then true else ownK (findN s f).1 s.rules x.data.toList) else false := rfl
  obtain ⟨⟨kd, er⟩, hp⟩ : ∃ p, findN s f = p := ⟨_, rfl⟩
  rw [hp] at K hkk hval
  dsimp only at hkk hval
  change Calls _ _ _ _ fun e w' => e = .returned (.tuple #[.agg (kindAt kd), .int .i64 er]) ∧ _ at K
  have HK := Lib.hid K
  have HVal := Lib.hid hval
  obtain ⟨ko, ks⟩ := kindAt_one kd
  have KO := Lib.hid ko; have KS := Lib.hid ks
  clear K hp hval ko ks
  by_cases he : er = 0
  · subst he
    have hkd := hkk rfl
    clear hkk
    by_cases hx0 : x.data.toList = []
    · have e1 : x.toList = [] := by rw [HL.out, hx0]
      have HE := Lib.hid (show normalB s f x.data.toList = true by rw [HVal.out, if_pos rfl, if_pos hx0])
      clear hx0 hkd
      go_enter Tryz.func83, Tryz.ntmps83
      go_wp2_with fail
      refine HK.out.mono ?_
      rintro e w1 ⟨rfl, hb1⟩
      have HB1 := Lib.hid (((Below.refl w.heap.size w).alloc (Nat.le_refl _) (.cells #[vf, vt, vn, vs] 33)).trans (hb1.mono (by simp)))
      have HX1 := Lib.hid (blk_below (b := w.heap.size) (o := .cells #[vf, vt, vn, vs] 33 (0, 0)) hb1 (by simp) (blk_new rfl))
      clear hb1 HK
      go_wp2_with (refine wpList_store_row rfl 124 (.tmp 7) (.tmp 13) rfl w1.heap.size (kindAt kd) rfl rfl 124 kind0 (heap_alloc_new w1 _) (by rw [KS.out]; kernel_rfl) (by rw [KS.out]; rfl) KO.out ?_; rw [World.setRow_alloc_new])
      go_ret
      exact ⟨HF.out _ HE.out, HB1.out.alloc HB1.out.size _⟩
    · have e1 : (x.toList == []) = false := by rw [HL.out]; simpa using hx0
      have e2 : x.toList.isEmpty = false := by rw [HL.out]; simpa using hx0
      have HE := Lib.hid (show normalB s f x.data.toList = ownK kd s.rules x.data.toList by rw [HVal.out, if_pos rfl, if_neg hx0])
      clear hx0
      rcases hkd with rfl | rfl | rfl | rfl
      · have HE2 := Lib.hid (show normalB s f x.data.toList = isOwn (nameN s.rules x.data.toList) x.data.toList from HE.out)
        go_enter Tryz.func83, Tryz.ntmps83
        go_wp2_with fail
        refine HK.out.mono ?_
        rintro e w1 ⟨rfl, hb1⟩
        have HB1 := Lib.hid (((Below.refl w.heap.size w).alloc (Nat.le_refl _) (.cells #[vf, vt, vn, vs] 33)).trans (hb1.mono (by simp)))
        have HX1 := Lib.hid (blk_below (b := w.heap.size) (o := .cells #[vf, vt, vn, vs] 33 (0, 0)) hb1 (by simp) (blk_new rfl))
        clear hb1 HK
        have cf : (w1.alloc (.cells (kindAt 1) 124)).cell? ⟨w1.heap.size, 2, none⟩ = some (fnV 166) := by rw [cell_of_row _ _ _ _ _ _ (heap_alloc_new w1 _)]; rfl
        have z0 := lt_of_blk HX1.out
        obtain ⟨p0, p1, p2, p3⟩ := cells4 HX1.out
        go_wp2_with (refine wpList_store_row rfl 124 (.tmp 7) (.tmp 13) rfl w1.heap.size (kindAt 1) rfl rfl 124 kind0 (heap_alloc_new w1 _) (by rw [KS.out]; kernel_rfl) (by rw [KS.out]; rfl) KO.out ?_; rw [World.setRow_alloc_new])
        have HB2 := HB1.out.alloc HB1.out.size (.cells (kindAt 1) 124)
        have HB2' := Lib.hid HB2
        refine (normal_any Any1 vt vn vs s.rules x _ (HS.out.2.below HB2) hx).mono ?_
        clear HB2
        rw [← HE2.out]
        obtain ⟨pb, hpp⟩ : ∃ p, normalB s f x.data.toList = p := ⟨_, rfl⟩
        rw [hpp]
        have HPP := Lib.hid hpp
        rintro e w3 ⟨rfl, hb3⟩
        have HB3 := Lib.hid (HB2'.out.trans (hb3.mono HB2'.out.size))
        clear hb3 hpp HE HE2 cf p0 p1 p2 p3
        go_wp2_with fail
        go_ret
        exact ⟨HF.out _ HPP.out, HB3.out⟩
      · have HE2 := Lib.hid (show normalB s f x.data.toList = readB x.data.toList from HE.out)
        go_enter Tryz.func83, Tryz.ntmps83
        go_wp2_with fail
        refine HK.out.mono ?_
        rintro e w1 ⟨rfl, hb1⟩
        have HB1 := Lib.hid (((Below.refl w.heap.size w).alloc (Nat.le_refl _) (.cells #[vf, vt, vn, vs] 33)).trans (hb1.mono (by simp)))
        have HX1 := Lib.hid (blk_below (b := w.heap.size) (o := .cells #[vf, vt, vn, vs] 33 (0, 0)) hb1 (by simp) (blk_new rfl))
        clear hb1 HK
        have cf : (w1.alloc (.cells (kindAt 2) 124)).cell? ⟨w1.heap.size, 2, none⟩ = some (fnV 169) := by rw [cell_of_row _ _ _ _ _ _ (heap_alloc_new w1 _)]; rfl
        have z0 := lt_of_blk HX1.out
        obtain ⟨p0, p1, p2, p3⟩ := cells4 HX1.out
        go_wp2_with (refine wpList_store_row rfl 124 (.tmp 7) (.tmp 13) rfl w1.heap.size (kindAt 2) rfl rfl 124 kind0 (heap_alloc_new w1 _) (by rw [KS.out]; kernel_rfl) (by rw [KS.out]; rfl) KO.out ?_; rw [World.setRow_alloc_new])
        have HB2 := HB1.out.alloc HB1.out.size (.cells (kindAt 2) 124)
        have HB2' := Lib.hid HB2
        refine (kind1_any vt vn vs x _).mono ?_
        clear HB2
        rw [← HE2.out]
        obtain ⟨pb, hpp⟩ : ∃ p, normalB s f x.data.toList = p := ⟨_, rfl⟩
        rw [hpp]
        have HPP := Lib.hid hpp
        rintro e w3 ⟨rfl, hb3⟩
        have HB3 := Lib.hid (HB2'.out.trans (hb3.mono HB2'.out.size))
        clear hb3 hpp HE HE2 cf p0 p1 p2 p3
        go_wp2_with fail
        go_ret
        exact ⟨HF.out _ HPP.out, HB3.out⟩
      · have HE2 := Lib.hid (show normalB s f x.data.toList = isOwn (codeN x.data.toList) x.data.toList from HE.out)
        go_enter Tryz.func83, Tryz.ntmps83
        go_wp2_with fail
        refine HK.out.mono ?_
        rintro e w1 ⟨rfl, hb1⟩
        have HB1 := Lib.hid (((Below.refl w.heap.size w).alloc (Nat.le_refl _) (.cells #[vf, vt, vn, vs] 33)).trans (hb1.mono (by simp)))
        have HX1 := Lib.hid (blk_below (b := w.heap.size) (o := .cells #[vf, vt, vn, vs] 33 (0, 0)) hb1 (by simp) (blk_new rfl))
        clear hb1 HK
        have cf : (w1.alloc (.cells (kindAt 3) 124)).cell? ⟨w1.heap.size, 2, none⟩ = some (fnV 174) := by rw [cell_of_row _ _ _ _ _ _ (heap_alloc_new w1 _)]; rfl
        have z0 := lt_of_blk HX1.out
        obtain ⟨p0, p1, p2, p3⟩ := cells4 HX1.out
        go_wp2_with (refine wpList_store_row rfl 124 (.tmp 7) (.tmp 13) rfl w1.heap.size (kindAt 3) rfl rfl 124 kind0 (heap_alloc_new w1 _) (by rw [KS.out]; kernel_rfl) (by rw [KS.out]; rfl) KO.out ?_; rw [World.setRow_alloc_new])
        have HB2 := HB1.out.alloc HB1.out.size (.cells (kindAt 3) 124)
        have HB2' := Lib.hid HB2
        refine (kind3_any vt vn vs x _ hx).mono ?_
        clear HB2
        rw [← HE2.out]
        obtain ⟨pb, hpp⟩ : ∃ p, normalB s f x.data.toList = p := ⟨_, rfl⟩
        rw [hpp]
        have HPP := Lib.hid hpp
        rintro e w3 ⟨rfl, hb3⟩
        have HB3 := Lib.hid (HB2'.out.trans (hb3.mono HB2'.out.size))
        clear hb3 hpp HE HE2 cf p0 p1 p2 p3
        go_wp2_with fail
        go_ret
        exact ⟨HF.out _ HPP.out, HB3.out⟩
      · have HE2 := Lib.hid (show normalB s f x.data.toList = isOwn (addrN s.rules x.data.toList) x.data.toList from HE.out)
        go_enter Tryz.func83, Tryz.ntmps83
        go_wp2_with fail
        refine HK.out.mono ?_
        rintro e w1 ⟨rfl, hb1⟩
        have HB1 := Lib.hid (((Below.refl w.heap.size w).alloc (Nat.le_refl _) (.cells #[vf, vt, vn, vs] 33)).trans (hb1.mono (by simp)))
        have HX1 := Lib.hid (blk_below (b := w.heap.size) (o := .cells #[vf, vt, vn, vs] 33 (0, 0)) hb1 (by simp) (blk_new rfl))
        clear hb1 HK
        have cf : (w1.alloc (.cells (kindAt 4) 124)).cell? ⟨w1.heap.size, 2, none⟩ = some (fnV 178) := by rw [cell_of_row _ _ _ _ _ _ (heap_alloc_new w1 _)]; rfl
        have z0 := lt_of_blk HX1.out
        obtain ⟨p0, p1, p2, p3⟩ := cells4 HX1.out
        go_wp2_with (refine wpList_store_row rfl 124 (.tmp 7) (.tmp 13) rfl w1.heap.size (kindAt 4) rfl rfl 124 kind0 (heap_alloc_new w1 _) (by rw [KS.out]; kernel_rfl) (by rw [KS.out]; rfl) KO.out ?_; rw [World.setRow_alloc_new])
        have HB2 := HB1.out.alloc HB1.out.size (.cells (kindAt 4) 124)
        have HB2' := Lib.hid HB2
        refine (anormal_any Any1 vt vn vs s.rules x _ (HS.out.2.below HB2) hx).mono ?_
        clear HB2
        rw [← HE2.out]
        obtain ⟨pb, hpp⟩ : ∃ p, normalB s f x.data.toList = p := ⟨_, rfl⟩
        rw [hpp]
        have HPP := Lib.hid hpp
        rintro e w3 ⟨rfl, hb3⟩
        have HB3 := Lib.hid (HB2'.out.trans (hb3.mono HB2'.out.size))
        clear hb3 hpp HE HE2 cf p0 p1 p2 p3
        go_wp2_with fail
        go_ret
        exact ⟨HF.out _ HPP.out, HB3.out⟩
  · have hne : (er == 0) = false := by simpa using he
    have HE := Lib.hid (show normalB s f x.data.toList = false by rw [HVal.out, if_neg he])
    clear he hkk
    go_enter Tryz.func83, Tryz.ntmps83
    go_wp2_with fail
    refine HK.out.mono ?_
    rintro e w1 ⟨rfl, hb1⟩
    have HB1 := Lib.hid (((Below.refl w.heap.size w).alloc (Nat.le_refl _) (.cells #[vf, vt, vn, vs] 33)).trans (hb1.mono (by simp)))
    have HX1 := Lib.hid (blk_below (b := w.heap.size) (o := .cells #[vf, vt, vn, vs] 33 (0, 0)) hb1 (by simp) (blk_new rfl))
    clear hb1 HK
    go_wp2_with (refine wpList_store_row rfl 124 (.tmp 7) (.tmp 13) rfl w1.heap.size (kindAt kd) rfl rfl 124 kind0 (heap_alloc_new w1 _) (by rw [KS.out]; kernel_rfl) (by rw [KS.out]; rfl) KO.out ?_; rw [World.setRow_alloc_new])
    go_ret
    exact ⟨HF.out _ HE.out, HB1.out.alloc HB1.out.size _⟩
end
section
set_option maxRecDepth 100000
open Go.RowKit Cal
/-- a token: not empty, of letters and digits -/
def okT (t : List UInt8) : Prop := t ≠ [] ∧ ∀ b ∈ t, okB b = true ∧ b ≠ 32
theorem toksA_run (t : List UInt8) (h : ∀ b ∈ t, b ≠ 32) : ∀ p r, toksA p (t ++ r) = toksA (p ++ t) r := by
  induction t with
  | nil => intro p r; simp
  | cons c t ih =>
    intro p r
    rw [List.cons_append, toksA_ch _ _ _ (h c List.mem_cons_self), ih (fun b hb => h b (List.mem_cons_of_mem _ hb)), List.append_assoc]
    rfl
theorem toks_join : ∀ (L : List (List UInt8)), (∀ t ∈ L, okT t) → toks (joinL L) = L := by
  intro L
  induction L with
  | nil => intro _; rfl
  | cons t L ih =>
    intro h
    obtain ⟨h1, h2⟩ := h t List.mem_cons_self
    have hr := ih fun x hx => h x (List.mem_cons_of_mem _ hx)
    unfold toks at hr ⊢
    by_cases hL : L = []
    · subst hL
      rw [show joinL [t] = t ++ [] by simp [joinL], toksA_run t (fun b hb => (h2 b hb).2), List.nil_append, toksA_end _ h1]
    · rw [join_cons_ne _ _ hL, List.append_assoc, toksA_run t (fun b hb => (h2 b hb).2), List.nil_append, List.cons_append, List.nil_append, toksA_sp _ _ h1, hr]
theorem join_ok (L : List (List UInt8)) (h : ∀ t ∈ L, okT t) : ∀ b ∈ joinL L, okB b = true := by
  intro b hb
  rcases join_mem L b hb with h1 | ⟨t, ht, hbt⟩
  · subst h1; rfl
  · exact ((h t ht).2 b hbt).1
theorem ok_plain {b : UInt8} (h : okB b = true) : plainB b = [b] := by
  have hlt := okB_lt h
  unfold plainB
  by_cases hu : isUp b = true
  · exfalso
    unfold okB at h
    simp only [Bool.or_eq_true, low_iff, dig_iff, decide_eq_true_iff, beq_iff_eq] at h
    rw [up_iff, decide_eq_true_iff] at hu
    rcases h with (h | h) | h
    · omega
    · omega
    · subst h; simp at hu
  · rw [if_neg hu]
    unfold okB at h
    simp only [Bool.or_eq_true, beq_iff_eq] at h
    rcases h with h | h
    · rw [if_pos (by simpa using h)]
    · subst h; rfl
theorem ok_pair {a b : UInt8} (h : okB a = true) : isPair a b = false := by
  have hlt := okB_lt h
  rw [pair_iff]; simp; omega
theorem ok_byte {b : UInt8} (h : okB b = true) : okByte b = true := by
  unfold okB at h
  simp only [Bool.or_eq_true, low_iff, dig_iff, decide_eq_true_iff, beq_iff_eq] at h
  rw [ok_iff, decide_eq_true_iff]
  rcases h with (h | h) | h
  · omega
  · omega
  · subst h; decide
theorem raw_same (l : List UInt8) (h : ∀ b ∈ l, okB b = true) : rawL l = l ∧ validL l = true := by
  induction l using rawL.induct with
  | case1 => exact ⟨rfl, rfl⟩
  | case2 a => exact ⟨by simp only [rawL]; exact ok_plain (h a (by simp)), by simp only [validL]; exact ok_byte (h a (by simp))⟩
  | case3 a b r hp ih => exfalso; rw [ok_pair (h a (by simp))] at hp; cases hp
  | case4 a b r hp ih =>
    have hp' := ok_pair (a := a) (b := b) (h a (by simp))
    have := ih fun x hx => h x (List.mem_cons_of_mem _ hx)
    refine ⟨?_, ?_⟩
    · rw [rawL, hp']; simp only [Bool.false_eq_true, if_false]; rw [this.1, ok_plain (h a (by simp))]; rfl
    · rw [validL, hp']; simp only [Bool.false_eq_true, if_false]; rw [this.2, ok_byte (h a (by simp))]; rfl
theorem fold_same (L : List (List UInt8)) (h : ∀ t ∈ L, okT t) : foldL (joinL L) = joinL L ∧ toks (foldL (joinL L)) = L := by
  have h1 := (raw_same (joinL L) (join_ok L h)).1
  have h2 := toks_join L h
  have h3 : foldL (joinL L) = joinL L := by unfold foldL; rw [h1, h2]
  exact ⟨h3, by rw [h3, h2]⟩
theorem foldV_join (L : List (List UInt8)) (h : ∀ t ∈ L, okT t) (hl : (joinL L).length ≤ 64) : foldV (joinL L) = true := by
  unfold foldV
  rw [(raw_same (joinL L) (join_ok L h)).2]; simpa using hl
theorem toksA_ne (l : List UInt8) : ∀ p, ∀ t ∈ toksA p l, t ≠ [] := by
  induction l with
  | nil =>
    intro p t ht
    simp only [toksA] at ht
    split at ht
    · simp at ht
    · simp at ht; subst ht; assumption
  | cons c l ih =>
    intro p t ht
    by_cases hc : c = 32
    · subst hc
      by_cases hp : p = []
      · subst hp; rw [toksA_sp0] at ht; exact ih [] t ht
      · rw [toksA_sp _ _ hp] at ht
        rcases List.mem_cons.1 ht with rfl | ht
        · exact hp
        · exact ih [] t ht
    · rw [toksA_ch _ _ _ hc] at ht; exact ih _ t ht
theorem toks_ok (l : List UInt8) : ∀ t ∈ toks (foldL l), okT t := by
  intro t ht
  refine ⟨toksA_ne _ [] t ht, fun b hb => ?_⟩
  rcases toksA_mem _ [] t ht b hb with h | h
  · simp at h
  · exact ⟨fold_ok l b h.1, h.2⟩
end
section
set_option maxRecDepth 100000
open Go.RowKit Cal
theorem letters_low (t : List UInt8) : ∀ b ∈ lettersL t, isLow b = true := fun b hb => (List.mem_filter.1 hb).2
theorem low_same {t : List UInt8} (h : ∀ b ∈ t, isLow b = true) : lettersL t = t := List.filter_eq_self.2 h
theorem low_okT {t : List UInt8} (h0 : t ≠ []) (h : ∀ b ∈ t, isLow b = true) : okT t := ⟨h0, fun b hb => ⟨by simp [okB, h b hb], by
  intro e; subst e; have := h 32 hb; rw [low_iff] at this; simp at this⟩⟩
theorem token_low {t : List UInt8} (h : tokenB t = true) : t ≠ [] ∧ ∀ b ∈ t, isLow b = true := by
  unfold tokenB at h
  cases h1 : t.isEmpty
  · simp only [h1, cond_false] at h
    cases h2 : decide (t.length ≤ 64)
    · simp [h2] at h
    · simp only [h2, cond_true, beq_iff_eq] at h
      exact ⟨by simpa using h1, fun b hb => letters_low t b (by rw [h]; exact hb)⟩
  · simp [h1] at h
theorem pair_facts {L : List P2} (h : pairsB L = true) (j : Nat) (hj : j < L.length) : tokenB (L.getD j default).1 = true ∧ tokenB (L.getD j default).2 = true ∧ findI L (L.getD j default).2 < 0 := by
  have := pairs_at h j hj
  unfold pairAtB at this
  simp only [Bool.and_eq_true, decide_eq_true_iff] at this
  exact ⟨this.1.1.1, this.1.1.2, this.2⟩
theorem canon_neg {L : List P2} {s : List UInt8} (h : findI L s < 0) : canonL L s = s := by
  rcases canon_find L s with ⟨_, h2⟩ | ⟨k, _, h1, _⟩
  · exact h2
  · omega
/-- by rules, a token becomes itself, or one that is no token of the rules -/
theorem canon_cases {L : List P2} (h : pairsB L = true) (s : List UInt8) : (canonL L s = s) ∨ (∃ k, k < L.length ∧ canonL L s = (L.getD k default).2 ∧ tokenB (canonL L s) = true ∧ canonL L (canonL L s) = canonL L s) := by
  rcases canon_find L s with ⟨_, h2⟩ | ⟨k, hk, h1, h3⟩
  · exact .inl h2
  · right
    obtain ⟨_, g2, g3⟩ := pair_facts h k hk
    rw [h3] at g2 g3
    exact ⟨k, hk, h3.symm, g2, canon_neg g3⟩
theorem normTok_same {r : RulesL} (hc : checkR r = 0) {x t : List UInt8} (ht : t ∈ normTok r x) : okT t ∧ normTok r t = [t] := by
  obtain ⟨_, _, h2, _, h4⟩ := check_zero hc
  unfold normTok at ht
  by_cases hd : ((lettersL x).isEmpty || hasB r.titles (lettersL x)) = true
  · rw [if_pos hd] at ht; simp at ht
  · rw [if_neg hd] at ht
    simp at ht
    simp only [Bool.or_eq_true, not_or, Bool.not_eq_true] at hd
    obtain ⟨hd1, hd2⟩ := hd
    have key : ∀ y : List UInt8, y ≠ [] → (∀ b ∈ y, isLow b = true) → hasB r.titles y = false → canonL r.nicks y = y → okT y ∧ normTok r y = [y] := by
      intro y h0 h1 h3 h5
      refine ⟨low_okT h0 h1, ?_⟩
      unfold normTok
      rw [low_same h1, h3, h5, if_neg (by simpa using h0)]
    rcases canon_cases h2 (lettersL x) with hs | ⟨k, hk, e1, e2, e3⟩
    · rw [hs] at ht
      subst ht
      exact key _ (by simpa using hd1) (letters_low x) hd2 hs
    · rw [← ht] at e1 e2 e3
      obtain ⟨g1, g2⟩ := token_low e2
      refine key t g1 g2 ?_ e3
      rw [e1]
      have := List.any_eq_false.1 h4 (r.nicks.getD k default) (by rw [List.getD, List.getElem?_eq_getElem hk]; exact List.getElem_mem hk)
      simpa using this
theorem nameToks_same {r : RulesL} (hc : checkR r = 0) (T : List (List UInt8)) : (∀ t ∈ nameToks r T, okT t) ∧ nameToks r (nameToks r T) = nameToks r T := by
  have h : ∀ t ∈ nameToks r T, okT t ∧ normTok r t = [t] := by
    intro t ht
    obtain ⟨x, _, hx⟩ := List.mem_flatMap.1 ht
    exact normTok_same hc hx
  refine ⟨fun t ht => (h t ht).1, ?_⟩
  have : ∀ L : List (List UInt8), (∀ t ∈ L, normTok r t = [t]) → nameToks r L = L := by
    intro L
    induction L with
    | nil => intro _; rfl
    | cons t L ih =>
      intro hL
      have := ih fun x hx => hL x (List.mem_cons_of_mem _ hx)
      unfold nameToks at this ⊢
      rw [List.flatMap_cons, this, hL t List.mem_cons_self]; rfl
  exact this _ fun t ht => (h t ht).2
theorem nameN_same {r : RulesL} {l v : List UInt8} (h : nameN r l = (v, 0)) : nameN r v = (v, 0) := by
  unfold nameN at h
  by_cases hc : checkR r = 0
  · rw [if_pos hc] at h
    by_cases hv : foldV l = true
    · rw [if_pos hv] at h
      obtain ⟨h1, h2⟩ := nameToks_same hc (toks (foldL l))
      generalize nameToks r (toks (foldL l)) = N at h h1 h2
      by_cases hb : 6 < N.length ∨ 64 < (joinL N).length
      · rw [if_pos hb] at h; simp at h
      · rw [if_neg hb] at h
        obtain rfl : joinL N = v := congrArg Prod.fst h
        obtain ⟨f1, f2⟩ := fold_same N h1
        unfold nameN
        rw [if_pos hc, if_pos (foldV_join N h1 (by omega)), f2, h2, if_neg hb]
    · rw [if_neg hv] at h; simp at h
  · rw [if_neg hc] at h
    exact absurd (congrArg Prod.snd h) hc
theorem codeN_same {l v : List UInt8} (h : codeN l = (v, 0)) : codeN v = (v, 0) := by
  unfold codeN at h
  by_cases hv : foldV l = true
  · rw [if_pos hv] at h
    have hok := toks_ok l
    generalize toks (foldL l) = T at h hok
    by_cases hb : 12 < T.flatten.length
    · rw [if_pos hb] at h; simp at h
    · rw [if_neg hb] at h
      obtain rfl : T.flatten = v := congrArg Prod.fst h
      have hbytes : ∀ b ∈ T.flatten, okB b = true ∧ b ≠ 32 := by
        intro b hb'
        obtain ⟨t, ht, hbt⟩ := List.mem_flatten.1 hb'
        exact (hok t ht).2 b hbt
      by_cases h0 : T.flatten = []
      · rw [h0]; rfl
      · have hL : ∀ t ∈ [T.flatten], okT t := by
          intro t ht; simp at ht; subst ht; exact ⟨h0, hbytes⟩
        obtain ⟨f1, f2⟩ := fold_same [T.flatten] hL
        have f3 := foldV_join [T.flatten] hL (by simp [joinL]; simp at hb; omega)
        rw [show joinL [T.flatten] = T.flatten from rfl] at f1 f2 f3
        unfold codeN
        rw [if_pos f3, f2]
        simp only [List.flatten_cons, List.flatten_nil, List.append_nil]
        rw [if_neg hb]
  · rw [if_neg hv] at h; simp at h
end
section
set_option maxRecDepth 100000
open Go.RowKit Cal
theorem dropWhile_fix (l : List UInt8) : (l.dropWhile (· == 48)).dropWhile (· == 48) = l.dropWhile (· == 48) := by
  induction l with
  | nil => rfl
  | cons c l ih =>
    by_cases hc : (c == 48) = true
    · rw [List.dropWhile_cons, if_pos hc, ih]
    · rw [List.dropWhile_cons, if_neg hc, List.dropWhile_cons, if_neg hc]
theorem short_num (x : List UInt8) : numB (shortL x) = true := by
  unfold shortL
  split
  · assumption
  · rfl
theorem short_same (x : List UInt8) : shortL (shortL x) = shortL x := by
  have hd := dropWhile_fix x
  generalize hr : x.dropWhile (· == 48) = r at hd
  have e : shortL x = if numB r = true then r else 48 :: r := by unfold shortL; rw [hr]
  by_cases hn : numB r = true
  · rw [e, if_pos hn]; unfold shortL; rw [hd, if_pos hn]
  · rw [e, if_neg hn]; unfold shortL
    rw [show (48 :: r).dropWhile (· == 48) = r.dropWhile (· == 48) from rfl, hd, if_neg hn]
theorem dropWhile_mem (l : List UInt8) : ∀ b ∈ l.dropWhile (· == 48), b ∈ l := by
  induction l with
  | nil => intro b hb; simp at hb
  | cons c l ih =>
    intro b hb
    by_cases hc : (c == 48) = true
    · rw [List.dropWhile_cons, if_pos hc] at hb; exact List.mem_cons_of_mem _ (ih b hb)
    · rw [List.dropWhile_cons, if_neg hc] at hb; exact hb
theorem short_ok {x : List UInt8} (h : okT x) : okT (shortL x) := by
  have h1 : ∀ b ∈ x.dropWhile (· == 48), okB b = true ∧ b ≠ 32 := fun b hb => h.2 b (dropWhile_mem x b hb)
  unfold shortL
  split
  · rename_i hn
    refine ⟨fun e => ?_, h1⟩
    rw [e] at hn; cases hn
  · refine ⟨by simp, fun b hb => ?_⟩
    rcases List.mem_cons.1 hb with rfl | hb
    · exact ⟨by decide, by decide⟩
    · exact h1 b hb
theorem low_not_num {t : List UInt8} (h : ∀ b ∈ t, isLow b = true) : numB t = false := by
  cases t with
  | nil => rfl
  | cons c t =>
    have := h c List.mem_cons_self
    rw [low_iff, decide_eq_true_iff] at this
    show isDgt c = false
    rw [dig_iff]; simp; omega
/-- what becomes of a token stays, and stays a number or none -/
theorem addrTok_same {r : RulesL} (h : pairsB r.streets = true) {x : List UInt8} (hx : okT x) : okT (addrTok r x) ∧ addrTok r (addrTok r x) = addrTok r x := by
  by_cases hn : numB x = true
  · have e : addrTok r x = shortL x := by unfold addrTok; rw [if_pos hn]
    rw [e]
    refine ⟨short_ok hx, ?_⟩
    unfold addrTok
    rw [if_pos (short_num x), short_same]
  · have e : addrTok r x = canonL r.streets x := by unfold addrTok; rw [if_neg hn]
    rw [e]
    rcases canon_cases h x with hs | ⟨k, hk, e1, e2, e3⟩
    · rw [hs]; exact ⟨hx, by rw [e, hs]⟩
    · obtain ⟨g1, g2⟩ := token_low e2
      refine ⟨low_okT g1 g2, ?_⟩
      unfold addrTok
      rw [low_not_num g2, e3]; simp
theorem order2_same (T : List (List UInt8)) : order2 (order2 T) = order2 T := by
  have hn : ∀ L : List (List UInt8), L.filter (fun _ => false) = [] := fun L => by induction L with
    | nil => rfl
    | cons x L ih => rw [List.filter_cons]; simp
  unfold order2
  simp [List.filter_append, List.filter_filter, hn]
theorem order2_length (T : List (List UInt8)) : (order2 T).length = T.length := by
  induction T with
  | nil => rfl
  | cons t T ih =>
    unfold order2 at ih ⊢
    cases h : numB t <;> simp [List.filter_cons, h] at ih ⊢ <;> omega
theorem map_same {f : List UInt8 → List UInt8} : ∀ (T : List (List UInt8)), (∀ t ∈ T, f t = t) → T.map f = T := by
  intro T
  induction T with
  | nil => intro _; rfl
  | cons t T ih => intro h; rw [List.map_cons, h t List.mem_cons_self, ih fun x hx => h x (List.mem_cons_of_mem _ hx)]
theorem addrN_same {r : RulesL} {l v : List UInt8} (h : addrN r l = (v, 0)) : addrN r v = (v, 0) := by
  unfold addrN at h
  by_cases hc : checkR r = 0
  · rw [if_pos hc] at h
    obtain ⟨_, _, _, h3, _⟩ := check_zero hc
    by_cases hv : foldV l = true
    · rw [if_pos hv] at h
      have hok := toks_ok l
      generalize toks (foldL l) = T at h hok
      have hM : ∀ t ∈ order2 (T.map (addrTok r)), okT t ∧ addrTok r t = t := by
        intro t ht
        obtain ⟨x, hx, rfl⟩ := List.mem_map.1 (order2_mem ht)
        exact addrTok_same h3 (hok x hx)
      have hlen : (order2 (T.map (addrTok r))).length = T.length := by rw [order2_length, List.length_map]
      by_cases hb : 6 < T.length ∨ 64 < (joinL (order2 (T.map (addrTok r)))).length
      · rw [if_pos hb] at h; simp at h
      · rw [if_neg hb] at h
        have hs := order2_same (T.map (addrTok r))
        generalize order2 (T.map (addrTok r)) = M at h hM hlen hb hs
        obtain rfl : joinL M = v := congrArg Prod.fst h
        have h1 : ∀ t ∈ M, okT t := fun t ht => (hM t ht).1
        obtain ⟨f1, f2⟩ := fold_same M h1
        unfold addrN
        rw [if_pos hc, if_pos (foldV_join M h1 (by omega)), f2, map_same M fun t ht => (hM t ht).2, hs, if_neg (by rw [hlen]; exact hb)]
    · rw [if_neg hv] at h; simp at h
  · rw [if_neg hc] at h
    exact absurd (congrArg Prod.snd h) hc
theorem numI_dg (n : Int) (k : Nat) (h0 : 0 ≤ n) (h : n < 10 ^ k) : numI (dg n k) = n := by
  rw [numI_dig _ (dg_dig k n h0), dg_val k n h0 h]
theorem day_read {a b c : Int} (h : vldB a b c = true) : readB (digits8 a b c) = true := by
  obtain ⟨b1, b2, b3, b4, b5, b6⟩ := vld_bd h
  have e1 : (digits8 a b c).take 4 = dg a 4 := by
    unfold digits8; rw [List.append_assoc, List.take_append_of_le_length (by rw [dg_len]; omega), List.take_of_length_le (by rw [dg_len]; omega)]
  have e2 : ((digits8 a b c).drop 4).take 2 = dg b 2 := by
    unfold digits8; rw [List.append_assoc, List.drop_append_of_le_length (by rw [dg_len]; omega), List.drop_eq_nil_of_le (by rw [dg_len]; omega), List.nil_append, List.take_append_of_le_length (by rw [dg_len]; omega), List.take_of_length_le (by rw [dg_len]; omega)]
  have e3 : ((digits8 a b c).drop 6).take 2 = dg c 2 := by
    unfold digits8; rw [List.drop_append_of_le_length (by simp [dg_len]), List.drop_eq_nil_of_le (by simp [dg_len]), List.nil_append, List.take_of_length_le (by rw [dg_len]; omega)]
  unfold readB
  rw [digits8_len, e1, e2, e3, numI_dg a 4 (by omega) (by omega), numI_dg b 2 (by omega) (by omega), numI_dg c 2 (by omega) (by omega), h]
  rfl
theorem dayN_read {l v : List UInt8} (h : dayN l = (v, 0)) : readB v = true := by
  rcases parse_is ⟨l.toArray⟩ with ⟨a, b, c, hv, _, hd⟩ | ⟨_, hd⟩
  · rw [show (⟨l.toArray⟩ : ByteArray).data.toList = l by simp, h] at hd
    obtain rfl : v = digits8 a b c := congrArg Prod.fst hd
    exact day_read hv
  · rw [show (⟨l.toArray⟩ : ByteArray).data.toList = l by simp, h] at hd
    simp at hd
theorem own_of {p : List UInt8 × Int} {v : List UInt8} (h : p = (v, 0)) : isOwn p v = true := by subst h; simp [isOwn]
/-- what is normalised is normal; and what is no date stays as it is -/
theorem value_normal {s : SchemaL} {f : Int} {l v : List UInt8} (h : valueN s f l = (v, 0)) : normalB s f v = true ∧ normalB s f [] = true ∧ ((findN s f).1 = 2 ∨ valueN s f v = (v, 0)) := by
  unfold valueN at h
  by_cases he : (findN s f).2 = 0
  · have hk := findN_kind he
    have e2 : normalB s f [] = true := by unfold normalB; rw [if_pos he, if_pos rfl]
    by_cases hv0 : v = []
    · subst hv0
      exact ⟨e2, e2, .inr (by unfold valueN; rw [if_pos he, if_pos rfl])⟩
    · rw [if_pos he] at h
      by_cases hl : l = []
      · rw [if_pos hl] at h
        exact absurd (congrArg Prod.fst h).symm hv0
      · rw [if_neg hl] at h
        have e1 : normalB s f v = ownK (findN s f).1 s.rules v := by unfold normalB; rw [if_pos he, if_neg hv0]
        have e3 : valueN s f v = normK (findN s f).1 s.rules v := by unfold valueN; rw [if_pos he, if_neg hv0]
        rw [e1, e3]
        rcases hk with hk | hk | hk | hk
        · rw [hk] at h ⊢
          have := nameN_same (r := s.rules) h
          exact ⟨own_of this, e2, .inr this⟩
        · rw [hk] at h ⊢
          exact ⟨dayN_read (show dayN l = (v, 0) from h), e2, .inl rfl⟩
        · rw [hk] at h ⊢
          have := codeN_same (show codeN l = (v, 0) from h)
          exact ⟨own_of this, e2, .inr this⟩
        · rw [hk] at h ⊢
          have := addrN_same (r := s.rules) h
          exact ⟨own_of this, e2, .inr this⟩
  · rw [if_neg he] at h
    exact absurd (congrArg Prod.snd h) he
end
section
set_option maxRecDepth 100000
open Go.RowKit Cal
attribute [local go_sem] toList_mk mk_size
theorem wstr_k (B b : Nat) (bs : List Value) (s : ByteArray) (w : World) (h : Lib.IsBuilderF 71 5 B b bs w) (hlen : bs.length + s.size ≤ 140737488355328) (hBw : B ≤ w.heap.size) :
    Calls Tryz.prog 36 #[.pointer (some ⟨b, 0, none⟩), .string s] w fun e w' => e = .returned (.tuple #[.int .i64 s.size, .nilIface]) ∧ (Lib.BuilderAtF 71 5 B b (.pointer (some ⟨b, 0, none⟩)) (bs ++ Lib.strCells s) w' ∧ Below B w w' ∧ Lib.OthersKept 5 (some b) w w') :=
  Any.Builder_WriteString_k { Tryz.lays156 with } Tryz.Builder_Extra_156 B b bs s w h hlen hBw
theorem bstr_k (B b : Nat) (l : List UInt8) (w : World) (h : Lib.IsBuilderF 71 5 B b (Lib.byteCells l) w) (hBw : B ≤ w.heap.size) :
    Calls Tryz.prog 40 #[.pointer (some ⟨b, 0, none⟩)] w fun e w' => e = .returned (.string ⟨l.toArray⟩) ∧ Below B w w' :=
  (Any.Builder_String_any_k Tryz.lays169 Tryz.Builder_Extra_169 B b l w h hBw).mono fun e w' h => ⟨h.1, h.2.2.1⟩
/-- the builder holds these bytes -/
def HoldsB (B b : Nat) (l : List UInt8) (w : World) : Prop := Lib.IsBuilderF 71 5 B b (Lib.byteCells l) w ∧ B ≤ w.heap.size
theorem own_belowF {w w' : World} {B e size n : Nat} {v : Value} {xs : List Value} (h : w.ownsRowF B e size v n xs) (hb : Below w.heap.size w w') : w'.ownsRowF B e size v n xs := by
  refine ⟨h.1, ?_⟩
  rcases h.2 with h0 | ⟨g, cap, cur, fz, hv, hg, hh, rest⟩
  · exact .inl h0
  · exact .inr ⟨g, cap, cur, fz, hv, hg, (hb.block g (lt_of_blk hh)).trans hh, rest⟩
theorem HoldsB.below {B b : Nat} {l : List UInt8} {w w' : World} (h : HoldsB B b l w) (hb : Below w.heap.size w w') : HoldsB B b l w' := by
  have key : ∀ p, Lib.BuilderAtF 71 5 B b p (Lib.byteCells l) w → Lib.BuilderAtF 71 5 B b p (Lib.byteCells l) w' := by
    rintro p ⟨h1, v, h2, h3, h4⟩
    exact ⟨h1, v, blk_below hb (lt_of_blk h2) h2, own_belowF h3 hb, h4⟩
  exact ⟨h.1.imp (key _) (key _), Nat.le_trans h.2 hb.size⟩
end
section
set_option maxRecDepth 100000
open Go.RowKit Cal
attribute [local go_sem] toList_mk mk_size
theorem take_snocA {α : Type} [Inhabited α] (T : List α) (k : Nat) (h : k < T.length) : T.take (k + 1) = T.take k ++ [T.getD k default] := by
  rw [List.take_succ_eq_append_getElem h, List.getD, List.getElem?_eq_getElem h]; rfl
theorem HoldsB.lt {B b : Nat} {l : List UInt8} {w : World} (h : HoldsB B b l w) : b < w.heap.size := by
  rcases h.1 with ⟨_, v, h2, _⟩ | ⟨_, v, h2, _⟩ <;> exact lt_of_blk h2
/-- what the loops of Text hold: the text so far; the blocks of w1 as they were -/
def TextAt (w1 : World) (l : List UInt8) (wr : World) : Prop := HoldsB w1.heap.size w1.heap.size l wr ∧ Below w1.heap.size w1 wr
theorem TextAt.below {w1 wr w' : World} {l : List UInt8} (h : TextAt w1 l wr) (hb : Below wr.heap.size wr w') : TextAt w1 l w' := ⟨h.1.below hb, h.2.trans (hb.mono h.2.size)⟩
end
section
set_option maxRecDepth 100000
open Go.RowKit Cal
/-- what a normal form may be, with its error -/
def FormOk (p : List UInt8 × Int) : Prop := p.1.length ≤ 64 ∧ (p.2 ≠ 0 → p.1 = [])
theorem FormOk.err (e : Int) : FormOk ([], e) := ⟨by simp, fun _ => rfl⟩
theorem nameN_form (r : RulesL) (l : List UInt8) : FormOk (nameN r l) := by
  unfold nameN
  repeat' split
  all_goals first | exact FormOk.err _ | skip
  all_goals exact ⟨by dsimp only; omega, fun h => absurd rfl h⟩
theorem addrN_form (r : RulesL) (l : List UInt8) : FormOk (addrN r l) := by
  unfold addrN
  repeat' split
  all_goals first | exact FormOk.err _ | skip
  all_goals exact ⟨by dsimp only; omega, fun h => absurd rfl h⟩
theorem codeN_form (l : List UInt8) : FormOk (codeN l) := by
  unfold codeN
  repeat' split
  all_goals first | exact FormOk.err _ | skip
  all_goals exact ⟨by dsimp only; omega, fun h => absurd rfl h⟩
theorem dayF_form (y m d : List UInt8) : FormOk (dayF y m d) := by
  unfold dayF
  cases vldB (numI y) (numI m) (numI d)
  · exact FormOk.err _
  · exact ⟨by show (digits8 _ _ _).length ≤ 64; rw [digits8_len]; omega, fun h => absurd rfl h⟩
theorem dayN_form (l : List UInt8) : FormOk (dayN l) := by
  unfold dayN
  repeat' split
  all_goals first | exact FormOk.err _ | exact dayF_form _ _ _
theorem valueN_form (s : SchemaL) (f : Int) (l : List UInt8) : FormOk (valueN s f l) := by
  unfold valueN normK
  repeat' split
  all_goals first | exact FormOk.err _ | exact nameN_form _ _ | exact dayN_form _ | exact codeN_form _ | exact addrN_form _ _
theorem findN_in {s : SchemaL} {f : Nat} (h : checkS s = 0) (hf : f < s.fields.length) : findN s f = ((s.fields.getD f default).2, 0) := by
  unfold findN
  rw [if_pos h, if_pos (by omega), Int.toNat_natCast]
end
section
set_option maxRecDepth 100000
open Go.RowKit Cal
theorem nameN_toks {r : RulesL} {l v : List UInt8} (h : nameN r l = (v, 0)) : ∃ M : List (List UInt8), (∀ t ∈ M, okT t) ∧ v = joinL M ∧ M.length ≤ 6 ∧ v.length ≤ 64 := by
  unfold nameN at h
  by_cases hc : checkR r = 0
  · rw [if_pos hc] at h
    by_cases hv : foldV l = true
    · rw [if_pos hv] at h
      obtain ⟨h1, _⟩ := nameToks_same hc (toks (foldL l))
      generalize nameToks r (toks (foldL l)) = M at h h1
      by_cases hb : 6 < M.length ∨ 64 < (joinL M).length
      · rw [if_pos hb] at h; simp at h
      · rw [if_neg hb] at h
        obtain rfl : joinL M = v := congrArg Prod.fst h
        exact ⟨M, h1, rfl, by omega, by omega⟩
    · rw [if_neg hv] at h; simp at h
  · rw [if_neg hc] at h
    exact absurd (congrArg Prod.snd h) hc
theorem addrN_toks {r : RulesL} {l v : List UInt8} (h : addrN r l = (v, 0)) : ∃ M : List (List UInt8), (∀ t ∈ M, okT t) ∧ v = joinL M ∧ M.length ≤ 6 ∧ v.length ≤ 64 := by
  unfold addrN at h
  by_cases hc : checkR r = 0
  · rw [if_pos hc] at h
    obtain ⟨_, _, _, h3, _⟩ := check_zero hc
    by_cases hv : foldV l = true
    · rw [if_pos hv] at h
      have hok := toks_ok l
      generalize toks (foldL l) = T at h hok
      have hM : ∀ t ∈ order2 (T.map (addrTok r)), okT t := by
        intro t ht
        obtain ⟨x, hx, rfl⟩ := List.mem_map.1 (order2_mem ht)
        exact (addrTok_same h3 (hok x hx)).1
      have hlen : (order2 (T.map (addrTok r))).length = T.length := by rw [order2_length, List.length_map]
      by_cases hb : 6 < T.length ∨ 64 < (joinL (order2 (T.map (addrTok r)))).length
      · rw [if_pos hb] at h; simp at h
      · rw [if_neg hb] at h
        obtain rfl : joinL (order2 (T.map (addrTok r))) = v := congrArg Prod.fst h
        exact ⟨_, hM, rfl, by omega, by omega⟩
    · rw [if_neg hv] at h; simp at h
  · rw [if_neg hc] at h
    exact absurd (congrArg Prod.snd h) hc
end
section
set_option maxRecDepth 100000
open Go.RowKit
attribute [local go_sem] toList_mk mk_size bytes_append
theorem toks_len (l : List UInt8) (h : l.length ≤ 64) : (toks l).length ≤ 65 ∧ ∀ t ∈ toks l, t.length ≤ 64 := by
  have h1 := toksA_len l []
  unfold toks
  refine ⟨by simp at h1; omega, fun t ht => ?_⟩
  have : ∀ (L : List (List UInt8)), t ∈ L → t.length ≤ (joinL L).length := by
    intro L
    induction L with
    | nil => intro h; simp at h
    | cons a L ih =>
      intro h
      by_cases hL : L = []
      · subst hL; simp at h; subst h; exact Nat.le_refl _
      · rw [join_cons_ne _ _ hL]
        rcases List.mem_cons.1 h with rfl | h
        · simp
        · have := ih h; simp; omega
  have := this _ ht
  simp at h1; omega
end
section
set_option maxRecDepth 100000
open Go.RowKit Cal
attribute [local go_sem] toList_mk mk_size bytes_append
theorem own_small {p : List UInt8 × Int} {l : List UInt8} (h : isOwn p l = true) (hf : FormOk p) : l.length ≤ 64 ∧ p = (l, 0) := by
  obtain ⟨a, b⟩ := p
  unfold isOwn at h
  cases hb : (b == (0 : Int))
  · rw [hb] at h; cases h
  · rw [hb] at h
    simp only [cond_true, beq_iff_eq] at h hb
    subst h hb
    exact ⟨hf.1, rfl⟩
theorem join_ascii {M : List (List UInt8)} (h : ∀ t ∈ M, okT t) : ascii (joinL M) := fun b hb => okB_lt (join_ok M h b hb)
/-- what a value in normal form is like -/
theorem own_facts {k : Int} {r : RulesL} {l : List UInt8} (h : ownK k r l = true) (hk : k = 1 ∨ k = 2 ∨ k = 3 ∨ k = 4) : l.length ≤ 64 ∧ (k = 1 ∨ k = 4 → ascii l) ∧ (k = 2 → l.length = 8) := by
  unfold ownK at h
  rcases hk with rfl | rfl | rfl | rfl
  · obtain ⟨h1, h2⟩ := own_small (show isOwn (nameN r l) l = true from h) (nameN_form r l)
    obtain ⟨M, g1, g2, _⟩ := nameN_toks h2
    exact ⟨h1, fun _ => by rw [g2]; exact join_ascii g1, fun e => by omega⟩
  · have hr : readB l = true := h
    unfold readB at hr
    cases hd : decide (l.length = 8)
    · rw [hd] at hr; cases hr
    · have : l.length = 8 := by simpa using hd
      exact ⟨by omega, fun e => by omega, fun _ => this⟩
  · obtain ⟨h1, h2⟩ := own_small (show isOwn (codeN l) l = true from h) (codeN_form l)
    exact ⟨h1, fun e => by omega, fun e => by omega⟩
  · obtain ⟨h1, h2⟩ := own_small (show isOwn (addrN r l) l = true from h) (addrN_form r l)
    obtain ⟨M, g1, g2, _⟩ := addrN_toks h2
    exact ⟨h1, fun _ => by rw [g2]; exact join_ascii g1, fun e => by omega⟩
end
section
open Go.RowKit
/-- a record -/
structure RecL where
  id : Int
  ver : Int
  vals : List (List UInt8)
def noRec : RecL := ⟨0, 0, []⟩
def numberedB (i v : Int) : Bool := decide (1 ≤ i) && decide (i ≤ 1048576) && decide (1 ≤ v) && decide (v ≤ 1048576)
/-- values from field i on are normal -/
def normA (s : SchemaL) : Nat → List (List UInt8) → Bool
  | _, [] => true
  | i, x :: l => normalB s i x && normA s (i + 1) l
def checkI (s : SchemaL) (r : RecL) : Int := if (numberedB r.id r.ver && (r.vals.length == s.fields.length) && normA s 0 r.vals) = true then 0 else 7
def checkN (s : SchemaL) (r : RecL) : Int := if checkS s = 0 then checkI s r else checkS s
/-- the values that are made of raw ones, from field i on, behind C; the error -/
def makeA (s : SchemaL) : Nat → List (List UInt8) → List (List UInt8) → List (List UInt8) × Int
  | _, C, [] => (C, 0)
  | i, C, x :: l => if (valueN s i x).2 = 0 then makeA s (i + 1) (C ++ [(valueN s i x).1]) l else ([], (valueN s i x).2)
def makeN (s : SchemaL) (id ver : Int) (raws : List (List UInt8)) : RecL × Int :=
  if checkS s = 0 then
    if raws.length = s.fields.length then
      if numberedB id ver = true then (if (makeA s 0 [] raws).2 = 0 then (⟨id, ver, (makeA s 0 [] raws).1⟩, 0) else (noRec, (makeA s 0 [] raws).2))
      else (noRec, 7)
    else (noRec, 8)
  else (noRec, checkS s)
theorem makeA_len (s : SchemaL) (raws : List (List UInt8)) : ∀ i C, (makeA s i C raws).2 = 0 → (makeA s i C raws).1.length = C.length + raws.length := by
  induction raws with
  | nil => intro i C _; simp [makeA]
  | cons x l ih =>
    intro i C h
    unfold makeA at h ⊢
    split at h
    · rename_i h0
      rw [if_pos h0, ih _ _ h]; simp; omega
    · rename_i h0
      exact absurd h h0
theorem normA_append (s : SchemaL) (A B : List (List UInt8)) : ∀ i, normA s i (A ++ B) = (normA s i A && normA s (i + A.length) B) := by
  induction A with
  | nil => intro i; simp [normA]
  | cons x A ih => intro i; simp only [List.cons_append, normA, ih, List.length_cons, Bool.and_assoc]; rw [show i + 1 + A.length = i + (A.length + 1) by omega]
theorem normA_get (s : SchemaL) (L : List (List UInt8)) : ∀ i, normA s i L = true → ∀ j, j < L.length → normalB s (i + j : Nat) (L.getD j []) = true := by
  induction L with
  | nil => intro i _ j hj; simp at hj
  | cons x L ih =>
    intro i h j hj
    simp only [normA, Bool.and_eq_true] at h
    cases j with
    | zero => simpa using h.1
    | succ j =>
      have := ih (i + 1) h.2 j (by simpa using hj)
      rw [show i + (j + 1) = i + 1 + j by omega]
      simpa using this
theorem normA_of (s : SchemaL) (L : List (List UInt8)) : ∀ i, (∀ j, j < L.length → normalB s (i + j : Nat) (L.getD j []) = true) → normA s i L = true := by
  induction L with
  | nil => intro i _; rfl
  | cons x L ih =>
    intro i h
    simp only [normA, Bool.and_eq_true]
    refine ⟨by simpa using h 0 (by simp), ih (i + 1) fun j hj => ?_⟩
    have := h (j + 1) (by simpa using hj)
    rw [show i + (j + 1) = i + 1 + j by omega] at this
    simpa using this
theorem makeA_norm (s : SchemaL) (raws : List (List UInt8)) : ∀ i C, (makeA s i C raws).2 = 0 → i = C.length → normA s 0 C = true → normA s 0 (makeA s i C raws).1 = true := by
  induction raws with
  | nil => intro i C _ _ h; simpa [makeA] using h
  | cons x l ih =>
    intro i C h hi hC
    unfold makeA at h ⊢
    split at h
    · rename_i h0
      rw [if_pos h0]
      refine ih _ _ h (by simp; omega) ?_
      rw [normA_append, hC, Bool.true_and, Nat.zero_add]
      obtain ⟨⟨v, e⟩, hp⟩ : ∃ p, valueN s i x = p := ⟨_, rfl⟩
      rw [hp] at h0 ⊢
      dsimp only at h0
      subst h0
      simp only [normA, Bool.and_true]
      rw [← hi]
      exact (value_normal hp).1
    · rename_i h0
      exact absurd h h0
theorem makeN_ok {s : SchemaL} {id ver : Int} {raws : List (List UInt8)} {r : RecL} (h : makeN s id ver raws = (r, 0)) :
    checkS s = 0 ∧ r.id = id ∧ r.ver = ver ∧ numberedB id ver = true ∧ r.vals.length = s.fields.length ∧ raws.length = s.fields.length ∧ normA s 0 r.vals = true ∧ r.vals = (makeA s 0 [] raws).1 ∧ (makeA s 0 [] raws).2 = 0 := by
  unfold makeN at h
  split at h
  · rename_i h1
    split at h
    · rename_i h2
      split at h
      · rename_i h3
        split at h
        · rename_i h4
          obtain rfl : RecL.mk id ver (makeA s 0 [] raws).1 = r := congrArg Prod.fst h
          exact ⟨h1, rfl, rfl, h3, by simpa [h2] using makeA_len s raws 0 [] h4, h2, makeA_norm s raws 0 [] h4 rfl rfl, rfl, h4⟩
        · rename_i h4
          exact absurd (congrArg Prod.snd h) h4
      · exact absurd (congrArg Prod.snd h) (show (7 : Int) ≠ 0 by decide)
    · exact absurd (congrArg Prod.snd h) (show (8 : Int) ≠ 0 by decide)
  · rename_i h1
    exact absurd (congrArg Prod.snd h) h1
theorem checkN_of {s : SchemaL} {r : RecL} (h0 : checkS s = 0) (h1 : numberedB r.id r.ver = true) (h2 : r.vals.length = s.fields.length) (h3 : normA s 0 r.vals = true) : checkN s r = 0 := by
  unfold checkN checkI
  rw [if_pos h0, h1, h3, h2]; simp
theorem checkN_ok {s : SchemaL} {r : RecL} (h : checkN s r = 0) : checkS s = 0 ∧ numberedB r.id r.ver = true ∧ r.vals.length = s.fields.length ∧ normA s 0 r.vals = true := by
  unfold checkN at h
  split at h
  · rename_i h0
    unfold checkI at h
    split at h
    · rename_i h1
      simp only [Bool.and_eq_true, beq_iff_eq] at h1
      exact ⟨h0, h1.1.1, h1.1.2, h1.2⟩
    · exact absurd h (by decide)
  · rename_i h0; exact absurd h h0
theorem normalB_nil {s : SchemaL} {f : Int} (h : (findN s f).2 = 0) : normalB s f [] = true := by
  unfold normalB; rw [if_pos h, if_pos rfl]
/-- a record without values is normal -/
theorem none_norm {s : SchemaL} (h : checkS s = 0) : normA s 0 (List.replicate s.fields.length []) = true := by
  refine normA_of _ _ _ fun j hj => ?_
  rw [List.length_replicate] at hj
  have e : (List.replicate s.fields.length ([] : List UInt8)).getD j [] = [] := by simp [List.getD, List.getElem?_replicate]; split <;> rfl
  rw [e]
  refine normalB_nil ?_
  rw [findN_in h (by simpa using hj)]
end
section
open Go.RowKit
/-- an array of bits -/
structure BitsL where
  len : Int
  words : List Int
def noBits : BitsL := ⟨0, []⟩
/-- the parameters of a field -/
structure ParL where
  len : Int
  hashes : Int
  salt : Int
instance : Inhabited ParL := ⟨⟨0, 0, 0⟩⟩
structure EncL where
  id : Int
  ver : Int
  fields : List BitsL
/-- a length that an array may have -/
def rightB (n : Int) : Bool := decide (64 ≤ n) && decide (n ≤ 512) && (n % 64 == 0)
structure ParOk (p : ParL) : Prop where
  len1 : 64 ≤ p.len
  len2 : p.len ≤ 512
  len3 : p.len % 64 = 0
  h1 : 1 ≤ p.hashes
  h2 : p.hashes ≤ 16
  s1 : -1 ≤ p.salt
  s2 : p.salt < 5
theorem ParOk.right {p : ParL} (h : ParOk p) : rightB p.len = true := by
  have h1 := h.len1; have h2 := h.len2; have h3 := h.len3
  simp [rightB, h1, h2, h3]
end
section
set_option maxRecDepth 100000
open Go.RowKit
abbrev sipC (s : Sip) : Array Value := #[.int .u64 s.a, .int .u64 s.b, .int .u64 s.c, .int .u64 s.d]
set_option maxHeartbeats 400000 in
theorem rot13 (x : Int) (w : World) : Calls Tryz.prog 190 #[.int .u64 x, .int .i64 13] w fun e w' => e = .returned (.int .u64 (rotP 8192 2251799813685248 x)) ∧ w = w' := by
  have hb : bits .and .u64 13 63 = 13 := by decide +kernel
  go_enter Tryz.func190, Tryz.ntmps190
  go_wp2
  go_ret
  exact ⟨rfl, rfl⟩
set_option maxHeartbeats 400000 in
theorem rot32 (x : Int) (w : World) : Calls Tryz.prog 190 #[.int .u64 x, .int .i64 32] w fun e w' => e = .returned (.int .u64 (rotP 4294967296 4294967296 x)) ∧ w = w' := by
  have hb : bits .and .u64 32 63 = 32 := by decide +kernel
  go_enter Tryz.func190, Tryz.ntmps190
  go_wp2
  go_ret
  exact ⟨rfl, rfl⟩
set_option maxHeartbeats 400000 in
theorem rot16 (x : Int) (w : World) : Calls Tryz.prog 190 #[.int .u64 x, .int .i64 16] w fun e w' => e = .returned (.int .u64 (rotP 65536 281474976710656 x)) ∧ w = w' := by
  have hb : bits .and .u64 16 63 = 16 := by decide +kernel
  go_enter Tryz.func190, Tryz.ntmps190
  go_wp2
  go_ret
  exact ⟨rfl, rfl⟩
set_option maxHeartbeats 400000 in
theorem rot21 (x : Int) (w : World) : Calls Tryz.prog 190 #[.int .u64 x, .int .i64 21] w fun e w' => e = .returned (.int .u64 (rotP 2097152 8796093022208 x)) ∧ w = w' := by
  have hb : bits .and .u64 21 63 = 21 := by decide +kernel
  go_enter Tryz.func190, Tryz.ntmps190
  go_wp2
  go_ret
  exact ⟨rfl, rfl⟩
set_option maxHeartbeats 400000 in
theorem rot17 (x : Int) (w : World) : Calls Tryz.prog 190 #[.int .u64 x, .int .i64 17] w fun e w' => e = .returned (.int .u64 (rotP 131072 140737488355328 x)) ∧ w = w' := by
  have hb : bits .and .u64 17 63 = 17 := by decide +kernel
  go_enter Tryz.func190, Tryz.ntmps190
  go_wp2
  go_ret
  exact ⟨rfl, rfl⟩
theorem cellsS {w : World} {b : Nat} {x y z u : Value} {t : TypeId} {fr : Nat × Nat} (h : w.heap[b]? = some (.cells #[x, y, z, u] t fr)) :
    w.cell? ⟨b, 0, none⟩ = some x ∧ w.cell? ⟨b, 1, none⟩ = some y ∧ w.cell? ⟨b, 2, none⟩ = some z ∧ w.cell? ⟨b, 3, none⟩ = some u := by
  refine ⟨?_, ?_, ?_, ?_⟩ <;> (rw [cell_of_row _ _ _ _ _ _ h]; rfl)
theorem freeS {w : World} {b : Nat} {cs : Array Value} {t : TypeId} (h : w.heap[b]? = some (.cells cs t (0, 0))) :
    w.frozen? ⟨b, 0, none⟩ = false ∧ w.frozen? ⟨b, 1, none⟩ = false ∧ w.frozen? ⟨b, 2, none⟩ = false ∧ w.frozen? ⟨b, 3, none⟩ = false := ⟨frozen_of_row _ _ _ _ _ h, frozen_of_row _ _ _ _ _ h, frozen_of_row _ _ _ _ _ h, frozen_of_row _ _ _ _ _ h⟩
/-- s lies in block b; all but that block is as it was -/
def SipAt (w : World) (b : Nat) (s : Sip) (w' : World) : Prop := w'.heap[b]? = some (.cells (sipC s) 161 (0, 0)) ∧ w.grownBy w' (some b)
theorem SipAt.read {w w' : World} {b : Nat} {s : Sip} (h : SipAt w b s w') : (w'.cell? ⟨b, 0, none⟩ = some (.int .u64 s.a) ∧ w'.cell? ⟨b, 1, none⟩ = some (.int .u64 s.b) ∧ w'.cell? ⟨b, 2, none⟩ = some (.int .u64 s.c) ∧ w'.cell? ⟨b, 3, none⟩ = some (.int .u64 s.d)) ∧
    (w'.frozen? ⟨b, 0, none⟩ = false ∧ w'.frozen? ⟨b, 1, none⟩ = false ∧ w'.frozen? ⟨b, 2, none⟩ = false ∧ w'.frozen? ⟨b, 3, none⟩ = false) := ⟨cellsS h.1, freeS h.1⟩
theorem SipAt.set {w w' : World} {b i : Nat} {s s' : Sip} {v : Value} {n : Nat} (h : SipAt w b s w') (e : (sipC s).setIfInBounds i v = sipC s') : SipAt w b s' ((w'.drewN n).setCell ⟨b, i, none⟩ v) :=
  ⟨by rw [← e]; exact blk_set h.1, grown_set (grown_drewN h.2 n)⟩
/-- .. behind a region -/
theorem exitk_world {K : Act → World → Prop} {Q : Exit → Act → World → Prop} {x : Exit} {a : Act} {W : World} (h : ∀ w', w' = W → Exit.then K Q x a w') : Exit.then K Q x a W := h W rfl
def rndI : Nat → Sip → Sip
  | 0, s => s
  | n + 1, s => rndP (rndI n s)
set_option maxHeartbeats 4000000 in
theorem rounds_any (b : Nat) (s : Sip) (n : Nat) (w : World) (hb : w.heap[b]? = some (.cells (sipC s) 161 (0, 0))) (hn : n ≤ 4) :
    Calls Tryz.prog 143 #[.pointer (some ⟨b, 0, none⟩), .int .i64 n] w fun e w' => e = .returned (.tuple #[]) ∧ SipAt w b (rndI n s) w' := by
  have HB := Lib.hid hb; clear hb
  go_enter Tryz.func143, Tryz.ntmps143
  go_wp2_with fail
  go_loopw [5] (fun i wr => ∃ k : Nat, i = .int .i64 k ∧ k ≤ n ∧ SipAt w b (rndI k s) wr) (fun i _ => n - (intOf i).toNat)
  case atStart => exact ⟨0, rfl, by omega, HB.out, grown_refl _ _⟩
  case round =>
    obtain ⟨k, rfl, hk, hs⟩ := hrel
    have HS := Lib.hid hs; clear hs
    by_cases hlt : k < n
    · have hq : decide ((k : Int) < n) = true := by simp; omega
      obtain ⟨s0, hs0⟩ : ∃ s0, rndI k s = s0 := ⟨_, rfl⟩
      rw [hs0] at HS
      obtain ⟨a, b0, c, d⟩ := s0
      obtain ⟨⟨c0, c1, c2, c3⟩, f0, f1, f2, f3⟩ := HS.out.read
      dsimp only at c0 c1 c2 c3
      go_wp2_with fail
      refine wp_region_noPanic ?_
      refine wp_region_k (by kernel_rfl) (fun w' => w'.cell? ⟨b, 0, none⟩ = some (.int .u64 a) ∧ w'.cell? ⟨b, 1, none⟩ = some (.int .u64 b0) ∧ w'.cell? ⟨b, 2, none⟩ = some (.int .u64 c) ∧ w'.cell? ⟨b, 3, none⟩ = some (.int .u64 d) ∧ w'.frozen? ⟨b, 0, none⟩ = false ∧ w'.frozen? ⟨b, 1, none⟩ = false ∧ w'.frozen? ⟨b, 2, none⟩ = false ∧ w'.frozen? ⟨b, 3, none⟩ = false) 11 (⟨c0, c1, c2, c3, f0, f1, f2, f3⟩) (fun hHeld => ?_)
      refine tK 0 (h := ?_)
      try simp only [List.getElem_toArray, List.getElem_cons_zero, List.getElem_cons_succ, Act.put, List.setIfInBounds_toArray, List.set_cons_zero, List.set_cons_succ]
      refine tK 1 (h := ?_)
      try simp only [List.getElem_toArray, List.getElem_cons_zero, List.getElem_cons_succ, Act.put, List.setIfInBounds_toArray, List.set_cons_zero, List.set_cons_succ]
      refine tK 2 (h := ?_)
      try simp only [List.getElem_toArray, List.getElem_cons_zero, List.getElem_cons_succ, Act.put, List.setIfInBounds_toArray, List.set_cons_zero, List.set_cons_succ]
      refine tK 3 (h := ?_)
      try simp only [List.getElem_toArray, List.getElem_cons_zero, List.getElem_cons_succ, Act.put, List.setIfInBounds_toArray, List.set_cons_zero, List.set_cons_succ]
      refine tK 4 (h := ?_)
      try simp only [List.getElem_toArray, List.getElem_cons_zero, List.getElem_cons_succ, Act.put, List.setIfInBounds_toArray, List.set_cons_zero, List.set_cons_succ]
      refine tK 5 (h := ?_)
      try simp only [List.getElem_toArray, List.getElem_cons_zero, List.getElem_cons_succ, Act.put, List.setIfInBounds_toArray, List.set_cons_zero, List.set_cons_succ]
      refine tK 6 (h := ?_)
      try simp only [List.getElem_toArray, List.getElem_cons_zero, List.getElem_cons_succ, Act.put, List.setIfInBounds_toArray, List.set_cons_zero, List.set_cons_succ]
      refine tK 7 (h := ?_)
      try simp only [List.getElem_toArray, List.getElem_cons_zero, List.getElem_cons_succ, Act.put, List.setIfInBounds_toArray, List.set_cons_zero, List.set_cons_succ]
      refine tK 8 (h := ?_)
      try simp only [List.getElem_toArray, List.getElem_cons_zero, List.getElem_cons_succ, Act.put, List.setIfInBounds_toArray, List.set_cons_zero, List.set_cons_succ]
      refine tK 9 (h := ?_)
      try simp only [List.getElem_toArray, List.getElem_cons_zero, List.getElem_cons_succ, Act.put, List.setIfInBounds_toArray, List.set_cons_zero, List.set_cons_succ]
      refine tK 10 (h := ?_)
      try simp only [List.getElem_toArray, List.getElem_cons_zero, List.getElem_cons_succ, Act.put, List.setIfInBounds_toArray, List.set_cons_zero, List.set_cons_succ]
      refine wpAnyK_ready (rs := [11]) (by kernel_rfl) (by simp) ?_
      refine AllReadyK.cons rfl (fun K hK => ?_) AllReadyK.nil
      go_simp
      refine shutK_off hK (by decide) ?_
      clear hK K
      try simp only [List.getElem_toArray, List.getElem_cons_zero, List.getElem_cons_succ, Act.put, List.setIfInBounds_toArray, List.set_cons_zero, List.set_cons_succ]
      refine wpAnyK_done (by kernel_rfl) ?_ _
      refine NoPanic.normal ?_
      first | refine wp_world (fun w1 hw1 => ?_) | refine exitk_world (fun w1 hw1 => ?_)
      have hs : SipAt w b ⟨ad a b0, b0, c, d⟩ w1 := by rw [hw1]; first | exact HS.out.set (n := 0) rfl | exact HS.out.set (n := 1) rfl
      obtain ⟨x1, hx1⟩ : ∃ x, ad a b0 = x := ⟨_, rfl⟩
      rw [hx1] at hs
      have Hx1 := Lib.hid hx1; clear hx1
      clear hw1 HS c0 c1 c2 c3 f0 f1 f2 f3; have HS := Lib.hid hs; clear hs
      obtain ⟨⟨c0, c1, c2, c3⟩, f0, f1, f2, f3⟩ := HS.out.read
      dsimp only at c0 c1 c2 c3
      go_wp2_with fail
      refine wp_region_noPanic ?_
      refine wp_region_k (by kernel_rfl) (fun w' => w'.cell? ⟨b, 0, none⟩ = some (.int .u64 x1) ∧ w'.cell? ⟨b, 1, none⟩ = some (.int .u64 b0) ∧ w'.cell? ⟨b, 2, none⟩ = some (.int .u64 c) ∧ w'.cell? ⟨b, 3, none⟩ = some (.int .u64 d) ∧ w'.frozen? ⟨b, 0, none⟩ = false ∧ w'.frozen? ⟨b, 1, none⟩ = false ∧ w'.frozen? ⟨b, 2, none⟩ = false ∧ w'.frozen? ⟨b, 3, none⟩ = false) 13 (⟨c0, c1, c2, c3, f0, f1, f2, f3⟩) (fun hHeld => ?_)
      refine tK 0 (h := ?_)
      try simp only [List.getElem_toArray, List.getElem_cons_zero, List.getElem_cons_succ, Act.put, List.setIfInBounds_toArray, List.set_cons_zero, List.set_cons_succ]
      refine tK 1 (h := ?_)
      try simp only [List.getElem_toArray, List.getElem_cons_zero, List.getElem_cons_succ, Act.put, List.setIfInBounds_toArray, List.set_cons_zero, List.set_cons_succ]
      refine tK 2 (h := ?_)
      try simp only [List.getElem_toArray, List.getElem_cons_zero, List.getElem_cons_succ, Act.put, List.setIfInBounds_toArray, List.set_cons_zero, List.set_cons_succ]
      refine tK 3 (h := ?_)
      try simp only [List.getElem_toArray, List.getElem_cons_zero, List.getElem_cons_succ, Act.put, List.setIfInBounds_toArray, List.set_cons_zero, List.set_cons_succ]
      refine tK 4 (h := ?_)
      try simp only [List.getElem_toArray, List.getElem_cons_zero, List.getElem_cons_succ, Act.put, List.setIfInBounds_toArray, List.set_cons_zero, List.set_cons_succ]
      refine tK 6 (h := ?_)
      try simp only [List.getElem_toArray, List.getElem_cons_zero, List.getElem_cons_succ, Act.put, List.setIfInBounds_toArray, List.set_cons_zero, List.set_cons_succ]
      refine tK 7 (h := ?_)
      try simp only [List.getElem_toArray, List.getElem_cons_zero, List.getElem_cons_succ, Act.put, List.setIfInBounds_toArray, List.set_cons_zero, List.set_cons_succ]
      refine tK 8 (h := ?_)
      try simp only [List.getElem_toArray, List.getElem_cons_zero, List.getElem_cons_succ, Act.put, List.setIfInBounds_toArray, List.set_cons_zero, List.set_cons_succ]
      refine tK 9 (h := ?_)
      try simp only [List.getElem_toArray, List.getElem_cons_zero, List.getElem_cons_succ, Act.put, List.setIfInBounds_toArray, List.set_cons_zero, List.set_cons_succ]
      refine wpAnyK_ready (rs := [5]) (by kernel_rfl) (by simp) ?_
      refine AllReadyK.cons rfl (fun K hK => ?_) AllReadyK.nil
      go_simp
      refine (rot13 _ _).mono ?_; rintro e wq ⟨rfl, rfl⟩
      refine shutK hK (⟨c0, c1, c2, c3, f0, f1, f2, f3⟩) (fun hHeld => ?_)
      clear hK K
      try simp only [List.getElem_toArray, List.getElem_cons_zero, List.getElem_cons_succ, Act.put, List.setIfInBounds_toArray, List.set_cons_zero, List.set_cons_succ]
      refine tK 10 (h := ?_)
      try simp only [List.getElem_toArray, List.getElem_cons_zero, List.getElem_cons_succ, Act.put, List.setIfInBounds_toArray, List.set_cons_zero, List.set_cons_succ]
      refine tK 11 (h := ?_)
      try simp only [List.getElem_toArray, List.getElem_cons_zero, List.getElem_cons_succ, Act.put, List.setIfInBounds_toArray, List.set_cons_zero, List.set_cons_succ]
      refine tK 12 (h := ?_)
      try simp only [List.getElem_toArray, List.getElem_cons_zero, List.getElem_cons_succ, Act.put, List.setIfInBounds_toArray, List.set_cons_zero, List.set_cons_succ]
      refine wpAnyK_ready (rs := [13]) (by kernel_rfl) (by simp) ?_
      refine AllReadyK.cons rfl (fun K hK => ?_) AllReadyK.nil
      go_simp
      refine shutK_off hK (by decide) ?_
      clear hK K
      try simp only [List.getElem_toArray, List.getElem_cons_zero, List.getElem_cons_succ, Act.put, List.setIfInBounds_toArray, List.set_cons_zero, List.set_cons_succ]
      refine wpAnyK_done (by kernel_rfl) ?_ _
      refine NoPanic.normal ?_
      first | refine wp_world (fun w1 hw1 => ?_) | refine exitk_world (fun w1 hw1 => ?_)
      have hs : SipAt w b ⟨x1, xr (rotP 8192 2251799813685248 b0) x1, c, d⟩ w1 := by rw [hw1]; first | exact HS.out.set (n := 0) rfl | exact HS.out.set (n := 1) rfl
      obtain ⟨x2, hx2⟩ : ∃ x, xr (rotP 8192 2251799813685248 b0) x1 = x := ⟨_, rfl⟩
      rw [hx2] at hs
      have Hx2 := Lib.hid hx2; clear hx2
      clear hw1 HS c0 c1 c2 c3 f0 f1 f2 f3; have HS := Lib.hid hs; clear hs
      obtain ⟨⟨c0, c1, c2, c3⟩, f0, f1, f2, f3⟩ := HS.out.read
      dsimp only at c0 c1 c2 c3
      go_wp2_with fail
      refine (rot32 _ _).mono ?_; rintro e wq ⟨rfl, rfl⟩
      go_wp2_with fail
      first | refine wp_world (fun w1 hw1 => ?_) | refine exitk_world (fun w1 hw1 => ?_)
      have hs : SipAt w b ⟨rotP 4294967296 4294967296 x1, x2, c, d⟩ w1 := by rw [hw1]; first | exact HS.out.set (n := 0) rfl | exact HS.out.set (n := 1) rfl
      obtain ⟨x3, hx3⟩ : ∃ x, rotP 4294967296 4294967296 x1 = x := ⟨_, rfl⟩
      rw [hx3] at hs
      have Hx3 := Lib.hid hx3; clear hx3
      clear hw1 HS c0 c1 c2 c3 f0 f1 f2 f3; have HS := Lib.hid hs; clear hs
      obtain ⟨⟨c0, c1, c2, c3⟩, f0, f1, f2, f3⟩ := HS.out.read
      dsimp only at c0 c1 c2 c3
      go_wp2_with fail
      refine wp_region_noPanic ?_
      refine wp_region_k (by kernel_rfl) (fun w' => w'.cell? ⟨b, 0, none⟩ = some (.int .u64 x3) ∧ w'.cell? ⟨b, 1, none⟩ = some (.int .u64 x2) ∧ w'.cell? ⟨b, 2, none⟩ = some (.int .u64 c) ∧ w'.cell? ⟨b, 3, none⟩ = some (.int .u64 d) ∧ w'.frozen? ⟨b, 0, none⟩ = false ∧ w'.frozen? ⟨b, 1, none⟩ = false ∧ w'.frozen? ⟨b, 2, none⟩ = false ∧ w'.frozen? ⟨b, 3, none⟩ = false) 11 (⟨c0, c1, c2, c3, f0, f1, f2, f3⟩) (fun hHeld => ?_)
      refine tK 0 (h := ?_)
      try simp only [List.getElem_toArray, List.getElem_cons_zero, List.getElem_cons_succ, Act.put, List.setIfInBounds_toArray, List.set_cons_zero, List.set_cons_succ]
      refine tK 1 (h := ?_)
      try simp only [List.getElem_toArray, List.getElem_cons_zero, List.getElem_cons_succ, Act.put, List.setIfInBounds_toArray, List.set_cons_zero, List.set_cons_succ]
      refine tK 2 (h := ?_)
      try simp only [List.getElem_toArray, List.getElem_cons_zero, List.getElem_cons_succ, Act.put, List.setIfInBounds_toArray, List.set_cons_zero, List.set_cons_succ]
      refine tK 3 (h := ?_)
      try simp only [List.getElem_toArray, List.getElem_cons_zero, List.getElem_cons_succ, Act.put, List.setIfInBounds_toArray, List.set_cons_zero, List.set_cons_succ]
      refine tK 4 (h := ?_)
      try simp only [List.getElem_toArray, List.getElem_cons_zero, List.getElem_cons_succ, Act.put, List.setIfInBounds_toArray, List.set_cons_zero, List.set_cons_succ]
      refine tK 5 (h := ?_)
      try simp only [List.getElem_toArray, List.getElem_cons_zero, List.getElem_cons_succ, Act.put, List.setIfInBounds_toArray, List.set_cons_zero, List.set_cons_succ]
      refine tK 6 (h := ?_)
      try simp only [List.getElem_toArray, List.getElem_cons_zero, List.getElem_cons_succ, Act.put, List.setIfInBounds_toArray, List.set_cons_zero, List.set_cons_succ]
      refine tK 7 (h := ?_)
      try simp only [List.getElem_toArray, List.getElem_cons_zero, List.getElem_cons_succ, Act.put, List.setIfInBounds_toArray, List.set_cons_zero, List.set_cons_succ]
      refine tK 8 (h := ?_)
      try simp only [List.getElem_toArray, List.getElem_cons_zero, List.getElem_cons_succ, Act.put, List.setIfInBounds_toArray, List.set_cons_zero, List.set_cons_succ]
      refine tK 9 (h := ?_)
      try simp only [List.getElem_toArray, List.getElem_cons_zero, List.getElem_cons_succ, Act.put, List.setIfInBounds_toArray, List.set_cons_zero, List.set_cons_succ]
      refine tK 10 (h := ?_)
      try simp only [List.getElem_toArray, List.getElem_cons_zero, List.getElem_cons_succ, Act.put, List.setIfInBounds_toArray, List.set_cons_zero, List.set_cons_succ]
      refine wpAnyK_ready (rs := [11]) (by kernel_rfl) (by simp) ?_
      refine AllReadyK.cons rfl (fun K hK => ?_) AllReadyK.nil
      go_simp
      refine shutK_off hK (by decide) ?_
      clear hK K
      try simp only [List.getElem_toArray, List.getElem_cons_zero, List.getElem_cons_succ, Act.put, List.setIfInBounds_toArray, List.set_cons_zero, List.set_cons_succ]
      refine wpAnyK_done (by kernel_rfl) ?_ _
      refine NoPanic.normal ?_
      first | refine wp_world (fun w1 hw1 => ?_) | refine exitk_world (fun w1 hw1 => ?_)
      have hs : SipAt w b ⟨x3, x2, ad c d, d⟩ w1 := by rw [hw1]; first | exact HS.out.set (n := 0) rfl | exact HS.out.set (n := 1) rfl
      obtain ⟨x4, hx4⟩ : ∃ x, ad c d = x := ⟨_, rfl⟩
      rw [hx4] at hs
      have Hx4 := Lib.hid hx4; clear hx4
      clear hw1 HS c0 c1 c2 c3 f0 f1 f2 f3; have HS := Lib.hid hs; clear hs
      obtain ⟨⟨c0, c1, c2, c3⟩, f0, f1, f2, f3⟩ := HS.out.read
      dsimp only at c0 c1 c2 c3
      go_wp2_with fail
      refine wp_region_noPanic ?_
      refine wp_region_k (by kernel_rfl) (fun w' => w'.cell? ⟨b, 0, none⟩ = some (.int .u64 x3) ∧ w'.cell? ⟨b, 1, none⟩ = some (.int .u64 x2) ∧ w'.cell? ⟨b, 2, none⟩ = some (.int .u64 x4) ∧ w'.cell? ⟨b, 3, none⟩ = some (.int .u64 d) ∧ w'.frozen? ⟨b, 0, none⟩ = false ∧ w'.frozen? ⟨b, 1, none⟩ = false ∧ w'.frozen? ⟨b, 2, none⟩ = false ∧ w'.frozen? ⟨b, 3, none⟩ = false) 13 (⟨c0, c1, c2, c3, f0, f1, f2, f3⟩) (fun hHeld => ?_)
      refine tK 0 (h := ?_)
      try simp only [List.getElem_toArray, List.getElem_cons_zero, List.getElem_cons_succ, Act.put, List.setIfInBounds_toArray, List.set_cons_zero, List.set_cons_succ]
      refine tK 1 (h := ?_)
      try simp only [List.getElem_toArray, List.getElem_cons_zero, List.getElem_cons_succ, Act.put, List.setIfInBounds_toArray, List.set_cons_zero, List.set_cons_succ]
      refine tK 2 (h := ?_)
      try simp only [List.getElem_toArray, List.getElem_cons_zero, List.getElem_cons_succ, Act.put, List.setIfInBounds_toArray, List.set_cons_zero, List.set_cons_succ]
      refine tK 3 (h := ?_)
      try simp only [List.getElem_toArray, List.getElem_cons_zero, List.getElem_cons_succ, Act.put, List.setIfInBounds_toArray, List.set_cons_zero, List.set_cons_succ]
      refine tK 4 (h := ?_)
      try simp only [List.getElem_toArray, List.getElem_cons_zero, List.getElem_cons_succ, Act.put, List.setIfInBounds_toArray, List.set_cons_zero, List.set_cons_succ]
      refine tK 6 (h := ?_)
      try simp only [List.getElem_toArray, List.getElem_cons_zero, List.getElem_cons_succ, Act.put, List.setIfInBounds_toArray, List.set_cons_zero, List.set_cons_succ]
      refine tK 7 (h := ?_)
      try simp only [List.getElem_toArray, List.getElem_cons_zero, List.getElem_cons_succ, Act.put, List.setIfInBounds_toArray, List.set_cons_zero, List.set_cons_succ]
      refine tK 8 (h := ?_)
      try simp only [List.getElem_toArray, List.getElem_cons_zero, List.getElem_cons_succ, Act.put, List.setIfInBounds_toArray, List.set_cons_zero, List.set_cons_succ]
      refine tK 9 (h := ?_)
      try simp only [List.getElem_toArray, List.getElem_cons_zero, List.getElem_cons_succ, Act.put, List.setIfInBounds_toArray, List.set_cons_zero, List.set_cons_succ]
      refine wpAnyK_ready (rs := [5]) (by kernel_rfl) (by simp) ?_
      refine AllReadyK.cons rfl (fun K hK => ?_) AllReadyK.nil
      go_simp
      refine (rot16 _ _).mono ?_; rintro e wq ⟨rfl, rfl⟩
      refine shutK hK (⟨c0, c1, c2, c3, f0, f1, f2, f3⟩) (fun hHeld => ?_)
      clear hK K
      try simp only [List.getElem_toArray, List.getElem_cons_zero, List.getElem_cons_succ, Act.put, List.setIfInBounds_toArray, List.set_cons_zero, List.set_cons_succ]
      refine tK 10 (h := ?_)
      try simp only [List.getElem_toArray, List.getElem_cons_zero, List.getElem_cons_succ, Act.put, List.setIfInBounds_toArray, List.set_cons_zero, List.set_cons_succ]
      refine tK 11 (h := ?_)
      try simp only [List.getElem_toArray, List.getElem_cons_zero, List.getElem_cons_succ, Act.put, List.setIfInBounds_toArray, List.set_cons_zero, List.set_cons_succ]
      refine tK 12 (h := ?_)
      try simp only [List.getElem_toArray, List.getElem_cons_zero, List.getElem_cons_succ, Act.put, List.setIfInBounds_toArray, List.set_cons_zero, List.set_cons_succ]
      refine wpAnyK_ready (rs := [13]) (by kernel_rfl) (by simp) ?_
      refine AllReadyK.cons rfl (fun K hK => ?_) AllReadyK.nil
      go_simp
      refine shutK_off hK (by decide) ?_
      clear hK K
      try simp only [List.getElem_toArray, List.getElem_cons_zero, List.getElem_cons_succ, Act.put, List.setIfInBounds_toArray, List.set_cons_zero, List.set_cons_succ]
      refine wpAnyK_done (by kernel_rfl) ?_ _
      refine NoPanic.normal ?_
      first | refine wp_world (fun w1 hw1 => ?_) | refine exitk_world (fun w1 hw1 => ?_)
      have hs : SipAt w b ⟨x3, x2, x4, xr (rotP 65536 281474976710656 d) x4⟩ w1 := by rw [hw1]; first | exact HS.out.set (n := 0) rfl | exact HS.out.set (n := 1) rfl
      obtain ⟨x5, hx5⟩ : ∃ x, xr (rotP 65536 281474976710656 d) x4 = x := ⟨_, rfl⟩
      rw [hx5] at hs
      have Hx5 := Lib.hid hx5; clear hx5
      clear hw1 HS c0 c1 c2 c3 f0 f1 f2 f3; have HS := Lib.hid hs; clear hs
      obtain ⟨⟨c0, c1, c2, c3⟩, f0, f1, f2, f3⟩ := HS.out.read
      dsimp only at c0 c1 c2 c3
      go_wp2_with fail
      refine wp_region_noPanic ?_
      refine wp_region_k (by kernel_rfl) (fun w' => w'.cell? ⟨b, 0, none⟩ = some (.int .u64 x3) ∧ w'.cell? ⟨b, 1, none⟩ = some (.int .u64 x2) ∧ w'.cell? ⟨b, 2, none⟩ = some (.int .u64 x4) ∧ w'.cell? ⟨b, 3, none⟩ = some (.int .u64 x5) ∧ w'.frozen? ⟨b, 0, none⟩ = false ∧ w'.frozen? ⟨b, 1, none⟩ = false ∧ w'.frozen? ⟨b, 2, none⟩ = false ∧ w'.frozen? ⟨b, 3, none⟩ = false) 11 (⟨c0, c1, c2, c3, f0, f1, f2, f3⟩) (fun hHeld => ?_)
      refine tK 0 (h := ?_)
      try simp only [List.getElem_toArray, List.getElem_cons_zero, List.getElem_cons_succ, Act.put, List.setIfInBounds_toArray, List.set_cons_zero, List.set_cons_succ]
      refine tK 1 (h := ?_)
      try simp only [List.getElem_toArray, List.getElem_cons_zero, List.getElem_cons_succ, Act.put, List.setIfInBounds_toArray, List.set_cons_zero, List.set_cons_succ]
      refine tK 2 (h := ?_)
      try simp only [List.getElem_toArray, List.getElem_cons_zero, List.getElem_cons_succ, Act.put, List.setIfInBounds_toArray, List.set_cons_zero, List.set_cons_succ]
      refine tK 3 (h := ?_)
      try simp only [List.getElem_toArray, List.getElem_cons_zero, List.getElem_cons_succ, Act.put, List.setIfInBounds_toArray, List.set_cons_zero, List.set_cons_succ]
      refine tK 4 (h := ?_)
      try simp only [List.getElem_toArray, List.getElem_cons_zero, List.getElem_cons_succ, Act.put, List.setIfInBounds_toArray, List.set_cons_zero, List.set_cons_succ]
      refine tK 5 (h := ?_)
      try simp only [List.getElem_toArray, List.getElem_cons_zero, List.getElem_cons_succ, Act.put, List.setIfInBounds_toArray, List.set_cons_zero, List.set_cons_succ]
      refine tK 6 (h := ?_)
      try simp only [List.getElem_toArray, List.getElem_cons_zero, List.getElem_cons_succ, Act.put, List.setIfInBounds_toArray, List.set_cons_zero, List.set_cons_succ]
      refine tK 7 (h := ?_)
      try simp only [List.getElem_toArray, List.getElem_cons_zero, List.getElem_cons_succ, Act.put, List.setIfInBounds_toArray, List.set_cons_zero, List.set_cons_succ]
      refine tK 8 (h := ?_)
      try simp only [List.getElem_toArray, List.getElem_cons_zero, List.getElem_cons_succ, Act.put, List.setIfInBounds_toArray, List.set_cons_zero, List.set_cons_succ]
      refine tK 9 (h := ?_)
      try simp only [List.getElem_toArray, List.getElem_cons_zero, List.getElem_cons_succ, Act.put, List.setIfInBounds_toArray, List.set_cons_zero, List.set_cons_succ]
      refine tK 10 (h := ?_)
      try simp only [List.getElem_toArray, List.getElem_cons_zero, List.getElem_cons_succ, Act.put, List.setIfInBounds_toArray, List.set_cons_zero, List.set_cons_succ]
      refine wpAnyK_ready (rs := [11]) (by kernel_rfl) (by simp) ?_
      refine AllReadyK.cons rfl (fun K hK => ?_) AllReadyK.nil
      go_simp
      refine shutK_off hK (by decide) ?_
      clear hK K
      try simp only [List.getElem_toArray, List.getElem_cons_zero, List.getElem_cons_succ, Act.put, List.setIfInBounds_toArray, List.set_cons_zero, List.set_cons_succ]
      refine wpAnyK_done (by kernel_rfl) ?_ _
      refine NoPanic.normal ?_
      first | refine wp_world (fun w1 hw1 => ?_) | refine exitk_world (fun w1 hw1 => ?_)
      have hs : SipAt w b ⟨ad x3 x5, x2, x4, x5⟩ w1 := by rw [hw1]; first | exact HS.out.set (n := 0) rfl | exact HS.out.set (n := 1) rfl
      obtain ⟨x6, hx6⟩ : ∃ x, ad x3 x5 = x := ⟨_, rfl⟩
      rw [hx6] at hs
      have Hx6 := Lib.hid hx6; clear hx6
      clear hw1 HS c0 c1 c2 c3 f0 f1 f2 f3; have HS := Lib.hid hs; clear hs
      obtain ⟨⟨c0, c1, c2, c3⟩, f0, f1, f2, f3⟩ := HS.out.read
      dsimp only at c0 c1 c2 c3
      go_wp2_with fail
      refine wp_region_noPanic ?_
      refine wp_region_k (by kernel_rfl) (fun w' => w'.cell? ⟨b, 0, none⟩ = some (.int .u64 x6) ∧ w'.cell? ⟨b, 1, none⟩ = some (.int .u64 x2) ∧ w'.cell? ⟨b, 2, none⟩ = some (.int .u64 x4) ∧ w'.cell? ⟨b, 3, none⟩ = some (.int .u64 x5) ∧ w'.frozen? ⟨b, 0, none⟩ = false ∧ w'.frozen? ⟨b, 1, none⟩ = false ∧ w'.frozen? ⟨b, 2, none⟩ = false ∧ w'.frozen? ⟨b, 3, none⟩ = false) 13 (⟨c0, c1, c2, c3, f0, f1, f2, f3⟩) (fun hHeld => ?_)
      refine tK 0 (h := ?_)
      try simp only [List.getElem_toArray, List.getElem_cons_zero, List.getElem_cons_succ, Act.put, List.setIfInBounds_toArray, List.set_cons_zero, List.set_cons_succ]
      refine tK 1 (h := ?_)
      try simp only [List.getElem_toArray, List.getElem_cons_zero, List.getElem_cons_succ, Act.put, List.setIfInBounds_toArray, List.set_cons_zero, List.set_cons_succ]
      refine tK 2 (h := ?_)
      try simp only [List.getElem_toArray, List.getElem_cons_zero, List.getElem_cons_succ, Act.put, List.setIfInBounds_toArray, List.set_cons_zero, List.set_cons_succ]
      refine tK 3 (h := ?_)
      try simp only [List.getElem_toArray, List.getElem_cons_zero, List.getElem_cons_succ, Act.put, List.setIfInBounds_toArray, List.set_cons_zero, List.set_cons_succ]
      refine tK 4 (h := ?_)
      try simp only [List.getElem_toArray, List.getElem_cons_zero, List.getElem_cons_succ, Act.put, List.setIfInBounds_toArray, List.set_cons_zero, List.set_cons_succ]
      refine tK 6 (h := ?_)
      try simp only [List.getElem_toArray, List.getElem_cons_zero, List.getElem_cons_succ, Act.put, List.setIfInBounds_toArray, List.set_cons_zero, List.set_cons_succ]
      refine tK 7 (h := ?_)
      try simp only [List.getElem_toArray, List.getElem_cons_zero, List.getElem_cons_succ, Act.put, List.setIfInBounds_toArray, List.set_cons_zero, List.set_cons_succ]
      refine tK 8 (h := ?_)
      try simp only [List.getElem_toArray, List.getElem_cons_zero, List.getElem_cons_succ, Act.put, List.setIfInBounds_toArray, List.set_cons_zero, List.set_cons_succ]
      refine tK 9 (h := ?_)
      try simp only [List.getElem_toArray, List.getElem_cons_zero, List.getElem_cons_succ, Act.put, List.setIfInBounds_toArray, List.set_cons_zero, List.set_cons_succ]
      refine wpAnyK_ready (rs := [5]) (by kernel_rfl) (by simp) ?_
      refine AllReadyK.cons rfl (fun K hK => ?_) AllReadyK.nil
      go_simp
      refine (rot21 _ _).mono ?_; rintro e wq ⟨rfl, rfl⟩
      refine shutK hK (⟨c0, c1, c2, c3, f0, f1, f2, f3⟩) (fun hHeld => ?_)
      clear hK K
      try simp only [List.getElem_toArray, List.getElem_cons_zero, List.getElem_cons_succ, Act.put, List.setIfInBounds_toArray, List.set_cons_zero, List.set_cons_succ]
      refine tK 10 (h := ?_)
      try simp only [List.getElem_toArray, List.getElem_cons_zero, List.getElem_cons_succ, Act.put, List.setIfInBounds_toArray, List.set_cons_zero, List.set_cons_succ]
      refine tK 11 (h := ?_)
      try simp only [List.getElem_toArray, List.getElem_cons_zero, List.getElem_cons_succ, Act.put, List.setIfInBounds_toArray, List.set_cons_zero, List.set_cons_succ]
      refine tK 12 (h := ?_)
      try simp only [List.getElem_toArray, List.getElem_cons_zero, List.getElem_cons_succ, Act.put, List.setIfInBounds_toArray, List.set_cons_zero, List.set_cons_succ]
      refine wpAnyK_ready (rs := [13]) (by kernel_rfl) (by simp) ?_
      refine AllReadyK.cons rfl (fun K hK => ?_) AllReadyK.nil
      go_simp
      refine shutK_off hK (by decide) ?_
      clear hK K
      try simp only [List.getElem_toArray, List.getElem_cons_zero, List.getElem_cons_succ, Act.put, List.setIfInBounds_toArray, List.set_cons_zero, List.set_cons_succ]
      refine wpAnyK_done (by kernel_rfl) ?_ _
      refine NoPanic.normal ?_
      first | refine wp_world (fun w1 hw1 => ?_) | refine exitk_world (fun w1 hw1 => ?_)
      have hs : SipAt w b ⟨x6, x2, x4, xr (rotP 2097152 8796093022208 x5) x6⟩ w1 := by rw [hw1]; first | exact HS.out.set (n := 0) rfl | exact HS.out.set (n := 1) rfl
      obtain ⟨x7, hx7⟩ : ∃ x, xr (rotP 2097152 8796093022208 x5) x6 = x := ⟨_, rfl⟩
      rw [hx7] at hs
      have Hx7 := Lib.hid hx7; clear hx7
      clear hw1 HS c0 c1 c2 c3 f0 f1 f2 f3; have HS := Lib.hid hs; clear hs
      obtain ⟨⟨c0, c1, c2, c3⟩, f0, f1, f2, f3⟩ := HS.out.read
      dsimp only at c0 c1 c2 c3
      go_wp2_with fail
      refine wp_region_noPanic ?_
      refine wp_region_k (by kernel_rfl) (fun w' => w'.cell? ⟨b, 0, none⟩ = some (.int .u64 x6) ∧ w'.cell? ⟨b, 1, none⟩ = some (.int .u64 x2) ∧ w'.cell? ⟨b, 2, none⟩ = some (.int .u64 x4) ∧ w'.cell? ⟨b, 3, none⟩ = some (.int .u64 x7) ∧ w'.frozen? ⟨b, 0, none⟩ = false ∧ w'.frozen? ⟨b, 1, none⟩ = false ∧ w'.frozen? ⟨b, 2, none⟩ = false ∧ w'.frozen? ⟨b, 3, none⟩ = false) 11 (⟨c0, c1, c2, c3, f0, f1, f2, f3⟩) (fun hHeld => ?_)
      refine tK 0 (h := ?_)
      try simp only [List.getElem_toArray, List.getElem_cons_zero, List.getElem_cons_succ, Act.put, List.setIfInBounds_toArray, List.set_cons_zero, List.set_cons_succ]
      refine tK 1 (h := ?_)
      try simp only [List.getElem_toArray, List.getElem_cons_zero, List.getElem_cons_succ, Act.put, List.setIfInBounds_toArray, List.set_cons_zero, List.set_cons_succ]
      refine tK 2 (h := ?_)
      try simp only [List.getElem_toArray, List.getElem_cons_zero, List.getElem_cons_succ, Act.put, List.setIfInBounds_toArray, List.set_cons_zero, List.set_cons_succ]
      refine tK 3 (h := ?_)
      try simp only [List.getElem_toArray, List.getElem_cons_zero, List.getElem_cons_succ, Act.put, List.setIfInBounds_toArray, List.set_cons_zero, List.set_cons_succ]
      refine tK 4 (h := ?_)
      try simp only [List.getElem_toArray, List.getElem_cons_zero, List.getElem_cons_succ, Act.put, List.setIfInBounds_toArray, List.set_cons_zero, List.set_cons_succ]
      refine tK 5 (h := ?_)
      try simp only [List.getElem_toArray, List.getElem_cons_zero, List.getElem_cons_succ, Act.put, List.setIfInBounds_toArray, List.set_cons_zero, List.set_cons_succ]
      refine tK 6 (h := ?_)
      try simp only [List.getElem_toArray, List.getElem_cons_zero, List.getElem_cons_succ, Act.put, List.setIfInBounds_toArray, List.set_cons_zero, List.set_cons_succ]
      refine tK 7 (h := ?_)
      try simp only [List.getElem_toArray, List.getElem_cons_zero, List.getElem_cons_succ, Act.put, List.setIfInBounds_toArray, List.set_cons_zero, List.set_cons_succ]
      refine tK 8 (h := ?_)
      try simp only [List.getElem_toArray, List.getElem_cons_zero, List.getElem_cons_succ, Act.put, List.setIfInBounds_toArray, List.set_cons_zero, List.set_cons_succ]
      refine tK 9 (h := ?_)
      try simp only [List.getElem_toArray, List.getElem_cons_zero, List.getElem_cons_succ, Act.put, List.setIfInBounds_toArray, List.set_cons_zero, List.set_cons_succ]
      refine tK 10 (h := ?_)
      try simp only [List.getElem_toArray, List.getElem_cons_zero, List.getElem_cons_succ, Act.put, List.setIfInBounds_toArray, List.set_cons_zero, List.set_cons_succ]
      refine wpAnyK_ready (rs := [11]) (by kernel_rfl) (by simp) ?_
      refine AllReadyK.cons rfl (fun K hK => ?_) AllReadyK.nil
      go_simp
      refine shutK_off hK (by decide) ?_
      clear hK K
      try simp only [List.getElem_toArray, List.getElem_cons_zero, List.getElem_cons_succ, Act.put, List.setIfInBounds_toArray, List.set_cons_zero, List.set_cons_succ]
      refine wpAnyK_done (by kernel_rfl) ?_ _
      refine NoPanic.normal ?_
      first | refine wp_world (fun w1 hw1 => ?_) | refine exitk_world (fun w1 hw1 => ?_)
      have hs : SipAt w b ⟨x6, x2, ad x4 x2, x7⟩ w1 := by rw [hw1]; first | exact HS.out.set (n := 0) rfl | exact HS.out.set (n := 1) rfl
      obtain ⟨x8, hx8⟩ : ∃ x, ad x4 x2 = x := ⟨_, rfl⟩
      rw [hx8] at hs
      have Hx8 := Lib.hid hx8; clear hx8
      clear hw1 HS c0 c1 c2 c3 f0 f1 f2 f3; have HS := Lib.hid hs; clear hs
      obtain ⟨⟨c0, c1, c2, c3⟩, f0, f1, f2, f3⟩ := HS.out.read
      dsimp only at c0 c1 c2 c3
      go_wp2_with fail
      refine wp_region_noPanic ?_
      refine wp_region_k (by kernel_rfl) (fun w' => w'.cell? ⟨b, 0, none⟩ = some (.int .u64 x6) ∧ w'.cell? ⟨b, 1, none⟩ = some (.int .u64 x2) ∧ w'.cell? ⟨b, 2, none⟩ = some (.int .u64 x8) ∧ w'.cell? ⟨b, 3, none⟩ = some (.int .u64 x7) ∧ w'.frozen? ⟨b, 0, none⟩ = false ∧ w'.frozen? ⟨b, 1, none⟩ = false ∧ w'.frozen? ⟨b, 2, none⟩ = false ∧ w'.frozen? ⟨b, 3, none⟩ = false) 13 (⟨c0, c1, c2, c3, f0, f1, f2, f3⟩) (fun hHeld => ?_)
      refine tK 0 (h := ?_)
      try simp only [List.getElem_toArray, List.getElem_cons_zero, List.getElem_cons_succ, Act.put, List.setIfInBounds_toArray, List.set_cons_zero, List.set_cons_succ]
      refine tK 1 (h := ?_)
      try simp only [List.getElem_toArray, List.getElem_cons_zero, List.getElem_cons_succ, Act.put, List.setIfInBounds_toArray, List.set_cons_zero, List.set_cons_succ]
      refine tK 2 (h := ?_)
      try simp only [List.getElem_toArray, List.getElem_cons_zero, List.getElem_cons_succ, Act.put, List.setIfInBounds_toArray, List.set_cons_zero, List.set_cons_succ]
      refine tK 3 (h := ?_)
      try simp only [List.getElem_toArray, List.getElem_cons_zero, List.getElem_cons_succ, Act.put, List.setIfInBounds_toArray, List.set_cons_zero, List.set_cons_succ]
      refine tK 4 (h := ?_)
      try simp only [List.getElem_toArray, List.getElem_cons_zero, List.getElem_cons_succ, Act.put, List.setIfInBounds_toArray, List.set_cons_zero, List.set_cons_succ]
      refine tK 6 (h := ?_)
      try simp only [List.getElem_toArray, List.getElem_cons_zero, List.getElem_cons_succ, Act.put, List.setIfInBounds_toArray, List.set_cons_zero, List.set_cons_succ]
      refine tK 7 (h := ?_)
      try simp only [List.getElem_toArray, List.getElem_cons_zero, List.getElem_cons_succ, Act.put, List.setIfInBounds_toArray, List.set_cons_zero, List.set_cons_succ]
      refine tK 8 (h := ?_)
      try simp only [List.getElem_toArray, List.getElem_cons_zero, List.getElem_cons_succ, Act.put, List.setIfInBounds_toArray, List.set_cons_zero, List.set_cons_succ]
      refine tK 9 (h := ?_)
      try simp only [List.getElem_toArray, List.getElem_cons_zero, List.getElem_cons_succ, Act.put, List.setIfInBounds_toArray, List.set_cons_zero, List.set_cons_succ]
      refine wpAnyK_ready (rs := [5]) (by kernel_rfl) (by simp) ?_
      refine AllReadyK.cons rfl (fun K hK => ?_) AllReadyK.nil
      go_simp
      refine (rot17 _ _).mono ?_; rintro e wq ⟨rfl, rfl⟩
      refine shutK hK (⟨c0, c1, c2, c3, f0, f1, f2, f3⟩) (fun hHeld => ?_)
      clear hK K
      try simp only [List.getElem_toArray, List.getElem_cons_zero, List.getElem_cons_succ, Act.put, List.setIfInBounds_toArray, List.set_cons_zero, List.set_cons_succ]
      refine tK 10 (h := ?_)
      try simp only [List.getElem_toArray, List.getElem_cons_zero, List.getElem_cons_succ, Act.put, List.setIfInBounds_toArray, List.set_cons_zero, List.set_cons_succ]
      refine tK 11 (h := ?_)
      try simp only [List.getElem_toArray, List.getElem_cons_zero, List.getElem_cons_succ, Act.put, List.setIfInBounds_toArray, List.set_cons_zero, List.set_cons_succ]
      refine tK 12 (h := ?_)
      try simp only [List.getElem_toArray, List.getElem_cons_zero, List.getElem_cons_succ, Act.put, List.setIfInBounds_toArray, List.set_cons_zero, List.set_cons_succ]
      refine wpAnyK_ready (rs := [13]) (by kernel_rfl) (by simp) ?_
      refine AllReadyK.cons rfl (fun K hK => ?_) AllReadyK.nil
      go_simp
      refine shutK_off hK (by decide) ?_
      clear hK K
      try simp only [List.getElem_toArray, List.getElem_cons_zero, List.getElem_cons_succ, Act.put, List.setIfInBounds_toArray, List.set_cons_zero, List.set_cons_succ]
      refine wpAnyK_done (by kernel_rfl) ?_ _
      refine NoPanic.normal ?_
      first | refine wp_world (fun w1 hw1 => ?_) | refine exitk_world (fun w1 hw1 => ?_)
      have hs : SipAt w b ⟨x6, xr (rotP 131072 140737488355328 x2) x8, x8, x7⟩ w1 := by rw [hw1]; first | exact HS.out.set (n := 0) rfl | exact HS.out.set (n := 1) rfl
      obtain ⟨x9, hx9⟩ : ∃ x, xr (rotP 131072 140737488355328 x2) x8 = x := ⟨_, rfl⟩
      rw [hx9] at hs
      have Hx9 := Lib.hid hx9; clear hx9
      clear hw1 HS c0 c1 c2 c3 f0 f1 f2 f3; have HS := Lib.hid hs; clear hs
      obtain ⟨⟨c0, c1, c2, c3⟩, f0, f1, f2, f3⟩ := HS.out.read
      dsimp only at c0 c1 c2 c3
      go_wp2_with fail
      refine (rot32 _ _).mono ?_; rintro e wq ⟨rfl, rfl⟩
      go_wp2_with fail
      go_roundw
      case rel =>
        refine ⟨k + 1, by go_num, by omega, ?_⟩
        have hs : SipAt w b ⟨x6, x9, rotP 4294967296 4294967296 x8, x7⟩ (w1.setCell ⟨b, 2, none⟩ (.int .u64 (rotP 4294967296 4294967296 x8))) := HS.out.set (n := 0) rfl
        have e : (⟨x6, x9, rotP 4294967296 4294967296 x8, x7⟩ : Sip) = rndP ⟨a, b0, c, d⟩ := by rw [← Hx9.out, ← Hx8.out, ← Hx7.out, ← Hx6.out, ← Hx5.out, ← Hx4.out, ← Hx3.out, ← Hx2.out, ← Hx1.out]; rfl
        rw [rndI, hs0, ← e]; exact hs
      case measure => simp [intOf]; omega
    · have hq : decide ((k : Int) < n) = false := by simp; omega
      obtain rfl : k = n := by omega
      go_wp2_with fail
      go_end0
      exact ⟨rfl, HS.out⟩
set_option maxHeartbeats 1000000 in
theorem sword_any (b : Nat) (s : Sip) (m : Int) (w : World) (hb : w.heap[b]? = some (.cells (sipC s) 161 (0, 0))) :
    Calls Tryz.prog 141 #[.pointer (some ⟨b, 0, none⟩), .int .u64 m] w fun e w' => e = .returned (.tuple #[]) ∧ SipAt w b (wordP s m) w' := by
  have hs : SipAt w b s w := ⟨hb, grown_refl _ _⟩
  have HS := Lib.hid hs; clear hs hb
  obtain ⟨⟨c0, c1, c2, c3⟩, f0, f1, f2, f3⟩ := HS.out.read
  go_enter Tryz.func141, Tryz.ntmps141
  go_wp2_with fail
  have hs1 : SipAt w b ⟨s.a, s.b, s.c, xr s.d m⟩ (w.setCell ⟨b, 3, none⟩ (.int .u64 (xr s.d m))) := HS.out.set (n := 0) rfl
  refine (rounds_any b ⟨s.a, s.b, s.c, xr s.d m⟩ 2 _ hs1.1 (by omega)).mono ?_
  rintro e w1 ⟨rfl, hs2⟩
  have hs3 : SipAt w b (rndP (rndP ⟨s.a, s.b, s.c, xr s.d m⟩)) w1 := ⟨hs2.1, grown_trans hs1.2 hs2.2⟩
  obtain ⟨t, ht⟩ : ∃ t, rndP (rndP ⟨s.a, s.b, s.c, xr s.d m⟩) = t := ⟨_, rfl⟩
  rw [ht] at hs3
  have hw : wordP s m = ⟨xr t.a m, t.b, t.c, t.d⟩ := by rw [← ht]; rfl
  have HW := Lib.hid hw
  clear hs1 hs2 ht hw HS c0 c1 c2 c3 f0 f1 f2 f3
  have HS := Lib.hid hs3; clear hs3
  obtain ⟨⟨c0, c1, c2, c3⟩, f0, f1, f2, f3⟩ := HS.out.read
  go_wp2_with fail
  go_end0
  exact ⟨rfl, by rw [HW.out]; exact HS.out.set (n := 0) rfl⟩
/-- a slice of bytes -/
abbrev encB (c : UInt8) : List Value := [byteV c]
set_option maxHeartbeats 1000000 in
theorem snumber_any (S : Nat → Prop) (v : Value) (l : List UInt8) (w : World) (h : Vec w S 1 encB v l) (hl : l.length ≤ 8) :
    Calls Tryz.prog 142 #[v] w fun e w' => e = .returned (.int .u64 (numP 0 0 l)) ∧ w = w' := by
  obtain ⟨a, cap, rfl⟩ := h.slice
  have HV := Lib.hid h; clear h
  go_enter Tryz.func142, Tryz.ntmps142
  go_wp2_with fail
  go_loopw [3, 4, 5, 8] (fun m _ _ i wr => wr = w ∧ ∃ (k : Nat) (mm : Int), i = .int .i64 k ∧ k ≤ l.length ∧ m = .int .u64 mm ∧ Hid (numP k mm (l.drop k) = numP 0 0 l)) (fun _ _ _ i _ => l.length - (intOf i).toNat)
  case atStart => exact ⟨rfl, 0, 0, rfl, by omega, rfl, Lib.hid rfl⟩
  case round =>
    obtain ⟨rfl, k, mm, rfl, hk, rfl, HT⟩ := hrel
    by_cases hlt : k < l.length
    · have hq : decide ((k : Int) < l.length) = true := by simp; omega
      obtain ⟨b, off, rfl, hb, hc⟩ := HV.out.get k hlt
      have c0 := hc 0 _ rfl
      rw [Nat.mul_one, Nat.add_zero] at c0
      unfold byteV at c0
      go_wp2_with fail
      go_roundw
      case rel => exact ⟨trivial, k + 1, _, by go_num, by omega, rfl, Lib.hid (by rw [← HT.out, List.drop_eq_getElem_cons hlt]; rfl)⟩
      case measure => simp [intOf]; omega
    · have hq : decide ((k : Int) < l.length) = false := by simp; omega
      have hd : l.drop k = [] := List.drop_eq_nil_of_le (by omega)
      rw [hd] at HT
      obtain rfl : mm = numP 0 0 l := HT.out
      clear HT hd
      go_wp2_with fail
      go_ret
      exact ⟨rfl, rfl⟩
end
section
open Go
theorem run_load_zero {P : Program} (a : Addr) (w : World) : Sem.run P (loadCells a 0) w = .ok #[] w := rfl
theorem run_append_zero {P : Program} {w : World} (base : Nat) (t ty e : TypeId) (i : TypeInfo) (size : Nat) (ht : P.underlying t = some (.slice e)) (hi : P.info? e = some i)
    (v : Value) (n : Nat) (xs : List Value) (hown : w.ownsRow base e size v n xs) (ad : Option Addr) (c : Nat) :
    (Builtin.append_ #[t, t] ty #[v, .slice ad 0 c]).run P w = .ok v w := by
  have lz := fun a => run_load_zero (P := P) a w
  rcases hown.2 with ⟨rfl, rfl⟩ | ⟨g, cap, cur, rfl, _, _, hnc, _⟩
  · cases ad <;> simp [Builtin.append_, run_underlying ht, sizeOf, typeInfo, hi, Builtin.lenOf, Builtin.firstCells, lz, Sem.run_pure, Result.andThen]
  · cases ad <;> simp [Builtin.append_, run_underlying ht, sizeOf, typeInfo, hi, Builtin.lenOf, Builtin.firstCells, hnc, storeCells, lz, Sem.run_pure, Result.andThen]
theorem wp_append_zero {P : Program} {w : World} {o : Oper} {a : Act} {K : Act → World → Prop} {Q : Exit → Act → World → Prop} (s x : Operand) (t : TypeId)
    (ho : o.op = .call { callee := .builtin .append, args := #[s, x], argTypes := #[t, t] })
    (base : Nat) (e : TypeId) (i : TypeInfo) (size : Nat) (ht : P.underlying t = some (.slice e)) (hi : P.info? e = some i)
    (v : Value) (n : Nat) (xs : List Value) (hs : a.eval s = v) (hown : w.ownsRow base e size v n xs) (ad : Option Addr) (c : Nat) (hx : a.eval x = .slice ad 0 c)
    (h : K (a.put o.dst v) w) : Oper.wp P o a w K Q := by
  have hrun := run_append_zero (P := P) (w := w) base t o.type e i size ht hi v n xs hown ad c
  unfold Oper.wp execOp
  simp only [ho, resolve, invoke, builtin, Sem.run_bind, Sem.run_pure, Result.andThen_ok, List.map_toArray, List.map_cons, List.map_nil, hs, hx, hrun]
  exact h
/-- a slice's elements can be read: m of them, of size cells each -/
def Reads (w : World) (size : Nat) (u : Value) (m : Nat) (news : List Value) : Prop :=
  ∃ ad c, u = .slice ad m c ∧ news.length = m * size ∧ (0 < m → ∃ A, ad = some A ∧ ∀ j v, news[j]? = some v → w.cell? (A.add j) = some v)
/-- append of whatever slice -/
theorem wp_append_reads {P : Program} {w : World} {o : Oper} {a : Act} {K : Act → World → Prop} {Q : Exit → Act → World → Prop} (s x : Operand) (t : TypeId)
    (ho : o.op = .call { callee := .builtin .append, args := #[s, x], argTypes := #[t, t] })
    (base : Nat) (e : TypeId) (z : Value) (size bytes : Nat) (ht : P.underlying t = some (.slice e)) (hinfo : (P.info? e).map (fun i => (i.zero, i.size, i.bytes)) = some (some z, size, bytes))
    (hzs : z.cells.size = size) (hsz : 0 < size)
    (v : Value) (n : Nat) (xs : List Value) (hs : a.eval s = v) (hown : w.ownsRow base e size v n xs)
    (u : Value) (m : Nat) (news : List Value) (hx : a.eval x = u) (hr : Reads w size u m news) (h1 : ∀ u ∈ news, u.oneCell' = true)
    (h63 : n + m ≤ maxLen) (hbytes : (n + m) * bytes ≤ 140737488355328) (hbase : base ≤ w.heap.size)
    (h : ∀ v' w', w'.ownsRow base e size v' (n + m) (xs ++ news) → w.grownBy w' v.ownBlock → (v'.ownBlock = none ∨ v.ownBlock = v'.ownBlock ∨ v'.ownBlock = some w.heap.size) → K (a.put o.dst v') w') : Oper.wp P o a w K Q := by
  obtain ⟨ad, c, rfl, hl, hc⟩ := hr
  obtain ⟨i, hi, hz, h2, h3⟩ := info_parts hinfo
  by_cases hm : m = 0
  · subst hm
    have hn : news = [] := List.length_eq_zero_iff.1 (by omega)
    subst hn
    refine wp_append_zero s x t ho base e i size ht hi v n xs hs hown ad c hx (h v w (by simpa using hown) ⟨rfl, rfl, rfl, Nat.le_refl _, fun _ _ _ => rfl⟩ (.inr (.inl rfl)))
  · obtain ⟨A, rfl, hcell⟩ := hc (by omega)
    refine wp_append_lies w s x t ho base e i z size bytes ht hi hz h2 h3 hzs hsz v n xs hs hown A m c news hx hl hcell h1 (by omega) h63 hbytes hbase _ rfl fun g cap w' ho' hg hat hlt => ?_
    rcases hat with h4 | h4
    · exact h _ w' ho' hg (.inr (.inl h4))
    · exact h _ w' ho' hg (.inr (.inr (by rw [h4]; rfl)))
end
section
open Go.RowKit
variable {α : Type}
/-- v is a row of elements of type e, which lies in blocks made since w0; what lay in w0 is as it was -/
def OwnV (e : TypeId) (size : Nat) (enc : α → List Value) (w0 : World) (v : Value) (L : List α) (w : World) : Prop :=
  w.ownsRow w0.heap.size e size v L.length (L.flatMap enc) ∧ Below w0.heap.size w0 w
theorem own_below' {w w' : World} {B e size n : Nat} {v : Value} {xs : List Value} (h : w.ownsRow B e size v n xs) (hb : Below w.heap.size w w') : w'.ownsRow B e size v n xs := by
  refine ⟨h.1, ?_⟩
  rcases h.2 with h0 | ⟨g, cap, cur, hv, hg, hh, rest⟩
  · exact .inl h0
  · exact .inr ⟨g, cap, cur, hv, hg, (hb.block g (lt_of_blk hh)).trans hh, rest⟩
theorem OwnV.below {e size : Nat} {enc : α → List Value} {w0 w w' : World} {v : Value} {L : List α} (h : OwnV e size enc w0 v L w) (hb : Below w.heap.size w w') : OwnV e size enc w0 v L w' :=
  ⟨own_below' h.1 hb, h.2.trans (hb.mono h.2.size)⟩
theorem OwnV.start (e size : Nat) (enc : α → List Value) (w0 : World) : OwnV e size enc w0 (.slice none 0 0) [] w0 := ⟨⟨by simp, .inl ⟨rfl, rfl⟩⟩, Below.refl _ _⟩
theorem OwnV.nil {e size : Nat} {enc : α → List Value} {w0 w : World} (hb : Below w0.heap.size w0 w) : OwnV e size enc w0 (.slice none 0 0) [] w := ⟨⟨by simp, .inl ⟨rfl, rfl⟩⟩, hb⟩
theorem OwnV.vec {e size : Nat} {enc : α → List Value} (hk : ∀ x, (enc x).length = size) {w0 w : World} {v : Value} {L : List α} (h : OwnV e size enc w0 v L w) : Vec w (fun b => w0.heap.size ≤ b) size enc v L :=
  Vec.owns hk h.1 fun b hb _ => hb
theorem OwnV.form {e size : Nat} {enc : α → List Value} {w0 w : World} {v : Value} {L : List α} (h : OwnV e size enc w0 v L w) : (v = .slice none 0 0 ∧ L = []) ∨ ∃ g cap, v = .slice (some ⟨g, 0, none⟩) L.length cap ∧ L.length ≤ cap ∧ cap ≤ maxLen ∧ g < w.heap.size := by
  rcases h.1.2 with ⟨rfl, h0⟩ | ⟨g, cap, cur, rfl, _, hh, h1, h2, _⟩
  · exact .inl ⟨rfl, List.length_eq_zero_iff.1 h0⟩
  · exact .inr ⟨g, cap, rfl, h1, h2, lt_of_blk hh⟩
/-- one element that lies at the head of a block -/
theorem reads_block {w : World} {g : Nat} {t : TypeId} {fr : Nat × Nat} {size c : Nat} {xs : List Value} (h : w.heap[g]? = some (.cells xs.toArray t fr)) (hl : xs.length = size) : Reads w size (.slice (some ⟨g, 0, none⟩) 1 c) 1 xs :=
  ⟨_, c, rfl, by omega, fun _ => ⟨_, rfl, fun j u hj => by rw [add_plain, cell_of_row _ _ _ _ _ _ h, Nat.zero_add]; simpa using hj⟩⟩
/-- the elements of a row can be read -/
theorem Vec.reads {w : World} {S : Nat → Prop} {k : Nat} {enc : α → List Value} (hk : ∀ x, (enc x).length = k) {v : Value} {L : List α} (h : Vec w S k enc v L) : Reads w k v L.length (L.flatMap enc) := by
  obtain ⟨a, cap, rfl, _, h3⟩ := h
  refine ⟨a, cap, rfl, flat_len hk L, fun h0 => ?_⟩
  obtain ⟨b, off, rfl, _, hb, hc⟩ := h3 h0
  refine ⟨⟨b, off, none⟩, rfl, fun j u hj => ?_⟩
  rw [add_plain]
  have hjl : j < L.length * k := by rw [← flat_len hk L]; exact (List.getElem?_eq_some_iff.1 hj).1
  have hk0 : 0 < k := by
    rcases Nat.eq_zero_or_pos k with h' | h'
    · rw [h', Nat.mul_zero] at hjl; omega
    · exact h'
  have hq : j / k < L.length := Nat.div_lt_of_lt_mul (by rw [Nat.mul_comm]; exact hjl)
  have hr : j % k < k := Nat.mod_lt _ hk0
  have e1 : j / k * k + j % k = j := Nat.div_add_mod' j k
  have hg := flat_get hk L (j / k) _ (List.getElem?_eq_getElem hq) (j % k) hr
  rw [e1, hj] at hg
  have := hc (j / k) _ (List.getElem?_eq_getElem hq) (j % k) u hg.symm
  rwa [Nat.add_assoc, e1] at this
section
variable {P : Program} {w : World} {o : Oper} {a : Act} {K : Act → World → Prop} {Q : Exit → Act → World → Prop}
/-- append of a list, as an operation -/
theorem wp_append_v (s x : Operand) (t : TypeId) (ho : o.op = .call { callee := .builtin .append, args := #[s, x], argTypes := #[t, t] })
    (e : TypeId) (z : Value) (size bytes : Nat) (enc : α → List Value) (hk : ∀ x, (enc x).length = size) (h1 : ∀ x, ∀ u ∈ enc x, u.oneCell' = true) (ht : P.underlying t = some (.slice e)) (hinfo : (P.info? e).map (fun i => (i.zero, i.size, i.bytes)) = some (some z, size, bytes))
    (hzs : z.cells.size = size) (hsz : 0 < size) (hby : bytes ≤ 128) {w0 : World} {v u : Value} {A B : List α} (hs : a.eval s = v) (hown : OwnV e size enc w0 v A w) (hx : a.eval x = u) (hr : Reads w size u B.length (B.flatMap enc)) (hn : A.length + B.length ≤ 1000000000)
    (h : ∀ v' w', OwnV e size enc w0 v' (A ++ B) w' → (∀ k o, some k ≠ v.ownBlock → w.heap[k]? = some o → w'.heap[k]? = some o) → w.heap.size ≤ w'.heap.size → K (a.put o.dst v') w') : Oper.wp P o a w K Q := by
  refine wp_append_reads s x t ho w0.heap.size e z size bytes ht hinfo hzs hsz v A.length (A.flatMap enc) hs hown.1 u B.length (B.flatMap enc) hx hr (fun u hu => ?_) (by unfold maxLen; omega) ?_ hown.2.size ?_
  · obtain ⟨y, _, hy⟩ := List.mem_flatMap.1 hu
    exact h1 y u hy
  · exact Nat.le_trans (Nat.mul_le_mul hn hby) (by decide)
  · intro v' w' ho' hg hat
    refine h v' w' ⟨by rw [List.length_append, List.flatMap_append]; exact ho', hown.2.grown hg hown.2.size fun k hk => ?_⟩ (fun k o hk hko => (hg.block k (lt_of_blk hko) hk).trans hko) hg.size
    rcases hown.1.2 with ⟨rfl, _⟩ | ⟨g, cap, cur, rfl, hg1, _⟩
    · simp [Value.ownBlock] at hk
    · have : g = k := by simpa [Value.ownBlock] using hk
      omega
end
end
section
set_option maxRecDepth 100000
open Go.RowKit

theorem infoBy : (Tryz.prog.info? 5).map (fun i => (i.zero, i.size, i.bytes)) = some (some (.int .u8 0), 1, 1) := by kernel_rfl
/-- all but the first m elements of a row -/
theorem Vec.dropped {α : Type} {w : World} {S : Nat → Prop} {enc : α → List Value} {b off n cap : Nat} {L : List α} (h : Vec w S 1 enc (.slice (some ⟨b, off, none⟩) n cap) L) (m : Nat) (hm : m ≤ L.length) (p : Prop) [Decidable p] (hp : p → m = L.length) (c : Nat) (hc : L.length - m ≤ c) :
    Vec w S 1 enc (.slice (if p then some ⟨b, off, none⟩ else some ⟨b, off + m, none⟩) (L.length - m) c) (L.drop m) := by
  obtain ⟨a', cap', h1, h2, h3⟩ := h
  cases h1
  refine ⟨_, c, by rw [List.length_drop], by rw [List.length_drop]; exact hc, fun h0 => ?_⟩
  rw [List.length_drop] at h0
  have hnp : ¬ p := fun hp' => by have := hp hp'; omega
  rw [if_neg hnp]
  obtain ⟨b', off', e, hS, hb, hcell⟩ := h3 (by omega)
  cases e
  refine ⟨b, off + m, rfl, hS, hb, fun j x hj i u hu => ?_⟩
  have := hcell (m + j) x (by rw [List.getElem?_drop] at hj; exact hj) i u hu
  rw [Nat.mul_one] at this ⊢
  rwa [← Nat.add_assoc] at this
theorem Vec.taken {α : Type} {w : World} {S : Nat → Prop} {k : Nat} {enc : α → List Value} {a : Option Addr} {n cap : Nat} {L : List α} (h : Vec w S k enc (.slice a n cap) L) (m c : Nat) (hm : m ≤ L.length) (hc : m ≤ c) : Vec w S k enc (.slice a m c) (L.take m) := by
  obtain ⟨a', cap', h1, h2, h3⟩ := h
  cases h1
  refine ⟨a, c, by rw [List.length_take, Nat.min_eq_left hm], by rw [List.length_take]; omega, fun h0 => ?_⟩
  rw [List.length_take] at h0
  obtain ⟨b, off, h4, h5, h5', h6⟩ := h3 (by omega)
  refine ⟨b, off, h4, h5, h5', fun j x hj => h6 j x ?_⟩
  rw [List.getElem?_take] at hj
  split at hj
  · exact hj
  · cases hj
theorem Vec.grown {α : Type} {w w' : World} {S : Nat → Prop} {k : Nat} {enc : α → List Value} {v : Value} {L : List α} {b : Nat} (h : Vec w S k enc v L) (hS : ∀ x, S x → x ≠ b) (g : w.grownBy w' (some b)) : Vec w' S k enc v L :=
  h.move g.size fun x hx hs => ⟨g.block x hx (by have := hS x hs; simp; omega), hs⟩
def lenOfV : Value → Nat
  | .slice _ n _ => n
  | _ => 0
theorem SipAt.base {w W w' : World} {b B : Nat} {s : Sip} (h : SipAt W b s w') (hb : Below B w W) (hB : B ≤ b) (hW : B ≤ W.heap.size) : Below B w w' :=
  hb.trans ⟨h.2.os, h.2.tape, h.2.output, h.2.size, fun k hk => h.2.block k (by omega) (by simp; omega)⟩
theorem eachP_step (s : Sip) (l : List UInt8) (n : Nat) : eachP s l (n + 1) = eachP (wordP s (numP 0 0 (l.take 8))) (l.drop 8) n := rfl
theorem eachP_more (s : Sip) (l : List UInt8) (h : 8 ≤ l.length) : eachP s l (l.length / 8) = eachP (wordP s (numP 0 0 (l.take 8))) (l.drop 8) ((l.drop 8).length / 8) := by
  rw [show l.length / 8 = (l.drop 8).length / 8 + 1 by rw [List.length_drop]; omega, eachP_step]
theorem eachP_end (s : Sip) (l : List UInt8) (h : l.length < 8) : eachP s l (l.length / 8) = (s, l) := by
  rw [show l.length / 8 = 0 by omega]; rfl
theorem sumP_of (ka kb : Int) (l : List UInt8) (s : Sip) (r : List UInt8) (h : eachP ⟨xr ka 8317987319222330741, xr kb 7237128888997146477, xr ka 7816392313619706465, xr kb 8387220255154660723⟩ l (l.length / 8) = (s, r)) (u : Sip)
    (hu : wordP s (bits .or .u64 (numP 0 0 r) (IntKind.u64.wrap ((l.length : Int) * 72057594037927936))) = u) (v : Sip) (hv : rndI 4 ⟨u.a, u.b, xr u.c 255, u.d⟩ = v) : xr (xr (xr v.a v.b) v.c) v.d = sumP ka kb l := by
  unfold sumP
  rw [h]
  dsimp only
  rw [hu, ← hv]; rfl
set_option maxHeartbeats 4000000 in
theorem ssum_any (S : Nat → Prop) (ka kb : Int) (v : Value) (l : List UInt8) (w : World) (h : Vec w S 1 encB v l) (hl : l.length ≤ 1000000000) :
    Calls Tryz.prog 102 #[.agg #[.int .u64 ka, .int .u64 kb], v] w fun e w' => e = .returned (.int .u64 (sumP ka kb l)) ∧ Below w.heap.size w w' := by
  obtain ⟨a, cap, rfl⟩ := h.slice
  have HV := Lib.hid (h.any.move (S' := fun b => b < w.heap.size) (w' := w) (Nat.le_refl _) fun b hb _ => ⟨rfl, hb⟩); clear h
  go_enter Tryz.func102, Tryz.ntmps102
  go_wp2_with fail
  refine wp_world (fun W hW => ?_)
  have hb0 : Below w.heap.size w W := by rw [hW]; exact ((Below.refl _ _).alloc (Nat.le_refl _) _).alloc (by simp) _
  have hs0 : SipAt W (w.heap.size + 1) ⟨xr ka 8317987319222330741, xr kb 7237128888997146477, xr ka 7816392313619706465, xr kb 8387220255154660723⟩ W := by rw [hW]; exact ⟨blk_new (by simp), grown_refl _ _⟩
  have hv0 := HV.out.below hb0
  clear hW HV
  have HB0 := Lib.hid hb0; have HS0 := Lib.hid hs0; have HV0 := Lib.hid hv0
  clear hb0 hs0 hv0
  go_loopw [1] (fun v wr => ∃ (r : List UInt8) (s : Sip), Vec wr (fun b => b < w.heap.size) 1 encB v r ∧ SipAt W (w.heap.size + 1) s wr ∧ Hid (eachP s r (r.length / 8) = eachP ⟨xr ka 8317987319222330741, xr kb 7237128888997146477, xr ka 7816392313619706465, xr kb 8387220255154660723⟩ l (l.length / 8)) ∧ r.length ≤ l.length) (fun v _ => lenOfV v)
  case atStart => exact ⟨l, _, HV0.out, HS0.out, Lib.hid rfl, Nat.le_refl _⟩
  case round =>
    obtain ⟨r, s, hv, hs, HE, hrl⟩ := hrel
    obtain ⟨ar, cr, rfl⟩ := hv.slice
    have HV := Lib.hid hv; have HS := Lib.hid hs
    have hcr : r.length ≤ cr := hv.len.2
    clear hv hs
    by_cases hlt : 8 ≤ r.length
    · have hq : decide ((8 : Int) ≤ r.length) = true := by simp; omega
      have hc8 : (8 : Int) ≤ (cr : Int) := by omega
      obtain ⟨ba, oa, rfl, _, _⟩ := HV.out.get 0 (by omega)
      go_wp2_with fail
      refine (snumber_any _ _ (r.take 8) _ (HV.out.taken 8 cr hlt (by omega)) (by simp; omega)).mono ?_
      rintro e wq ⟨rfl, rfl⟩
      go_wp2_with fail
      refine (sword_any _ s _ _ HS.out.1).mono ?_
      rintro e w1 ⟨rfl, hs1⟩
      have HV1 := Lib.hid (HV.out.grown (b := w.heap.size + 1) (fun x hx => by omega) hs1.2)
      have HS1 := Lib.hid (show SipAt W (w.heap.size + 1) (wordP s (numP 0 0 (r.take 8))) w1 from ⟨hs1.1, grown_trans HS.out.2 hs1.2⟩)
      clear hs1 HS HV
      go_wp2_with fail
      go_roundw
      case rel => exact ⟨r.drop 8, _, HV1.out.dropped 8 hlt (cr = 8) (fun h => by omega) (cr - 8) (by omega), HS1.out, Lib.hid (by rw [← HE.out, eachP_more s r hlt]), by rw [List.length_drop]; omega⟩
      case measure => simp only [lenOfV]; omega
    · have hq : decide ((8 : Int) ≤ r.length) = false := by simp; omega
      have hE := HE.out
      rw [eachP_end s r (by omega)] at hE
      have HE2 := Lib.hid hE.symm
      clear hE HE
      go_wp2_with fail
      refine (snumber_any _ _ r _ HV.out (by omega)).mono ?_
      rintro e wq ⟨rfl, rfl⟩
      go_wp2_with fail
      refine (sword_any _ s _ _ HS.out.1).mono ?_
      rintro e w1 ⟨rfl, hs1⟩
      obtain ⟨u, hu⟩ : ∃ u, wordP s (bits .or .u64 (numP 0 0 r) (IntKind.u64.wrap ((l.length : Int) * 72057594037927936))) = u := ⟨_, rfl⟩
      rw [hu] at hs1
      have HU := Lib.hid hu
      have HS1 := Lib.hid (show SipAt W (w.heap.size + 1) u w1 from ⟨hs1.1, grown_trans HS.out.2 hs1.2⟩)
      clear hs1 HS HV hu
      obtain ⟨⟨c0, c1, c2, c3⟩, f0, f1, f2, f3⟩ := HS1.out.read
      go_wp2_with fail
      have hs2 : SipAt W (w.heap.size + 1) ⟨u.a, u.b, xr u.c 255, u.d⟩ (w1.setCell ⟨w.heap.size + 1, 2, none⟩ (.int .u64 (xr u.c 255))) := HS1.out.set (n := 0) rfl
      refine (rounds_any _ ⟨u.a, u.b, xr u.c 255, u.d⟩ 4 _ hs2.1 (by omega)).mono ?_
      rintro e w2 ⟨rfl, hs3⟩
      obtain ⟨v, hv⟩ : ∃ v, rndI 4 ⟨u.a, u.b, xr u.c 255, u.d⟩ = v := ⟨_, rfl⟩
      rw [hv] at hs3
      have HVv := Lib.hid hv
      have HS3 := Lib.hid (show SipAt W (w.heap.size + 1) v w2 from ⟨hs3.1, grown_trans hs2.2 hs3.2⟩)
      clear hs2 hs3 hv HS1 c0 c1 c2 c3 f0 f1 f2 f3
      obtain ⟨⟨c0, c1, c2, c3⟩, f0, f1, f2, f3⟩ := HS3.out.read
      go_wp2_with fail
      go_ret
      refine ⟨?_, HS3.out.base HB0.out (by omega) HB0.out.size⟩
      rw [← sumP_of ka kb l s r HE2.out u HU.out v HVv.out]
      rfl
end
section
open Go.RowKit
variable {α : Type}
/-- v is a row of elements of type e, in blocks made since wA; what lay in wA is as it was, but for the deck in block D -/
def OwnM (D e size : Nat) (enc : α → List Value) (wA : World) (v : Value) (L : List α) (w : World) : Prop :=
  w.ownsRow wA.heap.size e size v L.length (L.flatMap enc) ∧ Moved D wA w
theorem OwnM.moved {D e size : Nat} {enc : α → List Value} {wA w w' : World} {v : Value} {L : List α} (h : OwnM D e size enc wA v L w) (m : Moved D w w') : OwnM D e size enc wA v L w' := by
  refine ⟨⟨h.1.1, ?_⟩, h.2.trans m⟩
  rcases h.1.2 with h0 | ⟨g, cap, cur, hv, hg, hh, rest⟩
  · exact .inl h0
  · exact .inr ⟨g, cap, cur, hv, hg, m.blk (by have := h.2.lt; omega) hh, rest⟩
theorem OwnM.below {D e size : Nat} {enc : α → List Value} {wA w w' : World} {v : Value} {L : List α} (h : OwnM D e size enc wA v L w) (hb : Below w.heap.size w w') : OwnM D e size enc wA v L w' :=
  h.moved ((Moved.start h.2.deck).below hb)
theorem OwnM.nil {D e size : Nat} {enc : α → List Value} {wA w : World} (m : Moved D wA w) : OwnM D e size enc wA (.slice none 0 0) [] w := ⟨⟨by simp, .inl ⟨rfl, rfl⟩⟩, m⟩
theorem OwnM.vec {D e size : Nat} {enc : α → List Value} (hk : ∀ x, (enc x).length = size) {wA w : World} {v : Value} {L : List α} (h : OwnM D e size enc wA v L w) : Vec w (fun b => wA.heap.size ≤ b) size enc v L :=
  Vec.owns hk h.1 fun b hb _ => hb
theorem Moved.grown' {D : Nat} {wA w w' : World} {row : Option Nat} (h : Moved D wA w) (hg : w.grownBy w' row) (hr : ∀ k, row = some k → wA.heap.size ≤ k) : Moved D wA w' := by
  have hlt := h.lt
  refine ⟨⟨hg.os.trans h.grown.os, hg.tape.trans h.grown.tape, hg.output.trans h.grown.output, Nat.le_trans h.size hg.size, fun k hk hne => ?_⟩, h.deck.same fun k hk => hg.block k (by have := h.size; omega) (fun e => by have := hr k e.symm; omega), hlt⟩
  rw [hg.block k (by have := h.size; omega) (fun e => by have := hr k e.symm; omega)]
  exact h.grown.block k hk hne
section
variable {P : Program} {w : World} {o : Oper} {a : Act} {K : Act → World → Prop} {Q : Exit → Act → World → Prop}
theorem wp_append_m (s x : Operand) (t : TypeId) (ho : o.op = .call { callee := .builtin .append, args := #[s, x], argTypes := #[t, t] })
    (D e : Nat) (z : Value) (size bytes : Nat) (enc : α → List Value) (hk : ∀ x, (enc x).length = size) (h1 : ∀ x, ∀ u ∈ enc x, u.oneCell' = true) (ht : P.underlying t = some (.slice e)) (hinfo : (P.info? e).map (fun i => (i.zero, i.size, i.bytes)) = some (some z, size, bytes))
    (hzs : z.cells.size = size) (hsz : 0 < size) (hby : bytes ≤ 128) {wA : World} {v u : Value} {A B : List α} (hs : a.eval s = v) (hown : OwnM D e size enc wA v A w) (hx : a.eval x = u) (hr : Reads w size u B.length (B.flatMap enc)) (hn : A.length + B.length ≤ 1000000000)
    (h : ∀ v' w', OwnM D e size enc wA v' (A ++ B) w' → (∀ k o, some k ≠ v.ownBlock → w.heap[k]? = some o → w'.heap[k]? = some o) → K (a.put o.dst v') w') : Oper.wp P o a w K Q := by
  refine wp_append_reads s x t ho wA.heap.size e z size bytes ht hinfo hzs hsz v A.length (A.flatMap enc) hs hown.1 u B.length (B.flatMap enc) hx hr (fun u hu => ?_) (by unfold maxLen; omega) ?_ hown.2.size ?_
  · obtain ⟨y, _, hy⟩ := List.mem_flatMap.1 hu
    exact h1 y u hy
  · exact Nat.le_trans (Nat.mul_le_mul hn hby) (by decide)
  · intro v' w' ho' hg hat
    refine h v' w' ⟨by rw [List.length_append, List.flatMap_append]; exact ho', hown.2.grown' hg fun k hk => ?_⟩ (fun k o hk hko => (hg.block k (lt_of_blk hko) hk).trans hko)
    rcases hown.1.2 with ⟨rfl, _⟩ | ⟨g, cap, cur, rfl, hg1, _⟩
    · simp [Value.ownBlock] at hk
    · have : g = k := by simpa [Value.ownBlock] using hk
      omega
theorem wpList_append_m {ops : Array Oper} {rest : List Oper} (hgd : o.guard = none) (s x : Operand) (t : TypeId) (ho : o.op = .call { callee := .builtin .append, args := #[s, x], argTypes := #[t, t] })
    (D e : Nat) (z : Value) (size bytes : Nat) (enc : α → List Value) (hk : ∀ x, (enc x).length = size) (h1 : ∀ x, ∀ u ∈ enc x, u.oneCell' = true) (ht : P.underlying t = some (.slice e)) (hinfo : (P.info? e).map (fun i => (i.zero, i.size, i.bytes)) = some (some z, size, bytes))
    (hzs : z.cells.size = size) (hsz : 0 < size) (hby : bytes ≤ 128) {wA : World} {v u : Value} {A B : List α} (hs : a.eval s = v) (hown : OwnM D e size enc wA v A w) (hx : a.eval x = u) (hr : Reads w size u B.length (B.flatMap enc)) (hn : A.length + B.length ≤ 1000000000)
    (h : ∀ v' w', OwnM D e size enc wA v' (A ++ B) w' → (∀ k o, some k ≠ v.ownBlock → w.heap[k]? = some o → w'.heap[k]? = some o) → wpList P ops Q rest (a.put o.dst v') w') : wpList P ops Q (o :: rest) a w :=
  wpList_plain hgd fun _ hK => wp_append_m s x t ho D e z size bytes enc hk h1 ht hinfo hzs hsz hby hs hown hx hr hn fun v' w' h2 h3 => hK _ _ (h v' w' h2 h3)
theorem wpList_append_v {ops : Array Oper} {rest : List Oper} (hgd : o.guard = none) (s x : Operand) (t : TypeId) (ho : o.op = .call { callee := .builtin .append, args := #[s, x], argTypes := #[t, t] })
    (e : TypeId) (z : Value) (size bytes : Nat) (enc : α → List Value) (hk : ∀ x, (enc x).length = size) (h1 : ∀ x, ∀ u ∈ enc x, u.oneCell' = true) (ht : P.underlying t = some (.slice e)) (hinfo : (P.info? e).map (fun i => (i.zero, i.size, i.bytes)) = some (some z, size, bytes))
    (hzs : z.cells.size = size) (hsz : 0 < size) (hby : bytes ≤ 128) {w0 : World} {v u : Value} {A B : List α} (hs : a.eval s = v) (hown : OwnV e size enc w0 v A w) (hx : a.eval x = u) (hr : Reads w size u B.length (B.flatMap enc)) (hn : A.length + B.length ≤ 1000000000)
    (h : ∀ v' w', OwnV e size enc w0 v' (A ++ B) w' → (∀ k o, some k ≠ v.ownBlock → w.heap[k]? = some o → w'.heap[k]? = some o) → w.heap.size ≤ w'.heap.size → wpList P ops Q rest (a.put o.dst v') w') : wpList P ops Q (o :: rest) a w :=
  wpList_plain hgd fun _ hK => wp_append_v s x t ho e z size bytes enc hk h1 ht hinfo hzs hsz hby hs hown hx hr hn fun v' w' h2 h3 h4 => hK _ _ (h v' w' h2 h3 h4)
end
end
end Go.Proofs.YthnfmolkppbbpaaGreatDoor
