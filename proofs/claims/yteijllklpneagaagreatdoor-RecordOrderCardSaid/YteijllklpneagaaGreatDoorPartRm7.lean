/- Parts of one proof: RecAwake, FormsPlain, EqualPlain, MakesPlain, Handed. -/
import Derived.Test.YteijllklpneagaaGreatDoorPartRm6
import Derived.Handed
import Derived.HandedShaped
section
/- The sanity check of the laws of records. -/
set_option linter.unusedSimpArgs false
set_option linter.unusedVariables false
set_option maxRecDepth 100000
namespace Go.Proofs.YteijllklpneagaaGreatDoor
open Go.RowKit Cal
attribute [local go_sem] toList_mk mk_size
theorem awR_made : makeN awG 7 1 [[65, 110, 110]] = (⟨7, 1, [[97, 110, 110]]⟩, 0) := by kernel_rfl
theorem awR_check : checkN awG ⟨7, 1, [[97, 110, 110]]⟩ = 0 := by kernel_rfl
theorem awR_line : joinC 9 (Lib.decDigits 7 :: Lib.decDigits 1 :: [[97, 110, 110]]) = [55, 9, 49, 9, 97, 110, 110] := by decide +kernel
set_option maxHeartbeats 8000000 in
theorem awake_r (w : World) (hm : MaxAt w) : Calls Tryz.prog 22 #[] w fun e w' => e = .returned (.bool true) ∧ Below w.heap.size w w' := by
  have HM := Lib.hid hm
  clear hm
  go_enter Tryz.func22, Tryz.ntmps22
  go_wp2_with fail
  refine wp_calls_world (fun W hW => ?_)
  have hb0 : Below w.heap.size w W := by rw [hW]; exact (((Below.refl w.heap.size w).alloc (Nat.le_refl _) _).alloc (by simp) _).alloc (by simp; omega) _
  have hf0 : W.heap[w.heap.size]? = some (.cells #[strV [103, 105, 118, 101, 110], .int .i64 1] 69 (0, 0)) := by rw [hW]; exact blk_old (blk_old (blk_new rfl))
  have hs0 : W.heap[w.heap.size + 1]? = some (.cells #[.slice (some ⟨w.heap.size, 0, none⟩) 1 1, .slice none 0 0, .slice none 0 0, .slice none 0 0] 33 (0, 0)) := by rw [hW]; exact blk_old (blk_new (by simp))
  have hv0 : W.heap[w.heap.size + 2]? = some (.cells (([[65, 110, 110]] : List (List UInt8)).flatMap encS).toArray 9 (0, 0)) := by rw [hW]; exact blk_new (by simp)
  have hSA : SchemaAt W Any1 (.slice (some ⟨w.heap.size, 0, none⟩) 1 1) (.slice none 0 0) (.slice none 0 0) (.slice none 0 0) awG := ⟨vecF_one hf0, Vec.nil _ _ _ _, Vec.nil _ _ _ _, Vec.nil _ _ _ _⟩
  have hVA : Vec W Any1 1 encS (.slice (some ⟨w.heap.size + 2, 0, none⟩) 1 1) [[65, 110, 110]] := blockVec (k := 1) (enc := encS) (L := [[65, 110, 110]]) (S := Any1) (fun _ => rfl) hv0 trivial 1 rfl
  clear hW hf0 hv0
  have hmk := pmake_yes Any1 Any1 _ _ _ _ awG 7 1 [[65, 110, 110]] _ W hSA hVA awG_check rfl (by decide) (by intro x hx; simp at hx; subst hx; decide)
  rw [awR_made] at hmk
  refine hmk.mono ?_
  rintro e w1 ⟨_, rfl, ⟨sv, rfl, hvv⟩, hb⟩
  dsimp only at hvv ⊢
  obtain ⟨av, cv, rfl⟩ := hvv.slice
  have hs1 := blk_below hb (lt_of_blk hs0) hs0
  have HB1 := Lib.hid (hb0.trans (hb.mono hb0.size)); have HSA := Lib.hid (hSA.below hb); have HVV := Lib.hid hvv.any
  have HS1 := Lib.hid hs1
  obtain ⟨s0, s1, s2, s3⟩ := cellsS hs1
  have ls := lt_of_blk hs1
  have e1 : ([[97, 110, 110]] : List (List UInt8)).length = 1 := rfl
  rw [e1] at HVV ⊢
  clear hb hb0 hs0 hSA hVA hmk hvv hs1
  go_wp2_with fail
  refine wp_calls_world (fun W2 hW2 => ?_)
  have hb2 : Below w1.heap.size w1 W2 := by rw [hW2]; exact (Below.refl w1.heap.size w1).alloc (Nat.le_refl _) _
  have hs2 := blk_below hb2 (lt_of_blk HS1.out) HS1.out
  clear hW2 s0 s1 s2 s3 ls
  have hln := rLine_yes Any1 _ _ _ _ awG ⟨7, 1, [[97, 110, 110]]⟩ (.slice av 1 cv) (Lib.decDigits 7) (Lib.decDigits 1) W2 (HSA.out.below hb2) (HVV.out.below hb2) awR_check (spells_small 7 (by decide)) (spells_small 1 (by decide)) (by intro t ht; simp at ht; subst ht; decide) (by simp)
  rw [awR_line] at hln
  refine hln.mono ?_
  rintro e w3 ⟨rfl, hb⟩
  have HS3 := Lib.hid (blk_below hb (lt_of_blk hs2) hs2); have HSA3 := Lib.hid ((HSA.out.below hb2).below hb)
  have HB3 := Lib.hid (HB1.out.trans ((hb2.trans (hb.mono hb2.size)).mono HB1.out.size))
  obtain ⟨s0, s1, s2, s3⟩ := cellsS HS3.out
  clear hb hb2 hs2 hln HVV HS1 HSA
  go_wp2_with fail
  refine (rfile_none Any1 _ _ _ _ awG _ HSA3.out awG_check).mono ?_
  rintro e w4 ⟨rfl, hb⟩
  have HS4 := Lib.hid (blk_below hb (lt_of_blk HS3.out) HS3.out); have HSA4 := Lib.hid (HSA3.out.below hb)
  have HB4 := Lib.hid (HB3.out.trans (hb.mono HB3.out.size))
  clear s0 s1 s2 s3 hb
  obtain ⟨s0, s1, s2, s3⟩ := cellsS HS4.out
  clear HS3 HSA3
  go_wp2_with fail
  refine (rread_none Any1 _ _ _ _ awG _ (HM.out.old HB4.out) HSA4.out awG_check).mono ?_
  rintro e w5 ⟨rfl, hb⟩
  have HB5 := Lib.hid (HB4.out.trans (hb.mono HB4.out.size))
  clear s0 s1 s2 s3 hb
  go_wp2_with fail
  go_ret
  exact ⟨rfl, HB5.out⟩
end Go.Proofs.YteijllklpneagaaGreatDoor
end
section
/- Plain law: the three forms of a date, and a name and an address in other dress, have one normal form. -/
set_option linter.unusedSimpArgs false
set_option linter.unusedVariables false
set_option maxRecDepth 100000
namespace Go.Proofs.YteijllklpneagaaGreatDoor
open Go.RowKit Cal
/-- the normal form of a day, and the error -/
def dayV (y m d : Int) : List UInt8 × Int := bif vldB y m d then (digits8 y m d, 0) else ([], 4)
theorem dg2_two (n : Int) : dg n 2 = [UInt8.ofNat (48 + (n / 10 % 10).toNat), UInt8.ofNat (48 + (n % 10).toNat)] := rfl
theorem dig_code (n : Int) (h : 0 ≤ n) : ((UInt8.ofNat (48 + (n % 10).toNat)).toNat : Int) = 48 + n % 10 := by
  rw [UInt8.toNat_ofNat']; omega
theorem dayF_is (y m d : Int) (hb : 1800 ≤ y ∧ y ≤ 2199 ∧ 0 ≤ m ∧ m ≤ 13 ∧ 1 ≤ d ∧ d ≤ 32) : dayF (dg y 4) (dg m 2) (dg d 2) = dayV y m d := by
  obtain ⟨b1, b2, b3, b4, b5, b6⟩ := hb
  unfold dayF dayV
  rw [numI_dg y 4 (by omega) (by omega), numI_dg m 2 (by omega) (by omega), numI_dg d 2 (by omega) (by omega)]
theorem dayN_written (y m d f : Int) (hb : 1800 ≤ y ∧ y ≤ 2199 ∧ 0 ≤ m ∧ m ≤ 13 ∧ 1 ≤ d ∧ d ≤ 32) (hf : 0 ≤ f ∧ f ≤ 2) : dayN (writtenL y m d f) = dayV y m d := by
  rw [← dayF_is y m d hb]
  obtain ⟨b1, b2, b3, b4, b5, b6⟩ := hb
  have hlen : (writtenL y m d f).length = 10 := written_len y m d f
  unfold dayN
  rw [if_pos hlen]
  have e4 : dg y 4 = dg (y / 100) 2 ++ dg y 2 := dg_two y
  rcases (by omega : f = 0 ∨ f = 1 ∨ f = 2) with rfl | rfl | rfl
  · have e : writtenL y m d 0 = dg y 4 ++ [45] ++ dg m 2 ++ [45] ++ dg d 2 := rfl
    rw [e, e4]
    simp only [dg2_two, List.cons_append, List.nil_append]
    exact (if_pos (show _ ∧ _ from ⟨rfl, rfl⟩)).trans rfl
  · have e : writtenL y m d 1 = dg d 2 ++ [46] ++ dg m 2 ++ [46] ++ dg y 4 := rfl
    rw [e, e4]
    simp only [dg2_two, List.cons_append, List.nil_append]
    refine (if_neg ?_).trans ((if_pos (show _ ∧ _ from ⟨rfl, rfl⟩)).trans rfl)
    · rintro ⟨h1, _⟩
      have := dig_code m b3
      have h2 : ((UInt8.ofNat (48 + (m % 10).toNat)).toNat : Int) = 45 := h1
      omega
  · have e : writtenL y m d 2 = dg m 2 ++ [47] ++ dg d 2 ++ [47] ++ dg y 4 := rfl
    rw [e, e4]
    simp only [dg2_two, List.cons_append, List.nil_append]
    refine (if_neg ?_).trans ((if_neg ?_).trans ((if_pos (show _ ∧ _ from ⟨rfl, rfl⟩)).trans rfl))
    · rintro ⟨h1, _⟩
      have := dig_code d (by omega)
      have h2 : ((UInt8.ofNat (48 + (d % 10).toNat)).toNat : Int) = 45 := h1
      omega
    · rintro ⟨h1, _⟩
      have h2 : (((47 : UInt8).toNat : Nat) : Int) = 46 := h1
      simp at h2
/-- the tokens of what folding leaves are those of the raw text -/
theorem toks_fold (l : List UInt8) : toks (foldL l) = toks (rawL l) := by
  unfold foldL
  refine toks_join _ fun t ht => ⟨toksA_ne _ [] t ht, fun b hb => ?_⟩
  rcases toksA_mem _ [] t ht b hb with h | h
  · simp at h
  · exact ⟨(raw_ok l).1 b h.1, h.2⟩
theorem WordL.okT {t : List UInt8} (h : WordL t) : okT t := low_okT h.1 h.2.1
theorem two_toks {a b : List UInt8} (ha : WordL a) (hb : WordL b) : toks (a ++ [32] ++ b) = [a, b] := toks_join [a, b] fun t ht => by
  rcases List.mem_cons.1 ht with rfl | ht
  · exact ha.okT
  · simp at ht; subst ht; exact hb.okT
theorem two_ok {a b : List UInt8} (ha : WordL a) (hb : WordL b) : ∀ x ∈ a ++ [32] ++ b, okB x = true := join_ok [a, b] fun t ht => by
  rcases List.mem_cons.1 ht with rfl | ht
  · exact ha.okT
  · simp at ht; subst ht; exact hb.okT
theorem nameN_of (r : RulesL) (hc : checkR r = 0) (l : List UInt8) (T : List (List UInt8)) (hT : toks (rawL l) = T) (hv : foldV l = true) : nameN r l = if 6 < (nameToks r T).length ∨ 64 < (joinL (nameToks r T)).length then ([], 1) else (joinL (nameToks r T), 0) := by
  unfold nameN
  rw [if_pos hc, if_pos hv, toks_fold, hT]
theorem canon_small {L : List P2} {s : List UInt8} (h : ∀ p ∈ L, p.2.length ≤ 16) (hs : s.length ≤ 16) : (canonL L s).length ≤ 16 := by
  induction L with
  | nil => exact hs
  | cons p L ih =>
    unfold canonL
    split
    · exact h p List.mem_cons_self
    · exact ih fun q hq => h q (List.mem_cons_of_mem _ hq)
theorem canon_low {L : List P2} {s : List UInt8} (h : ∀ p ∈ L, ∀ b ∈ p.2, isLow b = true) (hs : ∀ b ∈ s, isLow b = true) : ∀ b ∈ canonL L s, isLow b = true := by
  induction L with
  | nil => exact hs
  | cons p L ih =>
    unfold canonL
    split
    · exact h p List.mem_cons_self
    · exact ih fun q hq => h q (List.mem_cons_of_mem _ hq)
theorem nicks_small {r : RulesL} (h : RulesD r) : ∀ p ∈ r.nicks, p.2.length ≤ 16 := by
  rcases h.n with e | e <;> rw [e]
  · intro p hp; simp at hp
  · intro p hp
    have : (n1L.all fun p => decide (p.2.length ≤ 16)) = true := by decide
    simpa using List.all_eq_true.1 this p hp
theorem normTok_small {r : RulesL} (h : RulesD r) {t : List UInt8} (ht : WordL t) : (normTok r t).length ≤ 1 ∧ ∀ x ∈ normTok r t, x.length ≤ 16 := by
  refine ⟨normTok_len r t, fun x hx => ?_⟩
  unfold normTok at hx
  split at hx
  · simp at hx
  · simp at hx; subst hx
    exact canon_small (nicks_small h) (by rw [low_same ht.2.1]; exact ht.2.2)
theorem join_two_len {A B : List (List UInt8)} (hA : A.length ≤ 1) (hB : B.length ≤ 1) (hA2 : ∀ x ∈ A, x.length ≤ 16) (hB2 : ∀ x ∈ B, x.length ≤ 16) : (A ++ B).length ≤ 2 ∧ (joinL (A ++ B)).length ≤ 33 := by
  refine ⟨by simp; omega, ?_⟩
  match A, B, hA, hB with
  | [], [], _, _ => simp [joinL]
  | [a], [], _, _ => have := hA2 a (by simp); simp [joinL]; omega
  | [], [b], _, _ => have := hB2 b (by simp); simp [joinL]; omega
  | [a], [b], _, _ => have := hA2 a (by simp); have := hB2 b (by simp); simp [joinL]; omega
theorem foldV_ok {l : List UInt8} (h : allOk l) (hl : l.length ≤ 64) : foldV l = true := by
  unfold foldV; rw [(raw_flat l h).2]; simpa using hl
theorem okB_all {l : List UInt8} (h : ∀ b ∈ l, okB b = true) : allOk l := fun b hb => ok_byte (h b hb)
/-- a name of two words has a normal form; in other dress the same one -/
theorem name_forms {r : RulesL} (hr : RulesD r) {a b : List UInt8} (ha : WordL a) (hb : WordL b) : ∃ p, nameN r (a ++ [32] ++ b) = (p, 0) ∧ ∀ o, DressOf (a ++ [32] ++ b) o → (nameN r o = ([], 3) ∨ nameN r o = (p, 0)) := by
  have hlen : (a ++ [32] ++ b).length ≤ 33 := by have := ha.2.2; have := hb.2.2; simp; omega
  have hraw := (raw_same _ (two_ok ha hb)).1
  have hT := two_toks ha hb
  have hn : nameToks r [a, b] = normTok r a ++ normTok r b := by simp [nameToks]
  obtain ⟨g1, g2⟩ := join_two_len (normTok_small hr ha).1 (normTok_small hr hb).1 (normTok_small hr ha).2 (normTok_small hr hb).2
  refine ⟨joinL (nameToks r [a, b]), ?_, fun o ho => ?_⟩
  · rw [nameN_of r hr.check _ [a, b] (by rw [hraw]; exact hT) (foldV_ok (okB_all (two_ok ha hb)) (by omega)), hn, if_neg (by omega)]
  · by_cases hv : foldV o = true
    · right
      rw [nameN_of r hr.check o [a, b] (by rw [ho.eq]; exact hT) hv, hn, if_neg (by omega)]
    · left
      unfold nameN
      rw [if_pos hr.check, if_neg hv]
end Go.Proofs.YteijllklpneagaaGreatDoor
end
section
/- Plain: two records made of one name and one date in other dress have the same values. -/
set_option linter.unusedSimpArgs false
set_option linter.unusedVariables false
set_option maxRecDepth 100000
namespace Go.Proofs.YteijllklpneagaaGreatDoor
open Go.RowKit Cal
def equalF : List F2 := [([103, 105, 118, 101, 110], 1), ([98, 105, 114, 116, 104], 2)]
theorem equal_check {r : RulesL} (hr : RulesD r) : checkS ⟨equalF, r⟩ = 0 := by
  have h1 : fieldsB equalF = true := by decide
  have h2 : ¬ (equalF.length < 1 ∨ 5 < equalF.length) := by decide
  unfold checkS
  rw [if_neg h2, if_pos h1, hr.check]
theorem equal_value {r : RulesL} (hr : RulesD r) {l : List UInt8} (hl : l ≠ []) : valueN ⟨equalF, r⟩ ((0 : Nat) : Int) l = nameN r l ∧ valueN ⟨equalF, r⟩ ((1 : Nat) : Int) l = dayN l := by
  have h0 : findN ⟨equalF, r⟩ ((0 : Nat) : Int) = (1, 0) := findN_in (f := 0) (equal_check hr) (show 0 < equalF.length by decide)
  have h1 : findN ⟨equalF, r⟩ ((1 : Nat) : Int) = (2, 0) := findN_in (f := 1) (equal_check hr) (show 1 < equalF.length by decide)
  refine ⟨?_, ?_⟩
  · unfold valueN; rw [h0, if_pos rfl, if_neg hl]; rfl
  · unfold valueN; rw [h1, if_pos rfl, if_neg hl]; rfl
theorem written_some (y m d f : Int) : writtenL y m d f ≠ [] := by intro e; have := written_len y m d f; rw [e] at this; simp at this
theorem equal_failed {r : RulesL} (hr : RulesD r) {o w : List UInt8} (h0 : o ≠ []) (ho : nameN r o = ([], 3)) {id ver : Int} (hn : numberedB id ver = true) :
    makeN ⟨equalF, r⟩ id ver [o, w] = (noRec, 3) := by
  have h1 := (equal_value hr h0).1
  rw [ho] at h1
  have hA : makeA ⟨equalF, r⟩ 0 [] [o, w] = ([], 3) := by
    unfold makeA; rw [h1, if_neg (by decide)]
  rw [makeN_in (equal_check hr) rfl hn, hA]; rfl
end Go.Proofs.YteijllklpneagaaGreatDoor
end
section
/- Plain: what is made of one name and one date in other dress, and of how many tokens. -/
set_option linter.unusedSimpArgs false
set_option linter.unusedVariables false
set_option maxRecDepth 100000
namespace Go.Proofs.YteijllklpneagaaGreatDoor
open Go.RowKit Cal
theorem canon_has {L : List P2} {s : List UInt8} (h : ∀ p ∈ L, p.2 ≠ []) (hs : s ≠ []) : canonL L s ≠ [] := by
  induction L with
  | nil => exact hs
  | cons p L ih =>
    unfold canonL
    split
    · exact h p List.mem_cons_self
    · exact ih fun q hq => h q (List.mem_cons_of_mem _ hq)
theorem nicks_low {r : RulesL} (h : RulesD r) : ∀ p ∈ r.nicks, p.2 ≠ [] ∧ ∀ b ∈ p.2, isLow b = true := by
  rcases h.n with e | e <;> rw [e]
  · intro p hp; simp at hp
  · intro p hp
    have : (n1L.all fun p => !p.2.isEmpty && p.2.all isLow) = true := by decide
    have := List.all_eq_true.1 this p hp
    rw [Bool.and_eq_true, List.all_eq_true] at this
    exact ⟨by rintro e; rw [e] at this; simp at this, this.2⟩
theorem normTok_okT {r : RulesL} (h : RulesD r) {t : List UInt8} (ht : WordL t) : ∀ x ∈ normTok r t, okT x := fun x hx => by
  unfold normTok at hx
  split at hx
  · simp at hx
  · simp at hx; subst hx
    rw [low_same ht.2.1]
    exact low_okT (canon_has (fun p hp => (nicks_low h p hp).1) ht.1) (canon_low (fun p hp => (nicks_low h p hp).2) ht.2.1)
/-- a name of two words has a normal form of at most two tokens; in other dress the same one -/
theorem name_two {r : RulesL} (hr : RulesD r) {a b : List UInt8} (ha : WordL a) (hb : WordL b) : ∃ p, nameN r (a ++ [32] ++ b) = (p, 0) ∧ (toks p).length ≤ 2 ∧ ∀ o, DressOf (a ++ [32] ++ b) o → (nameN r o = ([], 3) ∨ nameN r o = (p, 0)) := by
  obtain ⟨p, h1, h2⟩ := name_forms hr ha hb
  refine ⟨p, h1, ?_, h2⟩
  have hraw := (raw_same _ (two_ok ha hb)).1
  have hT := two_toks ha hb
  have hn : nameToks r [a, b] = normTok r a ++ normTok r b := by simp [nameToks]
  have hlen : (a ++ [32] ++ b).length ≤ 33 := by have := ha.2.2; have := hb.2.2; simp; omega
  obtain ⟨g1, g2⟩ := join_two_len (normTok_small hr ha).1 (normTok_small hr hb).1 (normTok_small hr ha).2 (normTok_small hr hb).2
  have h3 : nameN r (a ++ [32] ++ b) = (joinL (nameToks r [a, b]), 0) := by
    rw [nameN_of r hr.check _ [a, b] (by rw [hraw]; exact hT) (foldV_ok (okB_all (two_ok ha hb)) (by omega)), hn, if_neg (by omega)]
  rw [h3] at h1
  have e := (Prod.mk.inj h1).1
  rw [← e, hn, toks_join _ fun t ht => ?_]
  · exact g1
  · rcases List.mem_append.1 ht with h | h
    · exact normTok_okT hr ha t h
    · exact normTok_okT hr hb t h
theorem madeN_any {r : RulesL} (hr : RulesD r) {o pn : List UInt8} (h0 : o ≠ []) (ho : nameN r o = (pn, 0)) {y m d f : Int} (hb : 1800 ≤ y ∧ y ≤ 2199 ∧ 0 ≤ m ∧ m ≤ 13 ∧ 1 ≤ d ∧ d ≤ 32) (hf : 0 ≤ f ∧ f ≤ 2) {id ver : Int} (hn : numberedB id ver = true) :
    makeN ⟨equalF, r⟩ id ver [o, writtenL y m d f] = if vldB y m d = true then (⟨id, ver, [pn, digits8 y m d]⟩, 0) else (noRec, 4) := by
  have h1 := (equal_value hr h0).1
  have h2 := (equal_value hr (written_some y m d f)).2
  rw [ho] at h1
  rw [dayN_written y m d f hb hf, dayV] at h2
  rw [makeN_in (equal_check hr) rfl hn]
  cases hv : vldB y m d
  · rw [hv] at h2
    have hA : makeA ⟨equalF, r⟩ 0 [] [o, writtenL y m d f] = ([], 4) := by
      unfold makeA; rw [h1, if_pos rfl]
      unfold makeA; rw [h2]; rw [show (bif false then (digits8 y m d, (0 : Int)) else ([], 4)) = ([], 4) from rfl, if_neg (by decide)]
    rw [hA]; rfl
  · rw [hv] at h2
    have hA : makeA ⟨equalF, r⟩ 0 [] [o, writtenL y m d f] = ([pn, digits8 y m d], 0) := by
      unfold makeA; rw [h1, if_pos rfl]
      unfold makeA; rw [h2]; rw [show (bif true then (digits8 y m d, (0 : Int)) else ([], 4)) = (digits8 y m d, 0) from rfl, if_pos rfl]
      rfl
    rw [hA]; rfl
end Go.Proofs.YteijllklpneagaaGreatDoor
end
section
/- The wrap of a row with listed variables, the world's shape handed on to the contract. -/
namespace Go.Proofs.YteijllklpneagaaGreatDoor
open Go
theorem handed_shaped {H : Type} {enc : TypeId × Value → H} {a : Assume} {C : Checked} {os : Os} {f : FuncId} {fn : Func} {s : ChangeSpec} {conds : List PathCond} {apart fresh handsOn again : Bool} {X : World → Array Value → Prop}
    (hX : ∀ (w w' : World) (args : Array Value), w.heap = w'.heap → X w args → X w' args)
    (own : ownKnob C.prog.godebug = none) (started : os.Started) (noInit : C.prog.inits.idxOf? f = none) (hfn : C.prog.funcs[f]? = some fn)
    (witness : ∃ (w : World) (tape : Tape) (i : Input), w.os = os ∧ (w.forCall tape i).Shaped C.prog ∧ i.vars = [] ∧ Input.okWide C.prog (w.forCall tape i) .any w.heap.size f i ∧
      ((s.pre enc C.prog fn conds apart (w.forCall tape i).memory i.args ∧ X (w.forCall tape i).memory i.args) ∧ sizedMet enc C.prog fn (OpenSpec.ofChange s) apart (w.forCall tape i).memory i.args) ∧ a.holds C.prog (lone (Frame.enter C.prog f i.args .normal) [] (w.forCall tape i)))
    (contract : ∀ (W : World) (base : Nat) (args : Array Value) (ds gs : List (DataW H)) (before : List MemPlace),
      (∀ (j : Nat) t v, fn.params[j]? = some t → args[j]? = some v → Value.okWide C.prog W .any base t v) →
      DataW.Whole enc C.prog fn.params.toList s.vars apart W args.toList ds gs before →
      X W args → W.ShapedOpen C.prog →
      Calls C.prog f args W fun e W' => ∃ v, e = .returned v ∧ s.post enc C.prog fn apart fresh handsOn again W args v W') :
    ReturnsInHanded a C os f .any (fun w args => (s.pre enc C.prog fn conds apart w args ∧ X w args) ∧ sizedMet enc C.prog fn (OpenSpec.ofChange s) apart w args) (s.post enc C.prog fn apart fresh handsOn again) := by
  refine returnsInHanded_of_calls own started noInit witness ?_
  intro w tape i _ hsh _ hok hpre hholds
  obtain ⟨_, _, _, fn', hfn', _, _, _, _, hval⟩ := hok
  obtain rfl : fn' = fn := Option.some.inj (hfn'.symm.trans hfn)
  obtain ⟨⟨⟨ds, gs, before, hw, hc⟩, hx⟩, hz⟩ := hpre
  refine (contract (w.forCall tape i) w.heap.size i.args ds gs before hval (DataW.Whole.of_heap (w' := w.forCall tape i) (by rfl) hw) (hX _ _ _ (by rfl) hx) hsh).mono fun e W' ⟨v, he, hp⟩ => ?_
  subst he
  exact ChangeSpec.post_blind hp
end Go.Proofs.YteijllklpneagaaGreatDoor
end
