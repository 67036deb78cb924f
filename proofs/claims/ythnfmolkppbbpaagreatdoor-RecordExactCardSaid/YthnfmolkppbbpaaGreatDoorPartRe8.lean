/- Parts of one proof: RecSame, AwG, RecAwake, RecordOrderWalk, RefRecL, RefRecM, AppendK, HurtPlain, ExactPlain, Tail, RefRecA, MakeM, MakeAny, EShort, RexFiles. -/
import Derived.Test.YthnfmolkppbbpaaGreatDoorPartRe7
import Derived.ArgAppend
set_option linter.unusedSimpArgs false
set_option linter.unusedVariables false
namespace Go.Proofs.YthnfmolkppbbpaaGreatDoor
section
set_option maxRecDepth 100000
open Go.RowKit Cal
attribute [local go_sem] toList_mk mk_size str_append
theorem take_more {A B : List (List UInt8)} {j : Nat} (h : A.take j = B.take j) (hA : j < A.length) (hB : j < B.length) (he : A[j] = B[j]) : A.take (j + 1) = B.take (j + 1) := by
 rw [List.take_succ_eq_append_getElem hA, List.take_succ_eq_append_getElem hB, h, he]
set_option maxHeartbeats 4000000 in
theorem sequal_any (S T : Nat → Prop) (u v : Value) (A B : List (List UInt8)) (w : World) (hu : Vec w S 1 encS u A) (hv : Vec w T 1 encS v B) (hn : A.length ≤ 1000000) (hm : B.length ≤ 1000000) :
  Calls Tryz.prog 46 #[u, v] w fun e w' => e = .returned (.bool (decide (A = B))) ∧ Below w.heap.size w w' := by
 obtain ⟨a, ca, rfl⟩ := hu.slice
 obtain ⟨b, cb, rfl⟩ := hv.slice
 have HU := Lib.hid hu; have HV := Lib.hid hv
 clear hu hv
 by_cases hl : A.length = B.length
 ·have d1 : ((A.length : Int) != (B.length : Int)) = false := by rw [hl]; simp
  have HL := Lib.hid hl
  clear hl
  go_enter Tryz.func46, Tryz.ntmps46
  go_wp2_with fail
  go_loopw [5, 13] (fun _ i wr => ∃ j : Nat, i = .int .i64 j ∧ j ≤ A.length ∧ A.take j = B.take j ∧ Below w.heap.size w wr) (fun _ i _ => A.length - (intOf i).toNat)
  case atStart => exact ⟨0, rfl, by omega, rfl, Below.refl _ _⟩
  case round =>
   obtain ⟨j, rfl, hj, ht, hb⟩ := hrel
   have HT := Lib.hid ht; have HB := Lib.hid hb
   clear ht hb
   by_cases hlt : j < A.length
   ·have hq : decide ((j : Int) < A.length) = true := by simp; omega
    have hlb : j < B.length := by have := HL.out; omega
    obtain ⟨x, hx⟩ : ∃ x, A[j] = x := ⟨_, rfl⟩
    obtain ⟨y, hy⟩ : ∃ y, B[j] = y := ⟨_, rfl⟩
    obtain ⟨b1, o1, rfl, l1, g1⟩ := (HU.out.below HB.out).get j hlt
    obtain ⟨b2, o2, rfl, l2, g2⟩ := (HV.out.below HB.out).get j hlb
    have c1 := g1 0 _ rfl
    have c2 := g2 0 _ rfl
    rw [Nat.mul_one, Nat.add_zero, hx] at c1
    rw [Nat.mul_one, Nat.add_zero, hy] at c2
    have hja : (j : Int) < (A.length : Int) := by omega
    have hjb : (j : Int) < (B.length : Int) := by omega
    have HX := Lib.hid hx; have HY := Lib.hid hy
    clear g1 g2 hx hy
    go_wp2_with fail
    refine wp_region_noPanic ?_
    refine wp_region_held_drew (S := (fun w' => w'.cell? ⟨b1, o1 + j, none⟩ = some (strV x) ∧ w'.cell? ⟨b2, o2 + j, none⟩ = some (strV y))) (by kernel_rfl) (⟨c1, c2⟩) (fun hHeld => ?_)
    refine tH 0 (h := ?_)
    refine tH 1 (h := ?_)
    refine tH 2 (h := ?_)
    refine tH 3 (h := ?_)
    refine tH 4 (h := ?_)
    refine tH 5 (h := ?_)
    refine tH 6 (h := ?_)
    refine tH 7 (h := ?_)
    refine tH 8 (h := ?_)
    refine wpAnyH_done (by kernel_rfl) ?_ _
    refine NoPanic.normal ?_
    go_wp2_with fail
    ·rename_i h
     have he : ¬ x = y := by simpa using h
     go_ret
     exact ⟨ret_bool (decide_eq_false fun e => by subst e; exact he (HX.out.symm.trans HY.out)).symm, HB.out.drew⟩
    ·rename_i h
     have he : x = y := by simpa using h
     go_roundw
     case rel => exact ⟨j + 1, by go_num, by omega, take_more HT.out hlt hlb (by rw [HX.out, HY.out]; exact he), HB.out.drew⟩
     case measure => simp [intOf]; omega
   ·have hq : decide ((j : Int) < A.length) = false := by simp; omega
    obtain rfl : j = A.length := by omega
    go_wp2_with fail
    go_ret
    have e := HT.out
    rw [List.take_length, HL.out, List.take_length] at e
    exact ⟨ret_bool (decide_eq_true e).symm, HB.out⟩
 ·have d1 : ((A.length : Int) != (B.length : Int)) = true := by simp; omega
  go_enter Tryz.func46, Tryz.ntmps46
  go_wp2_with fail
  go_ret
  exact ⟨ret_bool (decide_eq_false (fun e => hl (by rw [e]))).symm, Below.refl _ _⟩
def sameR (a b : RecL) : Bool := decide (a.id = b.id) && (decide (a.ver = b.ver) && decide (a.vals = b.vals))
theorem sameR_self (a b : RecL) (h1 : a.id = b.id) (h2 : a.ver = b.ver) (h3 : a.vals = b.vals) : sameR a b = true := by simp [sameR, h1, h2, h3]
set_option maxHeartbeats 4000000 in
theorem psame_any (S T : Nat → Prop) (u v : Value) (a b : RecL) (w : World) (hu : Vec w S 1 encS u a.vals) (hv : Vec w T 1 encS v b.vals) (hn : a.vals.length ≤ 1000000) (hm : b.vals.length ≤ 1000000) :
  Calls Tryz.prog 15 #[.agg #[.int .i64 a.id, .int .i64 a.ver, u], .agg #[.int .i64 b.id, .int .i64 b.ver, v]] w fun e w' => e = .returned (.bool (sameR a b)) ∧ Below w.heap.size w w' := by
 obtain ⟨ua, uc, rfl⟩ := hu.slice
 obtain ⟨va, vc, rfl⟩ := hv.slice
 obtain ⟨i1, n1, A⟩ := a
 obtain ⟨i2, n2, B⟩ := b
 dsimp only at hu hv hn hm ⊢
 have HU := Lib.hid hu; have HV := Lib.hid hv
 clear hu hv
 have hq : (i1 == i2) = decide (i1 = i2) := beq_dec i1 i2
 have hq2 : (n1 == n2) = decide (n1 = n2) := beq_dec n1 n2
 cases h1 : decide (i1 = i2)
 ·have e : sameR ⟨i1, n1, A⟩ ⟨i2, n2, B⟩ = false := by unfold sameR; dsimp only; rw [h1]; rfl
  rw [e]
  rw [h1] at hq
  go_enter Tryz.func15, Tryz.ntmps15
  go_wp2_with fail
  go_ret
  exact ⟨rfl, ((Below.refl w.heap.size w).alloc (Nat.le_refl _) _).alloc (by simp) _⟩
 ·rw [h1] at hq
  cases h2 : decide (n1 = n2)
  ·have e : sameR ⟨i1, n1, A⟩ ⟨i2, n2, B⟩ = false := by unfold sameR; dsimp only; rw [h1, h2]; rfl
   rw [e]
   rw [h2] at hq2
   go_enter Tryz.func15, Tryz.ntmps15
   go_wp2_with fail
   go_ret
   exact ⟨rfl, ((Below.refl w.heap.size w).alloc (Nat.le_refl _) _).alloc (by simp) _⟩
  ·rw [h2] at hq2
   have e : sameR ⟨i1, n1, A⟩ ⟨i2, n2, B⟩ = decide (A = B) := by unfold sameR; dsimp only; rw [h1, h2]; rfl
   rw [e]
   go_enter Tryz.func15, Tryz.ntmps15
   go_wp2_with fail
   refine wp_calls_world (fun W hW => ?_)
   have hb0 : Below w.heap.size w W := by rw [hW]; exact ((Below.refl w.heap.size w).alloc (Nat.le_refl _) _).alloc (by simp) _
   clear hW
   refine (sequal_any S T _ _ A B W (HU.out.below hb0) (HV.out.below hb0) hn hm).mono ?_
   rintro e w1 ⟨rfl, hb⟩
   go_wp2_with fail
   go_ret
   exact ⟨rfl, hb0.trans (hb.mono hb0.size)⟩
set_option maxHeartbeats 400000 in
theorem find1_any (xb : Nat) (x id ver : Int) (sv : Value) (w : World) (hx : w.cell? ⟨xb, 0, none⟩ = some (.int .i64 x)) (hl : xb < w.heap.size) :
  Calls Tryz.prog 62 #[.agg #[.int .i64 id, .int .i64 ver, sv], .pointer (some ⟨xb, 0, none⟩)] w fun e w' => e = .returned (.bool (decide (id = x))) ∧ Below w.heap.size w w' := by
 have hq : (id == x) = decide (id = x) := beq_dec id x
 have hx2 : (w.alloc (.cells #[.int .i64 id, .int .i64 ver, sv] 44)).cell? ⟨xb, 0, none⟩ = some (.int .i64 x) := (((Below.refl w.heap.size w).alloc (Nat.le_refl _) _).cell (p := ⟨xb, 0, none⟩) hl).trans hx
 go_enter Tryz.func62, Tryz.ntmps62
 go_wp2_with fail
 go_ret
 exact ⟨rfl, (Below.refl w.heap.size w).alloc (Nat.le_refl _) _⟩
set_option maxHeartbeats 4000000 in
theorem ridx_any (S : Nat → Prop) (v : Value) (R : List RecL) (xb : Nat) (x : Int) (w : World) (hr : RecsVec w S v R) (hx : w.cell? ⟨xb, 0, none⟩ = some (.int .i64 x)) (hl : xb < w.heap.size) (hn : R.length ≤ 1000000) :
  Calls Tryz.prog 61 #[v, .func (.func 62) #[] #[.pointer (some ⟨xb, 0, none⟩)]] w fun e w' => e = .returned (.int .i64 (findA x 0 R)) ∧ Below w.heap.size w w' := by
 obtain ⟨a, cap, rfl⟩ := hr.slice
 have HR := Lib.hid hr; have HX := Lib.hid hx
 obtain ⟨E, hE⟩ : ∃ E, findA x 0 R = E := ⟨_, rfl⟩
 rw [hE]
 have HE := Lib.hid hE
 clear hr hx hE
 go_enter Tryz.func61, Tryz.ntmps61
 go_wp2_with fail
 go_loopw [5, 8] (fun _ i wr => ∃ j : Nat, i = .int .i64 j ∧ j ≤ R.length ∧ Hid (findA x j (R.drop j) = E) ∧ Below w.heap.size w wr) (fun _ i _ => R.length - (intOf i).toNat)
 case atStart => exact ⟨0, rfl, by omega, HE, Below.refl _ _⟩
 case round =>
  obtain ⟨j, rfl, hj, HT, hb⟩ := hrel
  have HB := Lib.hid hb
  clear hb
  by_cases hlt : j < R.length
  ·have hq : decide ((j : Int) < R.length) = true := by simp; omega
   have hji : (j : Int) < (R.length : Int) := by omega
   obtain ⟨b, off, id, ver, aa, nn, cc, vals, rfl, lb, c0, c1, c2, hRj, hvv⟩ := (HR.out.below HB.out).at j hlt
   have hT := HT.out
   rw [List.drop_eq_getElem_cons hlt, hRj, findA_cons] at hT
   have HT2 := Lib.hid hT
   have hxr := (HB.out.cell (p := ⟨xb, 0, none⟩) hl).trans HX.out
   have hlr : xb < wr.heap.size := Nat.lt_of_lt_of_le hl HB.out.size
   have hcall := find1_any xb x id ver (.slice aa nn cc) wr hxr hlr
   clear hT hRj hvv
   go_wp2_with fail
   refine hcall.mono ?_
   rintro e w1 ⟨rfl, hb⟩
   have HB1 := Lib.hid (HB.out.trans (hb.mono HB.out.size))
   clear hb hcall c0 c1 c2
   by_cases he : id = x
   ·have hE2 : E = j := by rw [← HT2.out]; exact if_pos he
    subst hE2
    have d : decide (id = x) = true := decide_eq_true he
    go_wp2_with fail
    go_ret
    exact ⟨rfl, HB1.out⟩
   ·have d : decide (id = x) = false := decide_eq_false he
    have hE2 : findA x (j + 1) (R.drop (j + 1)) = E := by rw [← HT2.out]; exact (if_neg he).symm
    have HE2 := Lib.hid hE2
    clear hE2
    go_wp2_with fail
    go_roundw
    case rel => exact ⟨j + 1, by go_num, by omega, HE2, HB1.out⟩
    case measure => simp [intOf]; omega
  ·have hq : decide ((j : Int) < R.length) = false := by simp; omega
   obtain rfl : j = R.length := by omega
   have hT := HT.out
   rw [List.drop_length, findA] at hT
   subst hT
   go_wp2_with fail
   go_ret
   exact ⟨rfl, HB.out⟩
set_option maxHeartbeats 400000 in
theorem rfind_any (S : Nat → Prop) (v : Value) (R : List RecL) (x : Int) (w : World) (hr : RecsVec w S v R) (hn : R.length ≤ 1000000) :
  Calls Tryz.prog 28 #[v, .int .i64 x] w fun e w' => e = .returned (.int .i64 (findA x 0 R)) ∧ Below w.heap.size w w' := by
 obtain ⟨a, cap, rfl⟩ := hr.slice
 have HR := Lib.hid hr
 clear hr
 go_enter Tryz.func28, Tryz.ntmps28
 go_wp2_with fail
 refine wp_calls_world (fun W hW => ?_)
 have hb0 : Below w.heap.size w W := by rw [hW]; exact (Below.refl w.heap.size w).alloc (Nat.le_refl _) _
 have hx0 : W.heap[w.heap.size]? = some (.cells #[.int .i64 x] 3 (0, 0)) := by rw [hW]; exact blk_new rfl
 clear hW
 refine (ridx_any S _ R w.heap.size x W (HR.out.below hb0) (cell1 hx0) (lt_of_blk hx0) hn).mono ?_
 rintro e w1 ⟨rfl, hb⟩
 have HB1 := Lib.hid (hb0.trans (hb.mono hb0.size))
 clear hb hb0 hx0
 go_wp2_with fail
 go_ret
 exact ⟨rfl, HB1.out⟩
end
section
open Go.RowKit Cal
def awG : SchemaL := ⟨[([103, 105, 118, 101, 110], 1)], [], [], []⟩
theorem awG_check : checkS awG = 0 := by kernel_rfl
end
section
set_option maxRecDepth 100000
open Go.RowKit Cal
attribute [local go_sem] toList_mk mk_size
theorem awR_made : makeN awG 7 1 [[65, 110, 110]] = (⟨7, 1, [[97, 110, 110]]⟩, 0) := by kernel_rfl
theorem awR_check : checkN awG ⟨7, 1, [[97, 110, 110]]⟩ = 0 := by kernel_rfl
theorem awR_line : joinC 9 (Lib.decDigits 7 :: Lib.decDigits 1 :: [[97, 110, 110]]) = [55, 9, 49, 9, 97, 110, 110] := by decide +kernel
set_option maxHeartbeats 8000000 in
theorem awake_r (w : World) (hm : MaxAt w) : Calls Tryz.prog 5 #[] w fun e w' => e = .returned (.bool true) ∧ Below w.heap.size w w' := by
 have HM := Lib.hid hm
 clear hm
 go_enter Tryz.func5, Tryz.ntmps5
 go_wp2_with fail
 refine wp_calls_world (fun W hW => ?_)
 have hb0 : Below w.heap.size w W := by rw [hW]; exact (((Below.refl w.heap.size w).alloc (Nat.le_refl _) _).alloc (by simp) _).alloc (by simp; omega) _
 have hf0 : W.heap[w.heap.size]? = some (.cells #[strV [103, 105, 118, 101, 110], .int .i64 1] 62 (0, 0)) := by rw [hW]; exact blk_old (blk_old (blk_new rfl))
 have hs0 : W.heap[w.heap.size + 1]? = some (.cells #[.slice (some ⟨w.heap.size, 0, none⟩) 1 1, .slice none 0 0, .slice none 0 0, .slice none 0 0] 33 (0, 0)) := by rw [hW]; exact blk_old (blk_new (by simp))
 have hv0 : W.heap[w.heap.size + 2]? = some (.cells (([[65, 110, 110]] : List (List UInt8)).flatMap encS).toArray 9 (0, 0)) := by rw [hW]; exact blk_new (by simp)
 have hSA : SchemaAt W Any1 (.slice (some ⟨w.heap.size, 0, none⟩) 1 1) (.slice none 0 0) (.slice none 0 0) (.slice none 0 0) awG := ⟨vecF_one hf0, Vec.nil _ _ _ _, Vec.nil _ _ _ _, Vec.nil _ _ _ _⟩
 have hVA : Vec W Any1 1 encS (.slice (some ⟨w.heap.size + 2, 0, none⟩) 1 1) [[65, 110, 110]] := blockVec (k := 1) (enc := encS) (L := [[65, 110, 110]]) (S := Any1) (fun _ => rfl) hv0 trivial 1 rfl
 clear hW hf0 hv0
 have hmk := pmake_yes Any1 Any1 _ _ _ _ awG 7 1 [[65, 110, 110]] _ W hSA hVA awG_check rfl (by decide) (by intro x hx; simp at hx; subst hx; decide)
 rw [awR_made] at hmk
 refine hmk.mono ?_
 rintro e w1 ⟨_, rfl, ⟨sv, rfl, hvv⟩, hb⟩
 dsimp only at hvv ⊢
 obtain ⟨av, cv, rfl⟩ := hvv.slice
 have hs1 := blk_below hb (lt_of_blk hs0) hs0
 have HB1 := Lib.hid (hb0.trans (hb.mono hb0.size)); have HSA := Lib.hid (hSA.below hb); have HVV := Lib.hid hvv.any
 have HS1 := Lib.hid hs1
 obtain ⟨s0, s1, s2, s3⟩ := cellsS hs1
 have ls := lt_of_blk hs1
 have e1 : ([[97, 110, 110]] : List (List UInt8)).length = 1 := rfl
 rw [e1] at HVV ⊢
 clear hb hb0 hs0 hSA hVA hmk hvv hs1
 go_wp2_with fail
 refine wp_calls_world (fun W2 hW2 => ?_)
 have hb2 : Below w1.heap.size w1 W2 := by rw [hW2]; exact (Below.refl w1.heap.size w1).alloc (Nat.le_refl _) _
 have hs2 := blk_below hb2 (lt_of_blk HS1.out) HS1.out
 clear hW2 s0 s1 s2 s3 ls
 have hln := rLine_yes Any1 _ _ _ _ awG ⟨7, 1, [[97, 110, 110]]⟩ (.slice av 1 cv) (Lib.decDigits 7) (Lib.decDigits 1) W2 (HSA.out.below hb2) (HVV.out.below hb2) awR_check (spells_small 7 (by decide)) (spells_small 1 (by decide)) (by intro t ht; simp at ht; subst ht; decide) (by simp)
 rw [awR_line] at hln
 refine hln.mono ?_
 rintro e w3 ⟨rfl, hb⟩
 have HS3 := Lib.hid (blk_below hb (lt_of_blk hs2) hs2); have HSA3 := Lib.hid ((HSA.out.below hb2).below hb)
 have HB3 := Lib.hid (HB1.out.trans ((hb2.trans (hb.mono hb2.size)).mono HB1.out.size))
 obtain ⟨s0, s1, s2, s3⟩ := cellsS HS3.out
 clear hb hb2 hs2 hln HVV HS1 HSA
 go_wp2_with fail
 refine (rfile_none Any1 _ _ _ _ awG _ HSA3.out awG_check).mono ?_
 rintro e w4 ⟨rfl, hb⟩
 have HS4 := Lib.hid (blk_below hb (lt_of_blk HS3.out) HS3.out); have HSA4 := Lib.hid (HSA3.out.below hb)
 have HB4 := Lib.hid (HB3.out.trans (hb.mono HB3.out.size))
 clear s0 s1 s2 s3 hb
 obtain ⟨s0, s1, s2, s3⟩ := cellsS HS4.out
 clear HS3 HSA3
 go_wp2_with fail
 refine (rread_none Any1 _ _ _ _ awG _ (HM.out.old HB4.out) HSA4.out awG_check).mono ?_
 rintro e w5 ⟨rfl, hb⟩
 have HB5 := Lib.hid (HB4.out.trans (hb.mono HB4.out.size))
 clear s0 s1 s2 s3 hb
 go_wp2_with fail
 go_ret
 exact ⟨rfl, HB5.out⟩
end
section
set_option maxRecDepth 100000
open Go.RowKit Cal
attribute [local go_sem] toList_mk mk_size bytes_append
/-- where the law stands: the deck in block D, the schema in block y -/
structure OsAt (D : Nat) (w : World) (y : Nat) (S : Nat → Prop) (vf vt vn vs : Value) (s : SchemaL) (wr : World) : Prop where
 m : Moved D w wr
 b : wr.heap[y]? = some (.cells #[vf, vt, vn, vs] 33 (0, 0))
 s : SchemaAt wr S vf vt vn vs s
 ne : ∀ b, S b → b ≠ D
 yD : y ≠ D
end
section
set_option maxRecDepth 100000
open Go.RowKit Cal
attribute [local go_sem] toList_mk mk_size
set_option maxHeartbeats 16000000 in
theorem rrread_any (S : Nat → Prop) (vf vt vn vs : Value) (s : SchemaL) (t : List UInt8) (w : World) (h : SchemaAt w S vf vt vn vs s) (hc : checkS s = 0) (ht : t.length ≤ 50000) :
  Calls Tryz.prog 33 #[.agg #[vf, vt, vn, vs], strV t] w (ReadPost (freadN s t) w) := by
 have hrd : freadN s t = readA s t.length [] 0 (rowsL t) := by unfold freadN; rw [if_pos hc]
 obtain ⟨P, hP⟩ : ∃ P, readA s t.length [] 0 (rowsL t) = P := ⟨_, rfl⟩
 rw [hrd, hP]
 have HP := Lib.hid hP
 have HS := Lib.hid h; have HC := Lib.hid hc
 have d00 : ((0 : Int) != 0) = false := rfl
 clear h hc hrd hP
 go_enter Tryz.func33, Tryz.ntmps33
 go_wp2_with fail
 refine wp_calls_world (fun W hW => ?_)
 have hb0 : Below w.heap.size w W := by rw [hW]; exact (Below.refl w.heap.size w).alloc (Nat.le_refl _) _
 have hs0 : W.heap[w.heap.size]? = some (.cells #[vf, vt, vn, vs] 33 (0, 0)) := by rw [hW]; exact blk_new rfl
 clear hW
 refine (rscheck_any S _ _ _ _ s W (HS.out.below hb0)).mono ?_
 rw [HC.out]
 rintro e w1 ⟨rfl, hb⟩
 have HB1 := Lib.hid (hb0.trans (hb.mono hb0.size)); have HS1 := Lib.hid (blk_below hb (lt_of_blk hs0) hs0); have Hb1 := Lib.hid hb
 have zW := hb0.size; have lW := lt_of_blk hs0; have HB0 := Lib.hid hb0
 clear hb hb0 hs0
 go_wp2_with fail
 go_loopw [8, 9] (fun v a wr => ∃ (C : List RV) (k : Nat), a = .int .i64 k ∧ k ≤ t.length ∧ C.length ≤ 64 ∧ RIn w1 v C wr ∧ Below w1.heap.size w1 wr ∧ Hid (P = readA s t.length (C.map pR) k (rowsL (t.drop k)))) (fun _ a _ => t.length - (intOf a).toNat)
 case atStart => exact ⟨[], 0, rfl, by omega, by simp, RIn.nil (Below.refl _ _), Below.refl _ _, Lib.hid HP.out.symm⟩
 case round =>
  obtain ⟨C, k, rfl, hk, hC64, hin, hbw, HE⟩ := hrel
  obtain ⟨wu, hwu⟩ : ∃ u, u = wr := ⟨_, rfl⟩
  subst hwu
  have HIn := Lib.hid hin
  have HBw := Lib.hid hbw
  have HBu := Lib.hid (HB1.out.trans (hbw.mono HB1.out.size))
  have HSu := Lib.hid (blk_below hbw (lt_of_blk HS1.out) HS1.out)
  have HPost := Lib.hid (fun (m : Nat) (er : Int) (w' : World) (hr : P = (C.map pR, m, er)) (hi : RIn w1 u8 C w') (hbb : Below w.heap.size w w') =>
   (show ReadPost P w (.returned (.tuple #[u8, .int .i64 m, .int .i64 er])) w' from by rw [hr]; exact ⟨_, rfl, hi.recs HB1.out.size, hbb⟩))
  obtain ⟨av, cv, rfl⟩ := own_slice hin.own.1
  clear hin hbw
  go_wp2_with fail
  go_loopw [10] (fun a wr => ∃ e : Nat, a = .int .i64 e ∧ k ≤ e ∧ e ≤ t.length ∧ Hid ((10 : UInt8) ∉ (t.drop k).take (e - k)) ∧ wr = wu) (fun a _ => t.length - (intOf a).toNat)
  case atStart => exact ⟨k, rfl, by omega, hk, Lib.hid (by simp), rfl⟩
  case round =>
   obtain ⟨e, rfl, hke, het, HNo, rfl⟩ := hrel
   by_cases hlt : e < t.length
   ·have hq : decide ((e : Int) < (t.length : Int)) = true := by simp; omega
    have heti : (e : Int) < (t.length : Int) := by omega
    obtain ⟨c, hc⟩ : ∃ c, t[e] = c := ⟨_, rfl⟩
    have hget : ∀ h : e < (⟨t.toArray⟩ : ByteArray).size, (⟨t.toArray⟩ : ByteArray)[e]'h = c := fun h => hc
    have HCc := Lib.hid hc
    clear hc
    by_cases h10 : c = 10
    ·have dc : ((c.toNat : Int) != 10) = false := by rw [h10]; rfl
     have hrows := rows_cut hke hlt (by rw [HCc.out]; exact h10) HNo.out
     have hext := ext_sub t k e hke
     obtain ⟨row, hrow⟩ : ∃ row, (t.drop k).take (e - k) = row := ⟨_, rfl⟩
     have hrl : row.length = e - k := by rw [← hrow, List.length_take, List.length_drop]; omega
     rw [hrow] at hrows hext
     have hE := HE.out
     rw [hrows, readA] at hE
     have HE2 := Lib.hid hE
     obtain ⟨r, hr⟩ : ∃ r, row.length = r := ⟨_, rfl⟩
     have hr5 : r ≤ 50000 := by omega
     have he : e = k + r := by omega
     subst he
     have HR := Lib.hid hr
     have q1 : (k : Int) ≤ (k : Int) + (r : Int) := by omega
     have q2 : (k : Int) + (r : Int) ≤ (t.length : Int) := by omega
     have q3 : (0 : Int) ≤ (k : Int) + (r : Int) := by omega
     have q4 : ((k : Int) + (r : Int)).toNat = k + r := by omega
     have dne : ((k : Int) + (r : Int) == (t.length : Int)) = false := beq_eq_false_iff_ne.2 (by omega)
     clear HE hE hrows hrow hrl h10 HCc
     have hsl : r < 4 → isEnd row = false := fun h => by
      unfold isEnd; rw [decide_eq_false (by rw [HR.out]; show ¬ 4 ≤ r; omega), Bool.false_and]
     have hend : 4 ≤ r → isEnd row = (row.take 4 == [101, 110, 100, 32]) := fun h => by
      unfold isEnd; rw [decide_eq_true (by rw [HR.out]; exact h), Bool.true_and]; rfl
     have hx4 := extract_take row 4
     obtain ⟨X, hX⟩ : ∃ X, row.take 4 = X := ⟨_, rfl⟩
     rw [hX] at hend hx4
     obtain ⟨bE, hbE⟩ : ∃ bE, isEnd row = bE := ⟨_, rfl⟩
     rw [hbE] at hsl hend
     have HbE := Lib.hid hbE; have HX := Lib.hid hX
     clear hX hbE
     by_cases hE : bE = true
     ·subst hE
      have h4 : 4 ≤ r := by
       rcases Nat.lt_or_ge r 4 with h | h
       ·exact absurd (hsl h) (by decide)
       ·exact h
      have d4 : decide ((4 : Int) ≤ (r : Int)) = true := by simp; omega
      have dX : (X == [101, 110, 100, 32]) = true := (hend h4).symm
      have hX2 : row.take 4 = endS := by
       have := HX.out
       rw [this]
       simpa [endS] using dX
      have hiff := endR_iff (n := C.length) hX2
      have hE3 := HE2.out
      rw [if_pos HbE.out, List.length_map] at hE3
      simp only [hiff] at hE3
      have hxr := ext_sub row 4 r h4
      rw [show r - 4 = (row.drop 4).length by rw [List.length_drop, HR.out], List.take_length] at hxr
      obtain ⟨Y, hY⟩ : ∃ Y, row.drop 4 = Y := ⟨_, rfl⟩
      rw [hY] at hxr hE3
      have hnum := fun w => rnum01_any 7 C.length w (by omega) (by omega)
      obtain ⟨Dg, hDg⟩ : ∃ Dg, Lib.decDigits C.length = Dg := ⟨_, rfl⟩
      rw [hDg] at hnum hE3
      have HNum := Lib.hid hnum
      have HE3 := Lib.hid hE3
      have q5 : (4 : Int) ≤ (r : Int) := by omega
      have bD : Below wr.heap.size wr wr.drew := (Below.refl _ _).drew
      clear hsl hend hX2 hiff hE3 hY hDg hnum HE2
      go_wp2_with fail
      clear dX d4 hx4 hext
      by_cases hYD : Y = Dg
      ·have dn1 : (Y != Dg) = false := by rw [hYD]; simp
       have dn2 : (Y == Dg) = true := by rw [hYD]; simp
       have hw1 : IntKind.i64.wrap ((k : Int) + (r : Int) + 1) = (k : Int) + (r : Int) + 1 := by rw [IntKind.wrap_i64]; omega
       have HYD := Lib.hid hYD
       clear hYD
       by_cases hlast : k + r + 1 = t.length
       ·have dl : ((k : Int) + (r : Int) + 1 != (t.length : Int)) = false := by simp; omega
        have hP := HE3.out
        rw [if_pos ⟨HYD.out, List.drop_eq_nil_of_le (by omega)⟩] at hP
        have HP2 := Lib.hid hP
        clear hP hlast
        refine wp_region_noPanic ?_
        refine wp_region_held_drew (S := (fun w' => True)) (by kernel_rfl) (trivial) (fun hHeld => ?_)
        refine tH 0 (h := ?_)
        refine tH 1 (h := ?_)
        refine tH 2 (h := ?_)
        refine tH 3 (h := ?_)
        refine wpAnyH_ready (rs := [4]) (by kernel_rfl) (by simp) ?_
        refine AllReadyH.cons rfl (fun K hK => ?_) AllReadyH.nil
        go_simp
        refine (HNum.out _).mono ?_; rintro e w4 ⟨rfl, hb⟩; have b4 := bD.trans (hb.mono bD.size); clear hb
        refine hK.out _ _ (trivial) (fun hHeld => ?_)
        clear hK K
        try simp only [List.getElem_toArray, List.getElem_cons_zero, List.getElem_cons_succ, Act.put, List.setIfInBounds_toArray, List.set_cons_zero, List.set_cons_succ]
        refine tH 5 (h := ?_)
        refine tH 6 (h := ?_)
        refine tH 7 (h := ?_)
        refine tH 8 (h := ?_)
        refine tH 9 (h := ?_)
        refine tH 10 (h := ?_)
        refine tH 11 (h := ?_)
        refine tH 12 (h := ?_)
        refine wpAnyH_done (by kernel_rfl) ?_ _
        refine NoPanic.normal ?_
        go_wp2_with fail
        go_ret3
        exact HPost.out _ _ _ HP2.out (HIn.out.below b4) (HBu.out.trans (b4.mono HBu.out.size))
       ·have dl : ((k : Int) + (r : Int) + 1 != (t.length : Int)) = true := by simp; omega
        have hP := HE3.out
        rw [if_neg (fun hh => by have h1 := congrArg List.length hh.2; rw [List.length_drop] at h1; simp at h1; omega)] at hP
        have HP2 := Lib.hid hP
        clear hP hlast
        refine wp_region_noPanic ?_
        refine wp_region_held_drew (S := (fun w' => True)) (by kernel_rfl) (trivial) (fun hHeld => ?_)
        refine tH 0 (h := ?_)
        refine tH 1 (h := ?_)
        refine tH 2 (h := ?_)
        refine tH 3 (h := ?_)
        refine wpAnyH_ready (rs := [4]) (by kernel_rfl) (by simp) ?_
        refine AllReadyH.cons rfl (fun K hK => ?_) AllReadyH.nil
        go_simp
        refine (HNum.out _).mono ?_; rintro e w4 ⟨rfl, hb⟩; have b4 := bD.trans (hb.mono bD.size); clear hb
        refine hK.out _ _ (trivial) (fun hHeld => ?_)
        clear hK K
        try simp only [List.getElem_toArray, List.getElem_cons_zero, List.getElem_cons_succ, Act.put, List.setIfInBounds_toArray, List.set_cons_zero, List.set_cons_succ]
        refine tH 5 (h := ?_)
        refine tH 6 (h := ?_)
        refine tH 7 (h := ?_)
        refine tH 8 (h := ?_)
        refine tH 9 (h := ?_)
        refine tH 10 (h := ?_)
        refine tH 11 (h := ?_)
        refine tH 12 (h := ?_)
        refine wpAnyH_done (by kernel_rfl) ?_ _
        refine NoPanic.normal ?_
        go_wp2_with fail
        go_ret3
        exact HPost.out _ _ _ HP2.out (HIn.out.below b4) (HBu.out.trans (b4.mono HBu.out.size))
      ·have dn1 : (Y != Dg) = true := by simpa using hYD
       have dn2 : (Y == Dg) = false := by simpa using hYD
       have hP := HE3.out
       rw [if_neg (fun hh => hYD hh.1)] at hP
       have HP2 := Lib.hid hP
       clear hP hYD
       refine wp_region_noPanic ?_
       refine wp_region_held_drew (S := (fun w' => True)) (by kernel_rfl) (trivial) (fun hHeld => ?_)
       refine tH 0 (h := ?_)
       refine tH 1 (h := ?_)
       refine tH 2 (h := ?_)
       refine tH 3 (h := ?_)
       refine wpAnyH_ready (rs := [4]) (by kernel_rfl) (by simp) ?_
       refine AllReadyH.cons rfl (fun K hK => ?_) AllReadyH.nil
       go_simp
       refine (HNum.out _).mono ?_; rintro e w4 ⟨rfl, hb⟩; have b4 := bD.trans (hb.mono bD.size); clear hb
       refine hK.out _ _ (trivial) (fun hHeld => ?_)
       clear hK K
       try simp only [List.getElem_toArray, List.getElem_cons_zero, List.getElem_cons_succ, Act.put, List.setIfInBounds_toArray, List.set_cons_zero, List.set_cons_succ]
       refine tH 5 (h := ?_)
       refine tH 6 (h := ?_)
       refine sH 7 (h := ?_)
       refine sH 8 (h := ?_)
       refine sH 9 (h := ?_)
       refine sH 10 (h := ?_)
       refine sH 11 (h := ?_)
       refine tH 12 (h := ?_)
       refine wpAnyH_done (by kernel_rfl) ?_ _
       refine NoPanic.normal ?_
       go_wp2_with fail
       go_ret3
       exact HPost.out _ _ _ HP2.out (HIn.out.below b4) (HBu.out.trans (b4.mono HBu.out.size))
     ·have hE0 : bE = false := by simpa using hE
      subst hE0
      clear hE
      go_upto_region 12 with fail
      go_cut [52] (fun s52 wx => s52 = .bool false ∧ wx = wr)
      case first =>
       by_cases h4 : 4 ≤ r
       ·have d4 : decide ((4 : Int) ≤ (r : Int)) = true := by simp; omega
        have dX : (X == [101, 110, 100, 32]) = false := (hend h4).symm
        clear hsl hend
        go_wp2_with fail
        go_meet
        exact ⟨rfl, rfl⟩
       ·have d4 : decide ((4 : Int) ≤ (r : Int)) = false := by simp; omega
        clear hsl hend
        go_wp2_with fail
        go_meet
        exact ⟨rfl, rfl⟩
      case rest =>
       obtain ⟨rfl, rfl⟩ := hcut
       have hE4 := HE2.out
       rw [if_neg (by rw [HbE.out]; decide)] at hE4
       have HE4 := Lib.hid hE4
       clear hx4 hsl hend hext hE4
       go_wp2_with fail
       go_loopw [12] (fun a wr => ∃ (j : Nat) (τ : Int), a = .int .i64 τ ∧ τ = (j : Int) - 1 ∧ j ≤ r ∧ Hid ((9 : UInt8) ∉ row.drop j) ∧ wr = wc) (fun a _ => (intOf a + 1).toNat)
       case atStart => exact ⟨r, _, rfl, rfl, by omega, Lib.hid (by rw [← HR.out, List.drop_length]; simp), rfl⟩
       case round =>
        obtain ⟨j, τ, rfl, hτ, hjr, HNt, rfl⟩ := hrel
        by_cases hj0 : j = 0
        ·obtain rfl : τ = -1 := by omega
         have hno := HNt.out
         rw [hj0, List.drop_zero] at hno
         have hP := HE4.out
         unfold takeN at hP
         rw [cutLast_no 9 row hno] at hP
         have HP2 := Lib.hid hP
         have hfin := HPost.out _ _ _ (show P = (C.map pR, k, 14) from HP2.out) HIn.out HBu.out
         have HFin := Lib.hid hfin
         have e1 : decide ((0 : Int) ≤ -1) = false := by decide
         have e2 : decide ((-1 : Int) < 0) = true := by decide
         clear hno hP hfin hτ hj0
         go_wp2_with fail
         go_ret3
         exact HFin.out
        ·obtain ⟨i, rfl⟩ : ∃ i, j = i + 1 := ⟨j - 1, by omega⟩
         obtain rfl : τ = (i : Int) := by omega
         have hir : (i : Int) < (r : Int) := by omega
         have hi0 : decide ((0 : Int) ≤ (i : Int)) = true := by simp
         have hirow : i < row.length := by rw [HR.out]; omega
         obtain ⟨c9, hc9⟩ : ∃ c, row[i] = c := ⟨_, rfl⟩
         have hget9 : ∀ h : i < (⟨row.toArray⟩ : ByteArray).size, (⟨row.toArray⟩ : ByteArray)[i]'h = c9 := fun h => hc9
         have HC9 := Lib.hid hc9
         clear hc9 hj0 hτ
         by_cases h9 : c9 = 9
         ·have dc9 : ((c9.toNat : Int) != 9) = false := by rw [h9]; rfl
          have dlt : decide ((i : Int) < 0) = false := by simp
          have hcut9 := cut_tab hirow (by rw [HC9.out]; exact h9) HNt.out
          have hxa := extract_take row i
          have hxb := ext_sub row (i + 1) r (by omega)
          rw [show r - (i + 1) = (row.drop (i + 1)).length by rw [List.length_drop, HR.out], List.take_length] at hxb
          have hal : (row.take i).length ≤ 50000 := by rw [List.length_take, HR.out]; omega
          have hbl : (row.drop (i + 1)).length ≤ 50000 := by rw [List.length_drop, HR.out]; omega
          obtain ⟨A, hA⟩ : ∃ A, row.take i = A := ⟨_, rfl⟩
          obtain ⟨B, hB⟩ : ∃ B, row.drop (i + 1) = B := ⟨_, rfl⟩
          rw [hA] at hcut9 hxa hal; rw [hB] at hcut9 hxb hbl
          have hP := HE4.out
          unfold takeN at hP
          rw [hcut9] at hP
          dsimp only at hP
          have HP2 := Lib.hid hP
          have hw1 : IntKind.i64.wrap ((i : Int) + 1) = (i : Int) + 1 := by rw [IntKind.wrap_i64]; omega
          have hq1 : (0 : Int) ≤ (i : Int) + 1 := by omega
          have hq2 : (i : Int) + 1 ≤ (r : Int) := by omega
          have hq3 : (i : Int) ≤ (r : Int) := by omega
          have hq4 : ((i : Int) + 1).toNat = i + 1 := by omega
          obtain ⟨bd, hbd⟩ : ∃ bd, digB B = bd := ⟨_, rfl⟩
          have hdig := fun w => rrdig_any B w (by omega)
          rw [hbd] at hdig
          simp only [hbd] at hP
          have HDg := Lib.hid hdig; have HP3 := Lib.hid hP
          clear hcut9 hA hB hP h9 hbd hdig HP2 HNt
          go_wp2_with fail
          refine (HDg.out _).mono ?_
          rintro e ws ⟨⟨xd, rfl⟩, hbs⟩
          have HBs := Lib.hid (HBu.out.trans (hbs.mono HBu.out.size)); have HIs := Lib.hid (HIn.out.below hbs); have Hbs := Lib.hid hbs
          clear hbs
          cases bd with
          | false =>
           have hP := HP3.out
           rw [if_neg (show ¬ false = true from Bool.false_ne_true)] at hP
           have hfin := HPost.out _ _ _ (show P = (C.map pR, k, 14) from hP) HIs.out HBs.out
           have HFin := Lib.hid hfin
           clear hP hfin
           go_wp2_with fail
           go_ret3
           exact HFin.out
          | true =>
           have hP := HP3.out
           rw [if_pos rfl] at hP
           have hsum := fun w => rrsum_any A w (by omega)
           obtain ⟨Z, hZ⟩ : ∃ Z, sumT A = Z := ⟨_, rfl⟩
           rw [hZ] at hsum
           simp only [hZ] at hP
           have HSm := Lib.hid hsum; have HP4 := Lib.hid hP
           have bD : Below ws.heap.size ws ws.drew := (Below.refl _ _).drew
           clear hP hsum hZ HP3 HDg
           go_wp2_with fail
           go_cut [108] (fun s108 wx => s108 = .bool (B != Z) ∧ Below ws.heap.size ws wx)
           case first =>
            refine wp_region_noPanic ?_
            refine wp_region_held_drew (S := (fun w' => True)) (by kernel_rfl) (trivial) (fun hHeld => ?_)
            refine tH 0 (h := ?_)
            refine tH 1 (h := ?_)
            refine tH 2 (h := ?_)
            refine tH 3 (h := ?_)
            refine tH 4 (h := ?_)
            refine tH 5 (h := ?_)
            refine tH 6 (h := ?_)
            refine wpAnyH_ready (rs := [7]) (by kernel_rfl) (by simp) ?_
            refine AllReadyH.cons rfl (fun K hK => ?_) AllReadyH.nil
            go_simp
            refine (HSm.out _).mono ?_; rintro e w4 ⟨rfl, hb⟩; have b4 := bD.trans (hb.mono bD.size); clear hb
            refine hK.out _ _ (trivial) (fun hHeld => ?_)
            clear hK K
            try simp only [List.getElem_toArray, List.getElem_cons_zero, List.getElem_cons_succ, Act.put, List.setIfInBounds_toArray, List.set_cons_zero, List.set_cons_succ]
            refine tH 8 (h := ?_)
            refine wpAnyH_done (by kernel_rfl) ?_ _
            refine NoPanic.normal ?_
            go_wp2_with fail
            go_meet
            exact ⟨rfl, b4⟩
           case rest =>
            obtain ⟨wv, hwv⟩ : ∃ u, u = wc := ⟨_, rfl⟩
            subst hwv
            obtain ⟨rfl, b4⟩ := hcut
            have HBv := Lib.hid (HBs.out.trans (b4.mono HBs.out.size)); have HIv := Lib.hid (HIs.out.below b4); have Hbv := Lib.hid (Hbs.out.trans (b4.mono Hbs.out.size))
            clear b4 bD
            by_cases hBZ : B = Z
            ·have dz1 : (B != Z) = false := by rw [hBZ]; simp
             have hP := HP4.out
             rw [if_pos hBZ] at hP
             have HP5 := Lib.hid hP
             obtain ⟨⟨pr, pe⟩, hPR⟩ : ∃ R, parseR s A = R := ⟨_, rfl⟩
             simp only [hPR] at hP
             have HPR := Lib.hid hPR; have HP6 := Lib.hid hP
             have hSv := blk_below Hbv.out (lt_of_blk HSu.out) HSu.out
             obtain ⟨s0, s1, s2, s3⟩ := cellsS hSv
             have ls := lt_of_blk hSv
             rw [dz1]
             clear hP hPR HP5 HP4 hBZ dz1
             go_wp2_with fail
             have bD : Below wv.heap.size wv wv.drew := (Below.refl _ _).drew
             go_cut [15, 16] (fun s15 s16 wx => ∃ (xb : Nat) (sv : Value), s15 = .pointer (some ⟨xb, 0, none⟩) ∧ s16 = .int .i64 pe ∧ wx.heap[xb]? = some (.cells #[.int .i64 pr.id, .int .i64 pr.ver, sv] 44 (0, 0)) ∧ Vec wx (fun b => wv.heap.size ≤ b) 1 encS sv pr.vals ∧ Below wv.heap.size wv wx)
             case first =>
              refine wp_region_noPanic ?_
              refine wp_region_held_drew (S := (fun w' => w'.cell? ⟨w.heap.size, 0, none⟩ = some vf ∧ w'.cell? ⟨w.heap.size, 1, none⟩ = some vt ∧ w'.cell? ⟨w.heap.size, 2, none⟩ = some vn ∧ w'.cell? ⟨w.heap.size, 3, none⟩ = some vs)) (by kernel_rfl) (⟨s0, s1, s2, s3⟩) (fun hHeld => ?_)
              refine tH 0 (h := ?_)
              refine tH 1 (h := ?_)
              refine tH 2 (h := ?_)
              refine tH 3 (h := ?_)
              refine wpAnyH_ready (rs := [4, 8]) (by kernel_rfl) (by simp) ?_
              refine AllReadyH.cons rfl (fun K hK => ?_) (AllReadyH.cons rfl (fun K hK => ?_) AllReadyH.nil)
              focus
               go_simp
               refine (rrparse_any S vf vt vn vs s A _ (HS.out.below (HBv.out.trans (bD.mono HBv.out.size))) HC.out (by omega)).mono ?_
               rw [HPR.out]
               rintro e w5 ⟨_, rfl, ⟨sv, rfl, hvv⟩, hb⟩
               dsimp only at hvv ⊢
               obtain ⟨as5, cs5, rfl⟩ := hvv.slice
               have b5 := bD.trans (hb.mono bD.size)
               have bA := b5.alloc b5.size (.cells #[.int .i64 0, .int .i64 0, .slice none 0 0] 44)
               refine hK.out _ _ ⟨(b5.cell (p := ⟨w.heap.size, 0, none⟩) ls).trans s0, (b5.cell (p := ⟨w.heap.size, 1, none⟩) ls).trans s1, (b5.cell (p := ⟨w.heap.size, 2, none⟩) ls).trans s2, (b5.cell (p := ⟨w.heap.size, 3, none⟩) ls).trans s3⟩ (fun hHeld => ?_)
               clear hK K
               try simp only [List.getElem_toArray, List.getElem_cons_zero, List.getElem_cons_succ, Act.put, List.setIfInBounds_toArray, List.set_cons_zero, List.set_cons_succ]
               refine tH 5 (h := ?_)
               refine tH 6 (h := ?_)
               refine tH 7 (h := ?_)
               refine wpAnyH_ready (rs := [8]) (by kernel_rfl) (by simp) ?_
               refine AllReadyH.cons rfl (fun K hK => ?_) AllReadyH.nil
               go_simp
               skip
               refine hK.out _ _ (⟨(bA.cell (p := ⟨w.heap.size, 0, none⟩) ls).trans s0, (bA.cell (p := ⟨w.heap.size, 1, none⟩) ls).trans s1, (bA.cell (p := ⟨w.heap.size, 2, none⟩) ls).trans s2, (bA.cell (p := ⟨w.heap.size, 3, none⟩) ls).trans s3⟩) (fun hHeld => ?_)
               clear hK K
               try simp only [List.getElem_toArray, List.getElem_cons_zero, List.getElem_cons_succ, Act.put, List.setIfInBounds_toArray, List.set_cons_zero, List.set_cons_succ]
               refine wph_name (fun W8 hW8 => ?_)
               have hg8 : W8.heap[w5.heap.size]? = some (.cells #[.int .i64 0, .int .i64 0, .slice none 0 0] 44 (0, 0)) := by rw [hW8]; exact blk_new rfl
               have hv8 : Vec W8 (fun b => wv.heap.size ≤ b ∧ b ≠ w5.heap.size) 1 encS (.slice as5 pr.vals.length cs5) pr.vals := by
                rw [hW8]
                refine hvv.move (by simp) fun b hb' hs => ⟨?_, ?_, by omega⟩
                ·exact ((Below.refl w5.heap.size w5).alloc (Nat.le_refl _) _).block b hb'
                ·have hs' := hs; simpa using hs'
               have hb8 : Below wv.heap.size wv W8 := by rw [hW8]; exact bA
               have hxb := b5.size
               obtain ⟨xb, hxe⟩ : ∃ xb, w5.heap.size = xb := ⟨_, rfl⟩
               rw [hxe] at hg8 hv8 hxb ⊢
               clear hHeld
               have hHeld : W8.cell? ⟨w.heap.size, 0, none⟩ = some vf ∧ W8.cell? ⟨w.heap.size, 1, none⟩ = some vt ∧ W8.cell? ⟨w.heap.size, 2, none⟩ = some vn ∧ W8.cell? ⟨w.heap.size, 3, none⟩ = some vs := ⟨(hb8.cell (p := ⟨w.heap.size, 0, none⟩) ls).trans s0, (hb8.cell (p := ⟨w.heap.size, 1, none⟩) ls).trans s1, (hb8.cell (p := ⟨w.heap.size, 2, none⟩) ls).trans s2, (hb8.cell (p := ⟨w.heap.size, 3, none⟩) ls).trans s3⟩
               clear hW8 hvv hb b5 bA hxe
              rotate_left 1
              focus
               go_simp
               have bA := bD.alloc bD.size (.cells #[.int .i64 0, .int .i64 0, .slice none 0 0] 44)
               refine hK.out _ _ ⟨(bA.cell (p := ⟨w.heap.size, 0, none⟩) ls).trans s0, (bA.cell (p := ⟨w.heap.size, 1, none⟩) ls).trans s1, (bA.cell (p := ⟨w.heap.size, 2, none⟩) ls).trans s2, (bA.cell (p := ⟨w.heap.size, 3, none⟩) ls).trans s3⟩ (fun hHeld => ?_)
               clear hK K
               try simp only [List.getElem_toArray, List.getElem_cons_zero, List.getElem_cons_succ, Act.put, List.setIfInBounds_toArray, List.set_cons_zero, List.set_cons_succ]
               refine wph_name (fun W8 hW8 => ?_)
               have hg7 : W8.heap[wv.heap.size]? = some (.cells #[.int .i64 0, .int .i64 0, .slice none 0 0] 44 (0, 0)) := by rw [hW8]; exact blk_new rfl
               have hb7 : Below wv.heap.size wv W8 := by rw [hW8]; exact bA
               have z7 : W8.heap.size = wv.heap.size + 1 := by rw [hW8]; simp
               clear hW8 hHeld
               have hHeld : W8.cell? ⟨w.heap.size, 0, none⟩ = some vf ∧ W8.cell? ⟨w.heap.size, 1, none⟩ = some vt ∧ W8.cell? ⟨w.heap.size, 2, none⟩ = some vn ∧ W8.cell? ⟨w.heap.size, 3, none⟩ = some vs := ⟨(hb7.cell (p := ⟨w.heap.size, 0, none⟩) ls).trans s0, (hb7.cell (p := ⟨w.heap.size, 1, none⟩) ls).trans s1, (hb7.cell (p := ⟨w.heap.size, 2, none⟩) ls).trans s2, (hb7.cell (p := ⟨w.heap.size, 3, none⟩) ls).trans s3⟩
               refine wpAnyH_ready (rs := [4]) (by kernel_rfl) (by simp) ?_
               refine AllReadyH.cons rfl (fun K hK => ?_) AllReadyH.nil
               go_simp
               refine (rrparse_any S vf vt vn vs s A _ (HS.out.below (HBv.out.trans (hb7.mono HBv.out.size))) HC.out (by omega)).mono ?_; rw [HPR.out]; rintro e w5 ⟨_, rfl, ⟨sv, rfl, hvv⟩, hb⟩; dsimp only at hvv ⊢; obtain ⟨as5, cs5, rfl⟩ := hvv.slice; have hb8 := hb7.trans (hb.mono hb7.size)
               refine hK.out _ _ (⟨(hb8.cell (p := ⟨w.heap.size, 0, none⟩) ls).trans s0, (hb8.cell (p := ⟨w.heap.size, 1, none⟩) ls).trans s1, (hb8.cell (p := ⟨w.heap.size, 2, none⟩) ls).trans s2, (hb8.cell (p := ⟨w.heap.size, 3, none⟩) ls).trans s3⟩) (fun hHeld => ?_)
               clear hK K
               try simp only [List.getElem_toArray, List.getElem_cons_zero, List.getElem_cons_succ, Act.put, List.setIfInBounds_toArray, List.set_cons_zero, List.set_cons_succ]
               refine tH 5 (h := ?_)
               refine tH 6 (h := ?_)
               refine tH 7 (h := ?_)
               have hg8 := blk_below hb (lt_of_blk hg7) hg7
               have hv8 : Vec w5 (fun b => wv.heap.size ≤ b ∧ b ≠ wv.heap.size) 1 encS (.slice as5 pr.vals.length cs5) pr.vals := hvv.move (Nat.le_refl _) fun b hb' hs => ⟨rfl, by have hs' : W8.heap.size ≤ b := hs; exact ⟨by omega, by omega⟩⟩
               have hxb : wv.heap.size ≤ wv.heap.size := Nat.le_refl _
               obtain ⟨xb, hxe⟩ : ∃ xb, wv.heap.size = xb := ⟨_, rfl⟩
               rw [hxe] at hg8
               have hv8' : Vec w5 (fun b => wv.heap.size ≤ b ∧ b ≠ xb) 1 encS (.slice as5 pr.vals.length cs5) pr.vals := by rw [← hxe]; exact hv8
               clear hv8
               have hv8 := hv8'
               have hxb : wv.heap.size ≤ xb := by omega
               clear hv8'
               clear hvv hb hg7 hb7 z7 bA
              all_goals
               have f0 := frozen_of_row _ _ 0 _ _ hg8; have f1 := frozen_of_row _ _ 1 _ _ hg8; have f2 := frozen_of_row _ _ 2 _ _ hg8
               obtain ⟨z0, z1, z2⟩ := cells3 hg8
               have lx8 := lt_of_blk hg8
               first | rw [hxe] | skip
               refine wpAnyH_ready (rs := [9]) (by kernel_rfl) (by simp) ?_
               refine AllReadyH.cons rfl (fun K hK => ?_) AllReadyH.nil
               go_simp
               skip
               refine hK.out _ _ (⟨(cell_far (by show w.heap.size ≠ xb; omega)).trans ((cell_far (by show w.heap.size ≠ xb; omega)).trans ((cell_far (by show w.heap.size ≠ xb; omega)).trans hHeld.1)), (cell_far (by show w.heap.size ≠ xb; omega)).trans ((cell_far (by show w.heap.size ≠ xb; omega)).trans ((cell_far (by show w.heap.size ≠ xb; omega)).trans hHeld.2.1)), (cell_far (by show w.heap.size ≠ xb; omega)).trans ((cell_far (by show w.heap.size ≠ xb; omega)).trans ((cell_far (by show w.heap.size ≠ xb; omega)).trans hHeld.2.2.1)), (cell_far (by show w.heap.size ≠ xb; omega)).trans ((cell_far (by show w.heap.size ≠ xb; omega)).trans ((cell_far (by show w.heap.size ≠ xb; omega)).trans hHeld.2.2.2))⟩) (fun hHeld => ?_)
               clear hK K
               try simp only [List.getElem_toArray, List.getElem_cons_zero, List.getElem_cons_succ, Act.put, List.setIfInBounds_toArray, List.set_cons_zero, List.set_cons_succ]
               refine tH 10 (h := ?_)
               refine wpAnyH_done (by kernel_rfl) ?_ _
               refine NoPanic.normal ?_
               go_wp2_with fail
               go_meet
               refine ⟨xb, _, rfl, rfl, blk_set (i := 2) (v := .slice as5 pr.vals.length cs5) (blk_set (i := 1) (v := .int .i64 pr.ver) (blk_set (i := 0) (v := .int .i64 pr.id) hg8)), ?_, ((hb8.setCell (p := ⟨xb, 0, none⟩) hxb _).setCell (p := ⟨xb, 1, none⟩) hxb _).setCell (p := ⟨xb, 2, none⟩) hxb _⟩
               refine hv8.move (by simp [World.setCell]) fun b _ hs => ⟨?_, hs.1⟩
               exact ((heap_setCell_other _ _ _ _ (by show b ≠ xb; exact hs.2)).trans (heap_setCell_other _ _ _ _ (by show b ≠ xb; exact hs.2))).trans (heap_setCell_other _ _ _ _ (by show b ≠ xb; exact hs.2))
             case rest =>
              obtain ⟨wz, hwz⟩ : ∃ u, u = wc := ⟨_, rfl⟩
              subst hwz
              obtain ⟨xb, sv, rfl, rfl, gx, hvv, b5⟩ := hcut
              obtain ⟨as5, cs5, rfl⟩ := hvv.slice
              have HBz := Lib.hid (HBv.out.trans (b5.mono HBv.out.size)); have HIz := Lib.hid (HIv.out.below b5); have Hbz := Lib.hid (Hbv.out.trans (b5.mono Hbv.out.size))
              have hvz : wv.heap.size ≤ wz.heap.size := b5.size
              have hWz := HIv.out.own.2.size
              have HGX := Lib.hid gx
              have hoff : ∀ g, (Value.slice av C.length cv).ownBlock = some g → g < wv.heap.size := fun g hg => by
               rcases HIv.out.own.1.2 with ⟨e, _⟩ | ⟨g', cap', cur, e, _, hh, _⟩
               ·rw [e] at hg; cases hg
               ·rw [e] at hg
                have : g' = g := by simpa [Value.ownBlock] using hg
                rw [← this]; exact lt_of_blk hh
              have HVV := Lib.hid (hvv.move (w' := wz) (S' := fun b => w1.heap.size ≤ b ∧ some b ≠ (Value.slice av C.length cv).ownBlock) (Nat.le_refl _) fun b _ hs => ⟨rfl, by have hs' : wv.heap.size ≤ b := hs; omega, fun e => by have hs' : wv.heap.size ≤ b := hs; have := hoff b e.symm; omega⟩)
              clear gx hvv b5 hoff bD s0 s1 s2 s3
              by_cases hpe : pe = 0
              ·subst hpe
               have hP := HP6.out
               rw [if_pos rfl] at hP
               by_cases h64 : C.length = 64
               ·have d64 : ((C.length : Int) == 64) = true := by rw [h64]; rfl
                rw [if_pos (show (C.map pR).length = 64 by rw [List.length_map]; exact h64)] at hP
                have hfin := HPost.out _ _ _ (show P = (C.map pR, k, 1) from hP) HIz.out HBz.out
                have HFin := Lib.hid hfin
                clear hP hfin h64
                go_wp2_with fail
                go_ret3
                exact HFin.out
               ·have d64 : ((C.length : Int) == 64) = false := beq_eq_false_iff_ne.2 (by omega)
                rw [if_neg (show ¬ (C.map pR).length = 64 by rw [List.length_map]; exact h64)] at hP
                have HP7 := Lib.hid hP
                clear hP HP6
                obtain ⟨x0, x1, x2⟩ := cells3 HGX.out
                have lx := lt_of_blk HGX.out
                obtain ⟨bn, hbn⟩ : ∃ bn, notB (lastId (C.map pR)) pr.id = bn := ⟨_, rfl⟩
                have hP := HP7.out
                simp only [hbn] at hP
                have HP8 := Lib.hid hP
                have HBn := Lib.hid hbn
                have bD : Below wz.heap.size wz wz.drew := (Below.refl _ _).drew
                clear hP HP7 hbn
                go_wp2_with fail
                go_cut [143] (fun s143 wx => s143 = .bool bn ∧ Below wz.heap.size wz wx)
                case first =>
                 by_cases hC0 : C.length = 0
                 ·have d0 : decide ((0 : Int) < (C.length : Int)) = false := decide_eq_false (by omega)
                  have d0' : decide (0 < C.length) = false := decide_eq_false (by omega)
                  have hb : bn = false := by
                   rw [← HBn.out, List.length_eq_zero_iff.1 hC0]; rfl
                  subst hb
                  clear hC0
                  refine wp_region_noPanic ?_
                  refine wp_region_held_drew (S := (fun w' => True)) (by kernel_rfl) (trivial) (fun hHeld => ?_)
                  refine tH 0 (h := ?_)
                  refine tH 1 (h := ?_)
                  refine tH 2 (h := ?_)
                  refine tH 3 (h := ?_)
                  refine sH 4 (h := ?_)
                  refine sH 5 (h := ?_)
                  refine sH 6 (h := ?_)
                  refine sH 7 (h := ?_)
                  refine sH 8 (h := ?_)
                  refine sH 9 (h := ?_)
                  refine sH 10 (h := ?_)
                  refine sH 11 (h := ?_)
                  refine sH 12 (h := ?_)
                  refine sH 13 (h := ?_)
                  refine tH 14 (h := ?_)
                  refine wpAnyH_done (by kernel_rfl) ?_ _
                  refine NoPanic.normal ?_
                  go_wp2_with fail
                  go_meet
                  exact ⟨rfl, bD⟩
                 ·have d0 : decide ((0 : Int) < (C.length : Int)) = true := decide_eq_true (by omega)
                  have d0' : decide (0 < C.length) = true := decide_eq_true (by omega)
                  obtain ⟨l1, hl1⟩ : ∃ l1, C.length - 1 = l1 := ⟨_, rfl⟩
                  have hlC : l1 < C.length := by omega
                  obtain ⟨y, hy⟩ : ∃ y, C[l1] = y := ⟨_, rfl⟩
                  obtain ⟨b, off, ea, lb, gy⟩ := (OwnV.vec (size := 3) (enc := encRV) (fun _ => rfl) HIz.out.own).get l1 hlC
                  rw [hy] at gy
                  have y0 := gy 0 _ rfl
                  rw [Nat.add_zero] at y0
                  subst ea
                  have hlast : lastId (C.map pR) = some y.id := by
                   unfold lastId
                   rw [List.getLast?_map, List.getLast?_eq_getElem?, hl1, List.getElem?_eq_getElem hlC, hy]; rfl
                  have hwl : IntKind.i64.wrap ((C.length : Int) - 1) = (l1 : Int) := by rw [IntKind.wrap_i64]; omega
                  have hlI : (l1 : Int) < (C.length : Int) := by omega
                  have dle : decide (pr.id ≤ y.id) = bn := by rw [← HBn.out, hlast]; rfl
                  clear hl1 hy gy hlast hC0
                  refine wp_region_noPanic ?_
                  refine wp_region_held_drew (S := (fun w' => w'.cell? ⟨b, off + l1 * 3, none⟩ = some (.int .i64 y.id) ∧ w'.cell? ⟨xb, 0, none⟩ = some (.int .i64 pr.id))) (by kernel_rfl) (⟨y0, x0⟩) (fun hHeld => ?_)
                  refine tH 0 (h := ?_)
                  refine tH 1 (h := ?_)
                  refine tH 2 (h := ?_)
                  refine tH 3 (h := ?_)
                  refine tH 4 (h := ?_)
                  refine tH 5 (h := ?_)
                  refine tH 6 (h := ?_)
                  refine tH 7 (h := ?_)
                  refine tH 8 (h := ?_)
                  refine tH 9 (h := ?_)
                  refine tH 10 (h := ?_)
                  refine tH 11 (h := ?_)
                  refine tH 12 (h := ?_)
                  refine tH 13 (h := ?_)
                  refine tH 14 (h := ?_)
                  refine wpAnyH_done (by kernel_rfl) ?_ _
                  refine NoPanic.normal ?_
                  go_wp2_with fail
                  go_meet
                  exact ⟨rfl, bD⟩
                case rest =>
                 obtain ⟨wy, hwy⟩ : ∃ u, u = wc := ⟨_, rfl⟩
                 subst hwy
                 obtain ⟨rfl, b6⟩ := hcut
                 have HBy := Lib.hid (HBz.out.trans (b6.mono HBz.out.size)); have HIy := Lib.hid (HIz.out.below b6); have Hby := Lib.hid (Hbz.out.trans (b6.mono Hbz.out.size))
                 have HVy := Lib.hid (HVV.out.below b6); have HGy := Lib.hid (blk_below b6 lx HGX.out)
                 clear b6 bD x0 x1 x2 lx
                 cases bn with
                 | true =>
                  have hP := HP8.out
                  rw [if_pos rfl] at hP
                  have hfin := HPost.out _ _ _ (show P = (C.map pR, k, 12) from hP) HIy.out HBy.out
                  have HFin := Lib.hid hfin
                  clear hP hfin
                  go_wp2_with fail
                  go_ret3
                  exact HFin.out
                 | false =>
                  have hP := HP8.out
                  rw [if_neg (show ¬ false = true from Bool.false_ne_true), if_pos rfl] at hP
                  have hP2 : P = readA s t.length ((C ++ [(⟨pr.id, pr.ver, as5, pr.vals.length, cs5, pr.vals⟩ : RV)]).map pR) (k + r + 1) (rowsL (t.drop (k + r + 1))) := by
                   rw [hP, List.map_append]
                   rw [show t.length - (t.drop (k + r + 1)).length = k + r + 1 by rw [List.length_drop]; omega]
                   rfl
                  have HP9 := Lib.hid hP2
                  obtain ⟨x0, x1, x2⟩ := cells3 HGy.out
                  have lx := lt_of_blk HGy.out
                  have bA := (Below.refl wy.heap.size wy).alloc (Nat.le_refl _) (.cells #[.int .i64 pr.id, .int .i64 pr.ver, .slice as5 pr.vals.length cs5] 44)
                  have HIA := Lib.hid (HIy.out.below bA); have HVA := Lib.hid (HVy.out.below bA); have HbA := Lib.hid bA
                  have HRd := Lib.hid (show Reads (wy.alloc (.cells #[.int .i64 pr.id, .int .i64 pr.ver, .slice as5 pr.vals.length cs5] 44)) 3 (.slice (some ⟨wy.heap.size, 0, none⟩) 1 1) ([(⟨pr.id, pr.ver, as5, pr.vals.length, cs5, pr.vals⟩ : RV)]).length ([(⟨pr.id, pr.ver, as5, pr.vals.length, cs5, pr.vals⟩ : RV)].flatMap encRV) from reads_block (size := 3) (xs := [(⟨pr.id, pr.ver, as5, pr.vals.length, cs5, pr.vals⟩ : RV)].flatMap encRV) (t := 44) (fr := (0, 0)) (blk_new rfl) rfl)
                  have hcn : C.length + ([(⟨pr.id, pr.ver, as5, pr.vals.length, cs5, pr.vals⟩ : RV)]).length ≤ 1000000000 := by simp; omega
                  have hw1' : IntKind.i64.wrap ((k : Int) + (r : Int) + 1) = (k : Int) + (r : Int) + 1 := by rw [IntKind.wrap_i64]; omega
                  have hkr : k + r + 1 ≤ t.length := by omega
                  have hC65 : C.length + 1 ≤ 64 := by omega
                  clear hP hP2 HP8 bA
                  go_wp2_with (at_builtin; refine wpList_append_at rfl (.tmp 146) (.tmp 148) 35 rfl 44 (.agg #[.int .i64 0, .int .i64 0, .slice none 0 0]) 3 40 encRV (fun _ => rfl) one_encRV Tryz.underlying35 infoR rfl (by decide) (by decide) (w0 := w1) (v := .slice av C.length cv) (A := C) (B := [(⟨pr.id, pr.ver, as5, pr.vals.length, cs5, pr.vals⟩ : RV)]) rfl HIA.out.own rfl HRd.out hcn ?_; intro v2 w2 ho2 hk2 hz2 hat2)
                  go_roundw
                  case rel =>
                   have hadd := RIn.add HIA.out ho2 hk2 hz2 hat2 HVA.out
                   exact ⟨_, k + r + 1, by go_num, hkr, by simp; omega, hadd, ho2.2, HP9⟩
                  case measure => simp [intOf]; omega
              ·have hne : (pe != 0) = true := by simpa using hpe
               have hP := HP6.out
               rw [if_neg hpe, if_neg (show ¬ (noRec, pe).2 = 0 from hpe)] at hP
               have hfin := HPost.out _ _ _ (show P = (C.map pR, k, pe) from hP) HIz.out HBz.out
               have HFin := Lib.hid hfin
               clear hP hfin hpe
               go_wp2_with fail
               go_ret3
               exact HFin.out
            ·have dz1 : (B != Z) = true := by simpa using hBZ
             have hP := HP4.out
             rw [if_neg hBZ] at hP
             have hfin := HPost.out _ _ _ (show P = (C.map pR, k, 16) from hP) HIv.out HBv.out
             have HFin := Lib.hid hfin
             rw [dz1]
             clear hP hfin hBZ dz1
             go_wp2_with fail
             go_ret3
             exact HFin.out
         ·have dc9 : ((c9.toNat : Int) != 9) = true := by
           rw [bne_iff_ne]
           intro hh
           exact h9 (UInt8.toNat_inj.1 (by show c9.toNat = 9; omega))
          have hgr := drop_grow hirow (by rw [HC9.out]; exact h9) HNt.out
          have HGr := Lib.hid hgr
          have hw2 : IntKind.i64.wrap ((i : Int) - 1) = (i : Int) - 1 := by rw [IntKind.wrap_i64]; omega
          clear hgr h9
          go_wp2_with fail
          go_roundw
          case rel => exact ⟨i, _, rfl, rfl, by omega, HGr, trivial⟩
          case measure => first | (simp [intOf]; done) | (simp [intOf]; omega)
    ·have dc : ((c.toNat : Int) != 10) = true := by
      rw [bne_iff_ne]
      intro hh
      exact h10 (UInt8.toNat_inj.1 (by show c.toNat = 10; omega))
     have hgr := take_grow hke hlt (by rw [HCc.out]; exact h10) HNo.out
     have HGr := Lib.hid hgr
     clear hgr h10
     go_wp2_with fail
     go_roundw
     case rel => exact ⟨e + 1, by go_num, by omega, by omega, HGr, trivial⟩
     case measure => simp [intOf]; omega
   ·have hq : decide ((e : Int) < (t.length : Int)) = false := by simp; omega
    obtain rfl : e = t.length := by omega
    have hno := HNo.out
    rw [List.take_of_length_le (by rw [List.length_drop]; omega)] at hno
    have hP := HE.out
    rw [rows_over hno, readA] at hP
    have HP2 := Lib.hid hP
    have dne : ((t.length : Int) == (t.length : Int)) = true := by simp
    clear hno hP
    go_wp2_with fail
    go_ret3
    exact HPost.out _ _ _ HP2.out HIn.out HBu.out
end
section
set_option maxRecDepth 100000
open Go.RowKit Cal
attribute [local go_sem] toList_mk mk_size
set_option maxHeartbeats 4000000 in
theorem rrfind_any (S : Nat → Prop) (v : Value) (R : List RecL) (x : Int) (w : World) (hr : RecsVec w S v R) (hn : R.length ≤ 1000000) :
  Calls Tryz.prog 29 #[v, .int .i64 x] w fun e w' => e = .returned (.int .i64 (findA x 0 R)) ∧ Below w.heap.size w w' := by
 obtain ⟨a, cap, rfl⟩ := hr.slice
 have HR := Lib.hid hr
 obtain ⟨E, hE⟩ : ∃ E, findA x 0 R = E := ⟨_, rfl⟩
 rw [hE]
 have HE := Lib.hid hE
 clear hr hE
 go_enter Tryz.func29, Tryz.ntmps29
 go_wp2_with fail
 go_loopw [5] (fun i wr => ∃ j : Nat, i = .int .i64 j ∧ j ≤ R.length ∧ Hid (findA x j (R.drop j) = E) ∧ w = wr) (fun i _ => R.length - (intOf i).toNat)
 case atStart => exact ⟨0, rfl, by omega, HE, rfl⟩
 case round =>
  obtain ⟨j, rfl, hj, HT, rfl⟩ := hrel
  by_cases hlt : j < R.length
  ·have hq : decide ((j : Int) < R.length) = true := by simp; omega
   have hji : (j : Int) < (R.length : Int) := by omega
   obtain ⟨b, off, id, ver, aa, nn, cc, vals, rfl, lb, c0, c1, c2, hRj, hvv⟩ := HR.out.at j hlt
   have hT := HT.out
   rw [List.drop_eq_getElem_cons hlt, hRj, findA_cons] at hT
   have HT2 := Lib.hid hT
   clear hT hRj hvv
   by_cases he : id = x
   ·have hE2 : E = j := by rw [← HT2.out]; exact if_pos he
    subst hE2
    have d : (id == x) = true := by simpa using he
    go_wp2_with fail
    go_ret
    exact ⟨rfl, Below.refl _ _⟩
   ·have d : (id == x) = false := by simpa using he
    have hE2 : findA x (j + 1) (R.drop (j + 1)) = E := by rw [← HT2.out]; exact (if_neg he).symm
    have HE2 := Lib.hid hE2
    clear hE2
    go_wp2_with fail
    go_roundw
    case rel => exact ⟨j + 1, by go_num, by omega, HE2, trivial⟩
    case measure => simp [intOf]; omega
  ·have hq : decide ((j : Int) < R.length) = false := by simp; omega
   obtain rfl : j = R.length := by omega
   have hT := HT.out
   rw [List.drop_length, findA] at hT
   subst hT
   go_wp2_with fail
   go_ret
   exact ⟨rfl, Below.refl _ _⟩
/-- what Line gives -/
def lineN (s : SchemaL) (r : RecL) : List UInt8 × Int := if checkN s r = 0 then (lineR r, 0) else ([], checkN s r)
/-- what File gives -/
def fileN (s : SchemaL) (R : List RecL) : List UInt8 × Int := if allN s R = 0 then (fileR R, 0) else ([], allN s R)
set_option maxHeartbeats 4000000 in
theorem rrLine_any (S : Nat → Prop) (vf vt vn vs : Value) (s : SchemaL) (r : RecL) (sv : Value) (w : World) (h : SchemaAt w S vf vt vn vs s) (hv : Vec w Any1 1 encS sv r.vals) (hs : ∀ x ∈ r.vals, x.length ≤ 1000000) (hn : r.vals.length ≤ 1000000) :
  Calls Tryz.prog 30 #[.agg #[vf, vt, vn, vs], .agg #[.int .i64 r.id, .int .i64 r.ver, sv]] w fun e w' => e = .returned (.tuple #[strV (lineN s r).1, .int .i64 (lineN s r).2]) ∧ Below w.heap.size w w' := by
 unfold lineN
 by_cases hcc : checkN s r = 0
 ·rw [if_pos hcc]
  have hck : 1 ≤ r.id ∧ r.id ≤ 1048576 ∧ 1 ≤ r.ver ∧ r.ver ≤ 1048576 := by
   have := (checkN_ok hcc).2.1
   unfold numberedB at this
   simpa [and_assoc] using this
  have hsh : ∀ t ∈ r.vals, t.length ≤ 64 := check_short hcc
  have h5 : r.vals.length ≤ 5 := by
   have g := checkN_ok hcc
   have := (check_fields g.1).1.2
   omega
  have HCk := Lib.hid hck; have HSh5 := Lib.hid hsh; have H5 := Lib.hid h5
  obtain ⟨L, hL⟩ : ∃ L, lineR r = L := ⟨_, rfl⟩
  rw [hL]
  have HLn := Lib.hid hL
  obtain ⟨a, cap, rfl⟩ := hv.slice
  have HV := Lib.hid hv; have HS := Lib.hid h; have HC := Lib.hid hcc; have HSh := Lib.hid hs
  obtain ⟨id, ver, vals⟩ := r
  dsimp only at HV HSh hn HCk HSh5 H5 ⊢
  have dz : ((0 : Int) != 0) = false := rfl
  clear hv h hcc hs hck hsh h5 hL
  go_enter Tryz.func30, Tryz.ntmps30
  go_wp2_with fail
  refine wp_calls_world (fun W hW => ?_)
  have hb0 : Below w.heap.size w W := by rw [hW]; exact ((Below.refl w.heap.size w).alloc (Nat.le_refl _) _).alloc (by simp) _
  have hr0 : W.heap[w.heap.size + 1]? = some (.cells #[.int .i64 id, .int .i64 ver, .slice a vals.length cap] 44 (0, 0)) := by rw [hW]; exact blk_new (by simp)
  clear hW
  refine (rrcheck_any S Any1 _ _ _ _ s ⟨id, ver, vals⟩ _ W (HS.out.below hb0) (HV.out.below hb0) HSh.out hn).mono ?_
  rw [HC.out]
  rintro e w1 ⟨rfl, hb⟩
  have HB1 := Lib.hid (hb0.trans (hb.mono hb0.size)); have hr1 := blk_below hb (lt_of_blk hr0) hr0
  obtain ⟨r0, r1, r2⟩ := cells3 hr1
  clear hb hb0 hr0 hr1
  go_wp2_with fail
  refine (rrline_yes Any1 ⟨id, ver, vals⟩ _ w1 (HV.out.below HB1.out) HCk.out HSh5.out H5.out).mono ?_
  rw [HLn.out]
  rintro e w2 ⟨rfl, hb⟩
  have HB2 := Lib.hid (HB1.out.trans (hb.mono HB1.out.size))
  clear hb
  go_wp2_with fail
  go_ret2
  exact ⟨rfl, HB2.out⟩
 ·rw [if_neg hcc]
  obtain ⟨c, hc⟩ : ∃ c, checkN s r = c := ⟨_, rfl⟩
  rw [hc] at hcc ⊢
  obtain ⟨a, cap, rfl⟩ := hv.slice
  have HV := Lib.hid hv; have HS := Lib.hid h; have HC := Lib.hid hc; have HSh := Lib.hid hs
  obtain ⟨id, ver, vals⟩ := r
  dsimp only at HV HSh hn ⊢
  have dz : (c != 0) = true := by simpa using hcc
  clear hv h hcc hs hc
  go_enter Tryz.func30, Tryz.ntmps30
  go_wp2_with fail
  refine wp_calls_world (fun W hW => ?_)
  have hb0 : Below w.heap.size w W := by rw [hW]; exact ((Below.refl w.heap.size w).alloc (Nat.le_refl _) _).alloc (by simp) _
  clear hW
  refine (rrcheck_any S Any1 _ _ _ _ s ⟨id, ver, vals⟩ _ W (HS.out.below hb0) (HV.out.below hb0) HSh.out hn).mono ?_
  rw [HC.out]
  rintro e w1 ⟨rfl, hb⟩
  have HB1 := Lib.hid (hb0.trans (hb.mono hb0.size))
  clear hb hb0
  go_wp2_with fail
  go_ret2
  exact ⟨rfl, HB1.out⟩
theorem rLine_any (S : Nat → Prop) (vf vt vn vs : Value) (s : SchemaL) (r : RecL) (sv : Value) (w : World) (h : SchemaAt w S vf vt vn vs s) (hv : Vec w Any1 1 encS sv r.vals) (hck : checkS s = 0) (hvr : VarsAt w) (hs : ∀ x ∈ r.vals, x.length ≤ 1000000) (hn : r.vals.length ≤ 1000000) :
  Calls Tryz.prog 13 #[.agg #[vf, vt, vn, vs], .agg #[.int .i64 r.id, .int .i64 r.ver, sv]] w fun e w' => e = .returned (.tuple #[strV (lineN s r).1, .int .i64 (lineN s r).2]) ∧ Below w.heap.size w w' := by
 unfold lineN
 by_cases hc : checkN s r = 0
 ·rw [if_pos hc]; exact rLineV_yes S vf vt vn vs s r sv w h hv hc hck hvr
 ·rw [if_neg hc]; exact rLine_no S vf vt vn vs s r sv w h hv hc hs hn
theorem rFile_any (S T : Nat → Prop) (vf vt vn vs rv : Value) (s : SchemaL) (R : List RecL) (w : World) (h : SchemaAt w S vf vt vn vs s) (hr : RecsVec w T rv R) (hvr : VarsAt w) (hdb : DbAt w) (hl : ∀ r ∈ R, ∀ x ∈ r.vals, x.length ≤ 1000000) (hn : ∀ r ∈ R, r.vals.length ≤ 1000000) (hR : R.length ≤ 1000000) :
  Calls Tryz.prog 10 #[.agg #[vf, vt, vn, vs], rv] w fun e w' => e = .returned (.tuple #[strV (fileN s R).1, .int .i64 (fileN s R).2]) ∧ Below w.heap.size w w' := by
 unfold fileN
 by_cases hc : allN s R = 0
 ·rw [if_pos hc]; exact rfile_yes S T vf vt vn vs rv s R w h hr hc hvr hdb
 ·rw [if_neg hc]; exact rfile_no S T vf vt vn vs rv s R w h hr hc hl hn hR
theorem rrFile_any (S T : Nat → Prop) (vf vt vn vs rv : Value) (s : SchemaL) (R : List RecL) (w : World) (h : SchemaAt w S vf vt vn vs s) (hr : RecsVec w T rv R) (hl : ∀ r ∈ R, ∀ x ∈ r.vals, x.length ≤ 1000000) (hn : ∀ r ∈ R, r.vals.length ≤ 1000000) (hR : R.length ≤ 1000000) :
  Calls Tryz.prog 25 #[.agg #[vf, vt, vn, vs], rv] w fun e w' => e = .returned (.tuple #[strV (fileN s R).1, .int .i64 (fileN s R).2]) ∧ Below w.heap.size w w' := by
 unfold fileN
 by_cases hc : allN s R = 0
 ·rw [if_pos hc]; exact rrfile_yes S T vf vt vn vs rv s R w h hr hc
 ·rw [if_neg hc]; exact rrfile_no S T vf vt vn vs rv s R w h hr hc hl hn hR
end
section
open Go.RowKit
theorem owns_prefix {w : World} {base e size g n m cap : Nat} {xs news : List Value} (h : w.ownsRow base e size (.slice (some ⟨g, 0, none⟩) (n + m) cap) (n + m) (xs ++ news)) (hl : xs.length = n * size) :
  w.ownsRow base e size (.slice (some ⟨g, 0, none⟩) n cap) n xs := by
 refine ⟨hl, ?_⟩
 rcases h.2 with ⟨h0, _⟩ | ⟨g', cap', cur, hv, hb, hg, hc, hm, hz, ht⟩
 ·cases h0
 ·cases hv
  refine .inr ⟨g, cap, cur, rfl, hb, hg, by omega, hm, hz, ?_⟩
  have h1 : (cur.toList.take ((n + m) * size)).take (n * size) = xs := by rw [ht, ← hl, List.take_left]
  rw [List.take_take, Nat.min_eq_left (Nat.mul_le_mul_right _ (Nat.le_add_right _ _))] at h1
  exact h1
/-- the run: what the old slice owned it owns still -/
theorem run_append_keep {P : Program} (w : World) (base : Nat) (t ty e : TypeId) (i : TypeInfo) (z : Value) (size bytes : Nat) (ht : P.underlying t = some (.slice e)) (hi : P.info? e = some i) (hz : i.zero = some z)
  (hsize : i.size = size) (hby : i.bytes = bytes) (hzs : z.cells.size = size) (hsz : 0 < size)
  (v : Value) (n : Nat) (xs : List Value) (hown : w.ownsRow base e size v n xs)
  (a : Addr) (m c : Nat) (news : List Value) (hl : news.length = m * size) (hnews : ∀ j u, news[j]? = some u → w.cell? (a.add j) = some u) (h1 : ∀ u ∈ news, u.oneCell' = true)
  (h63 : n + m ≤ maxLen) (hbytes : (n + m) * bytes ≤ 140737488355328) (hbase : base ≤ w.heap.size) :
  ∃ v' w', (Builtin.append_ #[t, t] ty #[v, .slice (some a) m c]).run P w = .ok v' w' ∧ w'.ownsRow base e size v' (n + m) (xs ++ news) ∧ w.grownBy w' v.ownBlock ∧ w'.ownsRow base e size v n xs ∧ (v'.ownBlock = v.ownBlock ∨ v'.ownBlock = some w.heap.size) := by
 obtain ⟨v', w', hr, ho, hg, _, hat⟩ := run_append_own_at (P := P) w base t ty e i z size bytes ht hi hz hsize hby hzs hsz v n xs hown a m c news hl hnews h1 h63 hbytes hbase
 refine ⟨v', w', hr, ho, hg, ?_, hat⟩
 have hown0 := hown
 rcases hown.2 with ⟨rfl, rfl⟩ | ⟨g, cap, cur, rfl, hb, hgg, hnc, hm, hcs, htk⟩
 ·have : xs = [] := List.length_eq_zero_iff.1 (by rw [hown.1]; simp)
  subst this
  exact World.ownsRow_nil w' _ e size
 ·by_cases hroom : n + m ≤ cap
  ·have hrow : ∀ k, k < cap * size → (w.cell? ⟨g, k, none⟩).isSome = true := fun k hk => by
    rw [cell_of_row w g k cur e (0, 0) hgg, Array.getElem?_eq_getElem (by omega)]; rfl
   have hnm : news.length = m * size := hl
   have hbd : ∀ j, j < news.length → n * size + j < cap * size := fun j hj => by
    have h2 : (n + m) * size ≤ cap * size := Nat.mul_le_mul_right _ hroom
    rw [Nat.add_mul] at h2; omega
   have hr2 := run_append_room_cells (P := P) w t ty e i ht hi g 0 n cap a m c news (by rw [hsize]; exact hl) hnews h1 hroom
    (fun j hj => by rw [Nat.zero_add, hsize]; exact hrow _ (hbd j hj)) (fun j hj => frozen_of_row _ _ _ _ _ hgg)
   rw [hr] at hr2
   cases hr2
   exact owns_prefix ho hown.1
  ·have hcells : ∀ j u, xs[j]? = some u → w.cell? ((⟨g, 0, none⟩ : Addr).add j) = some u := hown0.cells rfl
   obtain ⟨v2, w2, hr2, _, hg2⟩ := run_append_arg_grows (P := P) w t ty e i z size bytes ht hi hz hsize hby hzs hsz ⟨g, 0, none⟩ n cap xs hown.1 hcells a m c news hl hnews (by omega) h63 hbytes
   rw [hr] at hr2
   cases hr2
   exact hown0.kept hg2 (.inr (by simp [Value.ownBlock]))
section
variable {α : Type} {P : Program} {w : World} {o : Oper} {a : Act} {K : Act → World → Prop} {Q : Exit → Act → World → Prop}
/-- as wp_append_m; the old slice reads as before, too; and where the new one lies -/
theorem wp_append_keep (s x : Operand) (t : TypeId) (ho : o.op = .call { callee := .builtin .append, args := #[s, x], argTypes := #[t, t] })
  (D e : Nat) (z : Value) (size bytes : Nat) (enc : α → List Value) (hk : ∀ x, (enc x).length = size) (h1 : ∀ x, ∀ u ∈ enc x, u.oneCell' = true) (ht : P.underlying t = some (.slice e)) (hinfo : (P.info? e).map (fun i => (i.zero, i.size, i.bytes)) = some (some z, size, bytes))
  (hzs : z.cells.size = size) (hsz : 0 < size) (hby : bytes ≤ 128) {wA : World} {v u : Value} {A B : List α} (hs : a.eval s = v) (hown : OwnM D e size enc wA v A w) (hx : a.eval x = u) (hr : Reads w size u B.length (B.flatMap enc)) (hn : A.length + B.length ≤ 1000000000)
  (h : ∀ v' w', OwnM D e size enc wA v' (A ++ B) w' → OwnM D e size enc wA v A w' → (∀ k o, some k ≠ v.ownBlock → w.heap[k]? = some o → w'.heap[k]? = some o) → w.heap.size ≤ w'.heap.size → (v'.ownBlock = v.ownBlock ∨ v'.ownBlock = some w.heap.size) → K (a.put o.dst v') w') : Oper.wp P o a w K Q := by
 obtain ⟨i, hi, hz, h2, h3⟩ := info_parts hinfo
 obtain ⟨ad, c, rfl, hl, hc⟩ := hr
 by_cases hm : B.length = 0
 ·have hB : B = [] := List.length_eq_zero_iff.1 hm
  subst hB
  refine wp_append_zero s x t ho wA.heap.size e i size ht hi v A.length (A.flatMap enc) hs hown.1 ad c hx ?_
  exact h v w (by rw [List.append_nil]; exact hown) hown (fun _ _ _ h => h) (Nat.le_refl _) (.inl rfl)
 obtain ⟨A0, rfl, hcell⟩ := hc (by omega)
 obtain ⟨v', w', hrun, ho', hg, hold, hat⟩ := run_append_keep (P := P) w wA.heap.size t o.type e i z size bytes ht hi hz h2 h3 hzs hsz v A.length (A.flatMap enc) hown.1 A0 B.length c (B.flatMap enc) hl hcell
  (fun u hu => by obtain ⟨y, _, hy⟩ := List.mem_flatMap.1 hu; exact h1 y u hy) (by unfold maxLen; omega) (Nat.le_trans (Nat.mul_le_mul hn hby) (by decide)) hown.2.size
 have hmv : Moved D wA w' := hown.2.grown' hg fun k hk => by
  rcases hown.1.2 with ⟨rfl, _⟩ | ⟨g, cap, cur, rfl, hg1, _⟩
  ·simp [Value.ownBlock] at hk
  ·have : g = k := by simpa [Value.ownBlock] using hk
   omega
 unfold Oper.wp execOp
 simp only [ho, resolve, invoke, builtin, Sem.run_bind, Sem.run_pure, Result.andThen_ok, List.map_toArray, List.map_cons, List.map_nil, hs, hx, hrun]
 exact h v' w' ⟨by rw [List.length_append, List.flatMap_append]; exact ho', hmv⟩ ⟨hold, hmv⟩ (fun k o hk hko => (hg.block k (lt_of_blk hko) hk).trans hko) hg.size hat
/-- a row that lies in another block than those that changed -/
theorem OwnM.kept {D e size : Nat} {enc : α → List Value} {wA w w' : World} {v : Value} {L : List α} (h : OwnM D e size enc wA v L w) (m : Moved D wA w') (hb : ∀ k o, v.ownBlock = some k → w.heap[k]? = some o → w'.heap[k]? = some o) : OwnM D e size enc wA v L w' := by
 refine ⟨⟨h.1.1, ?_⟩, m⟩
 rcases h.1.2 with h0 | ⟨g, cap, cur, hv, hg, hh, rest⟩
 ·exact .inl h0
 ·exact .inr ⟨g, cap, cur, hv, hg, hb g _ (by rw [hv]; rfl) hh, rest⟩
end
end
section
open Go.RowKit Cal
theorem parseR_ok {s : SchemaL} {t : List UInt8} (h : (parseR s t).2 = 0) : checkI s (parseR s t).1 = 0 := by
 unfold parseR parseW at h ⊢
 split at h
 ·next h1 =>
  rw [if_pos h1]
  split at h
  ·next h2 =>
   rw [if_pos h2]
   split at h
   ·next h3 => rw [if_pos h3]; exact h3
   ·next h3 => exact absurd h h3
  ·cases h
 ·cases h
theorem takeN_ok {s : SchemaL} {l : List RecL} {row : List UInt8} (h : (takeN s l row).2 = 0) : checkI s (takeN s l row).1 = 0 := by
 unfold takeN at h ⊢
 split at h
 ·cases h
 ·next a b h1 =>
  split at h
  ·next h2 =>
   rw [if_pos h2]
   split at h
   ·next h3 =>
    rw [if_pos h3]
    split at h
    ·next h4 =>
     rw [if_pos h4]
     split at h
     ·cases h
     ·next h5 =>
      rw [if_neg h5]
      split at h
      ·cases h
      ·next h6 => rw [if_neg h6]; exact parseR_ok h4
    ·next h4 => exact absurd h h4
   ·cases h
  ·cases h
theorem readA_ok {s : SchemaL} {n : Nat} : ∀ (q : List (List UInt8 × List UInt8)) (l : List RecL) (k : Nat), (∀ r ∈ l, checkI s r = 0) → l.length ≤ 64 → (∀ r ∈ (readA s n l k q).1, checkI s r = 0) ∧ (readA s n l k q).1.length ≤ 64
 | [], l, k, h, hl => ⟨h, hl⟩
 | (row, rest) :: q, l, k, h, hl => by
  rw [readA]
  split
  ·split
   ·exact ⟨h, hl⟩
   ·exact ⟨h, hl⟩
  ·split
   ·next h0 =>
    have hlt : l.length < 64 := Decidable.byContradiction fun hn => takeN_full hn hl h0
    refine readA_ok q _ _ (fun r hr => ?_) (by simp; omega)
    rcases List.mem_append.1 hr with h1 | h1
    ·exact h r h1
    ·simp at h1; subst h1; exact takeN_ok h0
   ·exact ⟨h, hl⟩
theorem freadN_ok {s : SchemaL} (t : List UInt8) : (∀ r ∈ (freadN s t).1, checkI s r = 0) ∧ (freadN s t).1.length ≤ 64 := by
 unfold freadN
 split
 ·exact readA_ok _ [] 0 (by simp) (by simp)
 ·exact ⟨by simp, by simp⟩
end
section
set_option maxRecDepth 100000
open Go.RowKit Cal
theorem lineN_len {s : SchemaL} (r : RecL) (hs : checkS s = 0) : (lineN s r).1.length ≤ 500 := by
 unfold lineN
 split
 ·next h =>
  refine lineR_len (s := s) ?_ (check_fields hs).1.2
  unfold checkN at h
  rwa [if_pos hs] at h
 ·simp
theorem file_few {s : SchemaL} {R : List RecL} (h : allN s R = 0) (hR : R.length ≤ 6) : (fileR R).length ≤ 4000 := by
 obtain ⟨hc, hl64, hall⟩ := allN_ok h
 have h5 := (check_fields hc).1.2
 have h2 : (Lib.decDigits R.length).length ≤ 7 := dec_most (k := 7) (by decide) (by omega)
 have h1 := rowsT_len (R.map rowR ++ [endR R.length]) 520 fun x hx => by
  rcases List.mem_append.1 hx with hx | hx
  ·obtain ⟨r, hr, rfl⟩ := List.mem_map.1 hx
   have hk := hall r hr
   unfold checkN at hk
   rw [if_pos hc] at hk
   exact rowR_len hk h5
  ·simp only [List.mem_cons, List.not_mem_nil, or_false] at hx
   subst hx
   show (endS ++ Lib.decDigits R.length).length ≤ 520
   rw [List.length_append]
   show 4 + _ ≤ 520
   omega
 have h3 : (fileR R).length ≤ (R.map rowR ++ [endR R.length]).length * (520 + 1) := h1
 rw [List.length_append, List.length_map] at h3
 simp only [List.length_cons, List.length_nil] at h3
 have h4 : (R.length + (0 + 1)) * (520 + 1) ≤ 7 * 521 := Nat.mul_le_mul (by omega) (by decide)
 omega
theorem fileN_few {s : SchemaL} {R : List RecL} (hR : R.length ≤ 6) : (fileN s R).1.length ≤ 4000 := by
 unfold fileN
 split
 ·next h => exact file_few h hR
 ·simp
/-- a record whose values are few and short -/
structure RawOk (r : RecL) : Prop where
 n : r.vals.length ≤ 20
 s : ∀ x ∈ r.vals, x.length ≤ 200
theorem RawOk.n6 {r : RecL} (h : RawOk r) : r.vals.length ≤ 1000000 := by have := h.n; omega
theorem RawOk.s6 {r : RecL} (h : RawOk r) : ∀ x ∈ r.vals, x.length ≤ 1000000 := fun x hx => by have := h.s x hx; omega
theorem RawOk.of {s : SchemaL} {r : RecL} (hs : checkS s = 0) (h : checkN s r = 0) : RawOk r := by
 refine ⟨?_, fun x hx => by have := check_short h x hx; omega⟩
 have h1 := (checkN_ok h).2.2.1
 have h2 := (check_fields hs).1.2
 omega
theorem RawOk.no : RawOk noRec := ⟨by simp [noRec], fun x hx => by simp [noRec] at hx⟩
theorem make_raw {s : SchemaL} {id ver : Int} {raws : List (List UInt8)} : RawOk (makeN s id ver raws).1 := by
 obtain ⟨⟨r, e⟩, h⟩ : ∃ p, makeN s id ver raws = p := ⟨_, rfl⟩
 by_cases he : e = 0
 ·subst he
  have h1 := rec_made h
  rw [h]
  exact RawOk.of (checkN_ok h1.2.1).1 h1.2.1
 ·rw [h]
  have hr : r = noRec := by
   have h2 := congrArg Prod.fst h
   have h3 := congrArg Prod.snd h
   unfold makeN at h2 h3
   split at h2
   ·next c0 =>
    rw [if_pos c0] at h3
    split at h2
    ·next c1 =>
     rw [if_pos c1] at h3
     split at h2
     ·next c2 =>
      rw [if_pos c2] at h3
      split at h2
      ·next c3 => rw [if_pos c3] at h3; exact absurd h3.symm he
      ·exact h2.symm
     ·exact h2.symm
    ·exact h2.symm
   ·exact h2.symm
  rw [hr]; exact RawOk.no
theorem parse_raw {s : SchemaL} {t : List UInt8} (hs : checkS s = 0) : RawOk (parseR s t).1 := by
 unfold parseR parseW
 split
 ·split
  ·split
   ·next h => exact RawOk.of hs (by unfold checkN; rw [if_pos hs]; exact h)
   ·exact RawOk.no
  ·exact RawOk.no
 ·exact RawOk.no
/-- where the law stands: the deck in block D, the raw record in block X, the schema in block Y -/
structure QX (D : Nat) (W0 : World) (X : Nat) (id ver : Int) (sv : Value) (Y : Nat) (S : Nat → Prop) (vf vt vn vs : Value) (s : SchemaL) (wr : World) : Prop where
 m : Moved D W0 wr
 x : wr.heap[X]? = some (.cells #[.int .i64 id, .int .i64 ver, sv] 44 (0, 0))
 y : wr.heap[Y]? = some (.cells #[vf, vt, vn, vs] 33 (0, 0))
 s : SchemaAt wr S vf vt vn vs s
 ne : ∀ b, S b → b ≠ D
 xD : X ≠ D
 yD : Y ≠ D
theorem QX.moved {D : Nat} {W0 : World} {X : Nat} {id ver : Int} {sv : Value} {Y : Nat} {S : Nat → Prop} {vf vt vn vs : Value} {s : SchemaL} {wr wd : World} (h : QX D W0 X id ver sv Y S vf vt vn vs s wr) (m : Moved D wr wd) : QX D W0 X id ver sv Y S vf vt vn vs s wd :=
 ⟨h.m.trans m, m.blk h.xD h.x, m.blk h.yD h.y, h.s.moved h.ne m, h.ne, h.xD, h.yD⟩
theorem QX.below {D : Nat} {W0 : World} {X : Nat} {id ver : Int} {sv : Value} {Y : Nat} {S : Nat → Prop} {vf vt vn vs : Value} {s : SchemaL} {wr wd : World} (h : QX D W0 X id ver sv Y S vf vt vn vs s wr) (hb : Below wr.heap.size wr wd) : QX D W0 X id ver sv Y S vf vt vn vs s wd :=
 h.moved ((Moved.start h.m.deck).below hb)
/-- while a record is appended to the dealt records: what lay there is as it was, but for the records' own row, and that reads as before -/
structure Kept29 (D : Nat) (Wc : World) (rv : Value) (C : List RV) (w0 w : World) : Prop where
 own : OwnM D 44 3 encRV Wc rv C w
 keep : ∀ k o, some k ≠ rv.ownBlock → w0.heap[k]? = some o → w.heap[k]? = some o
 size : w0.heap.size ≤ w.heap.size
theorem Kept29.start {D : Nat} {Wc w : World} {rv : Value} {C : List RV} (h : OwnM D 44 3 encRV Wc rv C w) : Kept29 D Wc rv C w w := ⟨h, fun _ _ _ h => h, Nat.le_refl _⟩
theorem Kept29.below {D : Nat} {Wc w0 w w' : World} {rv : Value} {C : List RV} (h : Kept29 D Wc rv C w0 w) (hb : Below w.heap.size w w') : Kept29 D Wc rv C w0 w' :=
 ⟨h.own.below hb, fun k o hk ho => blk_below hb (lt_of_blk (h.keep k o hk ho)) (h.keep k o hk ho), Nat.le_trans h.size hb.size⟩
theorem Kept29.alloc {D : Nat} {Wc w0 w : World} {rv : Value} {C : List RV} (h : Kept29 D Wc rv C w0 w) (o : Obj) : Kept29 D Wc rv C w0 (w.alloc o) := h.below ((Below.refl _ _).alloc (Nat.le_refl _) _)
theorem Kept29.vec {D : Nat} {Wc w0 w : World} {rv : Value} {C : List RV} {α : Type} {S : Nat → Prop} {k : Nat} {enc : α → List Value} {v : Value} {L : List α} (h : Kept29 D Wc rv C w0 w) (hv : Vec w0 S k enc v L) (hS : ∀ b, b < w0.heap.size → S b → some b ≠ rv.ownBlock) : Vec w Any1 k enc v L :=
 hv.move h.size fun b hb hs => ⟨by
  obtain ⟨o, ho⟩ : ∃ o, w0.heap[b]? = some o := ⟨_, Array.getElem?_eq_getElem hb⟩
  rw [ho]; exact h.keep b o (hS b hb hs) ho, trivial⟩
/-- behind an append to the records -/
theorem Kept29.grow {D : Nat} {Wc w0 w w' : World} {rv : Value} {C : List RV} (h : Kept29 D Wc rv C w0 w) (ho : OwnM D 44 3 encRV Wc rv C w') (hk : ∀ k o, some k ≠ rv.ownBlock → w.heap[k]? = some o → w'.heap[k]? = some o) (hz : w.heap.size ≤ w'.heap.size) : Kept29 D Wc rv C w0 w' :=
 ⟨ho, fun k o hn h0 => hk k o hn (h.keep k o hn h0), Nat.le_trans h.size hz⟩
/-- the records' own row lies below the world that they were handed over in -/
theorem Kept29.lt {D : Nat} {Wc w0 w : World} {rv : Value} {C : List RV} (h0 : OwnM D 44 3 encRV Wc rv C w0) : ∀ k, rv.ownBlock = some k → Wc.heap.size ≤ k ∧ k < w0.heap.size := World.ownsRow.lt h0.1
/-- behind an append to a row of one record in the new block g -/
theorem Kept29.other {D : Nat} {Wc w0 w w' : World} {rv : Value} {C : List RV} {g : Nat} (h : Kept29 D Wc rv C w0 w) (h0 : OwnM D 44 3 encRV Wc rv C w0) (hg : w0.heap.size ≤ g) (m : Moved D Wc w') (hk : ∀ k o, some k ≠ some g → w.heap[k]? = some o → w'.heap[k]? = some o) (hz : w.heap.size ≤ w'.heap.size) : Kept29 D Wc rv C w0 w' :=
 ⟨h.own.kept m fun k o e ho => hk k o (fun e2 => by have := (World.ownsRow.lt h0.1 k e).2; cases e2; omega) ho, fun k o hn ho => hk k o (fun e2 => by have := lt_of_blk ho; cases e2; omega) (h.keep k o hn ho), Nat.le_trans h.size hz⟩
theorem own_one {D : Nat} {Wc w : World} {g : Nat} {x : RV} (m : Moved D Wc w) (hg : w.heap[g]? = some (.cells (encRV x).toArray 44 (0, 0))) (hl : Wc.heap.size ≤ g) : OwnM D 44 3 encRV Wc (.slice (some ⟨g, 0, none⟩) 1 1) [x] w :=
 ⟨⟨rfl, .inr ⟨g, 1, _, rfl, hl, hg, Nat.le_refl _, by decide, rfl, rfl⟩⟩, m⟩
theorem strs_below {wb : World} {t : TypeId} (M : Nat) (L : List (List UInt8)) (hL : ∀ x ∈ L, x.length ≤ M) (cs : Array Value) (hc : cs = (L.map strV).toArray) : Below wb.heap.size wb (wb.alloc (.cells cs t)) ∧ wb.heap.size < (wb.alloc (.cells cs t)).heap.size ∧ ∀ j, j < L.length → ∃ x, (wb.alloc (.cells cs t)).cell? ⟨wb.heap.size, j, none⟩ = some (strV x) ∧ x.length ≤ M := by
 refine ⟨(Below.refl _ _).alloc (Nat.le_refl _) _, by simp, fun j hj => ⟨L[j], ?_, hL _ (List.getElem_mem hj)⟩⟩
 have hx : (wb.alloc (.cells cs t)).heap[wb.heap.size]? = some (.cells cs t (0, 0)) := blk_new rfl
 rw [cell_of_row _ _ _ _ _ _ hx, hc]
 simp [hj]
theorem ints_below {wb : World} {t : TypeId} (x y z : Int) : Below wb.heap.size wb (wb.alloc (.cells #[.int .i64 x, .int .i64 y, .int .i64 z] t)) ∧ wb.heap.size < (wb.alloc (.cells #[.int .i64 x, .int .i64 y, .int .i64 z] t)).heap.size ∧ ∀ j, j < 3 → ∃ u : Int, (wb.alloc (.cells #[.int .i64 x, .int .i64 y, .int .i64 z] t)).cell? ⟨wb.heap.size, j, none⟩ = some (.int .i64 u) := by
 refine ⟨(Below.refl _ _).alloc (Nat.le_refl _) _, by simp, fun j hj => ?_⟩
 have hx : (wb.alloc (.cells #[.int .i64 x, .int .i64 y, .int .i64 z] t)).heap[wb.heap.size]? = some (.cells #[.int .i64 x, .int .i64 y, .int .i64 z] t (0, 0)) := blk_new rfl
 rcases (by omega : j = 0 ∨ j = 1 ∨ j = 2) with rfl | rfl | rfl
 ·exact ⟨x, by rw [cell_of_row _ _ _ _ _ _ hx]; rfl⟩
 ·exact ⟨y, by rw [cell_of_row _ _ _ _ _ _ hx]; rfl⟩
 ·exact ⟨z, by rw [cell_of_row _ _ _ _ _ _ hx]; rfl⟩
/-- a record laid into a block of its own -/
theorem own_laid {D Z : Nat} {w4 W : World} {id ver : Int} {vals : List (List UInt8)} {oa : Option Addr} {oc : Nat} (m : Moved D w4 W) (hz : w4.heap.size ≤ Z) (hx : W.heap[Z]? = some (.cells #[.int .i64 0, .int .i64 0, .slice none 0 0] 44 (0, 0))) (hv : Vec W (fun b => w4.heap.size ≤ b ∧ b ≠ Z) 1 encS (.slice oa vals.length oc) vals) :
  (((W.setCell ⟨Z, 0, none⟩ (.int .i64 id)).setCell ⟨Z, 1, none⟩ (.int .i64 ver)).setCell ⟨Z, 2, none⟩ (.slice oa vals.length oc)).heap[Z]? = some (.cells #[.int .i64 id, .int .i64 ver, .slice oa vals.length oc] 44 (0, 0)) ∧
  Vec (((W.setCell ⟨Z, 0, none⟩ (.int .i64 id)).setCell ⟨Z, 1, none⟩ (.int .i64 ver)).setCell ⟨Z, 2, none⟩ (.slice oa vals.length oc)) (fun b => w4.heap.size ≤ b) 1 encS (.slice oa vals.length oc) vals ∧
  Moved D w4 (((W.setCell ⟨Z, 0, none⟩ (.int .i64 id)).setCell ⟨Z, 1, none⟩ (.int .i64 ver)).setCell ⟨Z, 2, none⟩ (.slice oa vals.length oc)) := by
 refine ⟨blk_set (i := 2) (v := .slice oa vals.length oc) (blk_set (i := 1) (v := .int .i64 ver) (blk_set (i := 0) (v := .int .i64 id) hx)), ?_, ((m.set (a := ⟨Z, 0, none⟩) hz _).set (a := ⟨Z, 1, none⟩) hz _).set (a := ⟨Z, 2, none⟩) hz _⟩
 have h := ((hv.far (a := ⟨Z, 0, none⟩) (u := .int .i64 id) fun b h => h.2).far (a := ⟨Z, 1, none⟩) (u := .int .i64 ver) fun b h => h.2).far (a := ⟨Z, 2, none⟩) (u := .slice oa vals.length oc) fun b h => h.2
 exact h.move (Nat.le_refl _) fun b _ h => ⟨rfl, h.1⟩
end
section
open Go.RowKit
/-- whether region n lies in a piece of code -/
def hasReg (n : Nat) : Code → Bool
 | .region m _ _ => Nat.beq m n
 | .seq a b => if hasReg n a = true then true else hasReg n b
 | .block _ c => hasReg n c
 | .loop c => hasReg n c
 | .scope c => hasReg n c
 | .cond _ a b => if hasReg n a = true then true else hasReg n b
 | _ => false
/-- what follows the outermost statement that holds region n -/
def afterTop (n : Nat) : Code → Option Code
 | .seq a b => if hasReg n a = true then some b else afterTop n b
 | _ => none
/-- the outermost statement that holds region n -/
def stmtTop (n : Nat) : Code → Option Code
 | .seq a b => if hasReg n a = true then some a else stmtTop n b
 | _ => none
noncomputable def restOf (fn : Func) (n : Nat) : Code := ((fn.body.bind (afterTop n)).getD .skip)
noncomputable def stmtOf (fn : Func) (n : Nat) : Code := ((fn.body.bind (stmtTop n)).getD .skip)
def leftOf : Code → Code
 | .seq a _ => a
 | c => c
def rightOf : Code → Code
 | .seq _ b => b
 | c => c
end
section
set_option maxRecDepth 100000
open Go.RowKit Cal
attribute [local go_sem] toList_mk mk_size str_append
theorem rsameD_any (S T : Nat → Prop) (va vb : Value) (A B : List (List UInt8)) (w : World) (hA : Vec w S 1 encS va A) (hB : Vec w T 1 encS vb B) (hn : A.length ≤ 1000000) (hm : B.length ≤ 1000000) :
  Calls Tryz.prog 51 #[va, vb] w fun e w' => e = .returned (.bool (decide (A = B))) ∧ Below w.heap.size w w' := by
 have h := rsame_any S T va vb A B w hA hB hn hm
 rw [show (A == B) = decide (A = B) by by_cases h : A = B <;> simp [h]] at h
 exact h
set_option maxHeartbeats 4000000 in
theorem rrsame_any (S T : Nat → Prop) (u v : Value) (a b : RecL) (w : World) (hu : Vec w S 1 encS u a.vals) (hv : Vec w T 1 encS v b.vals) (hn : a.vals.length ≤ 1000000) (hm : b.vals.length ≤ 1000000) :
  Calls Tryz.prog 21 #[.agg #[.int .i64 a.id, .int .i64 a.ver, u], .agg #[.int .i64 b.id, .int .i64 b.ver, v]] w fun e w' => e = .returned (.bool (sameR a b)) ∧ Below w.heap.size w w' := by
 obtain ⟨ua, uc, rfl⟩ := hu.slice
 obtain ⟨va, vc, rfl⟩ := hv.slice
 obtain ⟨i1, n1, A⟩ := a
 obtain ⟨i2, n2, B⟩ := b
 dsimp only at hu hv hn hm ⊢
 have HU := Lib.hid hu; have HV := Lib.hid hv
 clear hu hv
 have hq : (i1 == i2) = decide (i1 = i2) := beq_dec i1 i2
 have hq2 : (n1 == n2) = decide (n1 = n2) := beq_dec n1 n2
 cases h1 : decide (i1 = i2)
 ·have e : sameR ⟨i1, n1, A⟩ ⟨i2, n2, B⟩ = false := by unfold sameR; dsimp only; rw [h1]; rfl
  rw [e]
  rw [h1] at hq
  go_enter Tryz.func21, Tryz.ntmps21
  go_wp2_with fail
  go_ret
  exact ⟨rfl, ((Below.refl w.heap.size w).alloc (Nat.le_refl _) _).alloc (by simp) _⟩
 ·rw [h1] at hq
  cases h2 : decide (n1 = n2)
  ·have e : sameR ⟨i1, n1, A⟩ ⟨i2, n2, B⟩ = false := by unfold sameR; dsimp only; rw [h1, h2]; rfl
   rw [e]
   rw [h2] at hq2
   go_enter Tryz.func21, Tryz.ntmps21
   go_wp2_with fail
   go_ret
   exact ⟨rfl, ((Below.refl w.heap.size w).alloc (Nat.le_refl _) _).alloc (by simp) _⟩
  ·rw [h2] at hq2
   have e : sameR ⟨i1, n1, A⟩ ⟨i2, n2, B⟩ = decide (A = B) := by unfold sameR; dsimp only; rw [h1, h2]; rfl
   rw [e]
   go_enter Tryz.func21, Tryz.ntmps21
   go_wp2_with fail
   refine wp_calls_world (fun W hW => ?_)
   have hb0 : Below w.heap.size w W := by rw [hW]; exact ((Below.refl w.heap.size w).alloc (Nat.le_refl _) _).alloc (by simp) _
   clear hW
   refine (rsameD_any S T _ _ A B W (HU.out.below hb0) (HV.out.below hb0) hn hm).mono ?_
   rintro e w1 ⟨rfl, hb⟩
   go_wp2_with fail
   go_ret
   exact ⟨rfl, hb0.trans (hb.mono hb0.size)⟩

/-- two lists of records are the same -/
def sameRs (A B : List RecL) : Bool := decide (A.length = B.length) && (List.range A.length).all fun i => sameR (A.getD i noRec) (B.getD i noRec)
theorem sameRs_self (A : List RecL) : sameRs A A = true := by
 unfold sameRs
 rw [decide_eq_true rfl, Bool.true_and, List.all_eq_true]
 intro i _
 exact sameR_self _ _ rfl rfl rfl
set_option maxHeartbeats 4000000 in
theorem rsameall_any (S T : Nat → Prop) (u v : Value) (A B : List RecL) (w : World) (hu : RecsVec w S u A) (hv : RecsVec w T v B) (hn : A.length ≤ 1000000) (hm : ∀ r ∈ A, r.vals.length ≤ 1000000) (hm2 : ∀ r ∈ B, r.vals.length ≤ 1000000) :
  Calls Tryz.prog 12 #[u, v] w fun e w' => e = .returned (.bool (sameRs A B)) ∧ Below w.heap.size w w' := by
 obtain ⟨aa, ca, rfl⟩ := hu.slice
 obtain ⟨ab, cb, rfl⟩ := hv.slice
 have HU := Lib.hid hu; have HV := Lib.hid hv; have HM := Lib.hid hm; have HM2 := Lib.hid hm2
 clear hu hv hm hm2
 by_cases hl : A.length = B.length
 ·have hne : ((A.length : Int) != (B.length : Int)) = false := by rw [hl]; simp
  have hne2 : (A.length != B.length) = false := by rw [hl]; simp
  have hfin : ∀ n : Bool, sameRs A B = n → Ending.returned (.bool n) = .returned (.bool (sameRs A B)) := fun n h => by rw [h]
  have HF := Lib.hid hfin; have HL := Lib.hid hl
  clear hfin hl
  go_enter Tryz.func12, Tryz.ntmps12
  go_wp2_with fail
  clear hne hne2
  go_loopw [5] (fun i wr => ∃ k : Nat, k ≤ A.length ∧ i = .int .i64 k ∧ Hid (Below w.heap.size w wr) ∧ Hid (∀ j, j < k → sameR (A.getD j noRec) (B.getD j noRec) = true)) (fun i _ => A.length - (intOf i).toNat)
  case atStart => exact ⟨0, by omega, rfl, Lib.hid (Below.refl _ _), Lib.hid fun j hj => by omega⟩
  case round =>
   obtain ⟨k, hk, rfl, HW, HE⟩ := hrel
   by_cases hlt : k < A.length
   ·have hq : decide ((k : Int) < A.length) = true := by simp; omega
    have hi1 : (k : Int) < (A.length : Int) := by omega
    have hi2 : (k : Int) < (B.length : Int) := by rw [← HL.out]; omega
    have hlt2 : k < B.length := by rw [← HL.out]; exact hlt
    obtain ⟨b1, o1, id1, ver1, a1, n1, c1, vals1, e1, lb1, x0, x1, x2, hA, hva⟩ := (HU.out.below HW.out).at k hlt
    obtain ⟨b2, o2, id2, ver2, a2, n2, c2, vals2, e2, lb2, y0, y1, y2, hB, hvb⟩ := (HV.out.below HW.out).at k hlt2
    cases e1; cases e2
    have hm1 := HM.out A[k] (List.getElem_mem hlt); have hm2 := HM2.out B[k] (List.getElem_mem hlt2)
    have hgA : A.getD k noRec = ⟨id1, ver1, vals1⟩ := by rw [getD_at _ _ hlt]; exact hA
    have hgB : B.getD k noRec = ⟨id2, ver2, vals2⟩ := by rw [getD_at _ _ hlt2]; exact hB
    rw [hA] at hm1; rw [hB] at hm2
    have hcall := fun w h1 h2 => rrsame_any S T (.slice a1 n1 c1) (.slice a2 n2 c2) ⟨id1, ver1, vals1⟩ ⟨id2, ver2, vals2⟩ w h1 h2 hm1 hm2
    obtain ⟨q, hqq⟩ : ∃ q, sameR ⟨id1, ver1, vals1⟩ ⟨id2, ver2, vals2⟩ = q := ⟨_, rfl⟩
    have hqe : sameR (A.getD k noRec) (B.getD k noRec) = q := by rw [hgA, hgB]; exact hqq
    rw [hqq] at hcall
    have HC := Lib.hid hcall; have HQ := Lib.hid hqe; have HVa := Lib.hid hva; have HVb := Lib.hid hvb
    have bD : Below wr.heap.size wr wr.drew := (Below.refl _ _).drew
    clear hm1 hm2 hgA hgB hcall hqq hqe hA hB hva hvb
    cases q
    ·go_wp2_with fail
     refine wp_region_noPanic ?_
     refine wp_region_held_drew (S := (fun w' => w'.cell? ⟨b1, o1 + k * 3, none⟩ = some (.int .i64 id1) ∧ w'.cell? ⟨b1, o1 + k * 3 + 1, none⟩ = some (.int .i64 ver1) ∧ w'.cell? ⟨b1, o1 + k * 3 + 2, none⟩ = some (.slice a1 n1 c1) ∧ w'.cell? ⟨b2, o2 + k * 3, none⟩ = some (.int .i64 id2) ∧ w'.cell? ⟨b2, o2 + k * 3 + 1, none⟩ = some (.int .i64 ver2) ∧ w'.cell? ⟨b2, o2 + k * 3 + 2, none⟩ = some (.slice a2 n2 c2))) (by kernel_rfl) (⟨x0, x1, x2, y0, y1, y2⟩) (fun hHeld => ?_)
     refine tH 0 (h := ?_)
     refine tH 1 (h := ?_)
     refine tH 2 (h := ?_)
     refine tH 3 (h := ?_)
     refine tH 4 (h := ?_)
     refine tH 5 (h := ?_)
     refine tH 6 (h := ?_)
     refine tH 7 (h := ?_)
     refine wpAnyH_ready (rs := [8]) (by kernel_rfl) (by simp) ?_
     refine AllReadyH.cons rfl (fun K hK => ?_) AllReadyH.nil
     go_simp
     refine (HC.out _ (HVa.out.below bD) (HVb.out.below bD)).mono ?_; rintro e w2 ⟨rfl, hb⟩; have b2' := bD.trans (hb.mono bD.size); clear hb
     refine hK.out _ _ (⟨(b2'.cell (p := ⟨b1, o1 + k * 3, none⟩) lb1).trans x0, (b2'.cell (p := ⟨b1, o1 + k * 3 + 1, none⟩) lb1).trans x1, (b2'.cell (p := ⟨b1, o1 + k * 3 + 2, none⟩) lb1).trans x2, (b2'.cell (p := ⟨b2, o2 + k * 3, none⟩) lb2).trans y0, (b2'.cell (p := ⟨b2, o2 + k * 3 + 1, none⟩) lb2).trans y1, (b2'.cell (p := ⟨b2, o2 + k * 3 + 2, none⟩) lb2).trans y2⟩) (fun hHeld => ?_)
     clear hK K
     try simp only [List.getElem_toArray, List.getElem_cons_zero, List.getElem_cons_succ, Act.put, List.setIfInBounds_toArray, List.set_cons_zero, List.set_cons_succ]
     refine tH 9 (h := ?_)
     refine wpAnyH_done (by kernel_rfl) ?_ _
     refine NoPanic.normal ?_
     have HB2 := Lib.hid (HW.out.trans (b2'.mono HW.out.size))
     clear b2' bD hHeld x0 x1 x2 y0 y1 y2
     go_wp2_with fail
     go_ret
     refine ⟨HF.out false ?_, HB2.out⟩
     unfold sameRs
     have : ((List.range A.length).all fun i => sameR (A.getD i noRec) (B.getD i noRec)) = false := by
      rw [List.all_eq_false]
      exact ⟨k, List.mem_range.2 hlt, by rw [HQ.out]; simp⟩
     rw [this, Bool.and_false]
    ·go_wp2_with fail
     refine wp_region_noPanic ?_
     refine wp_region_held_drew (S := (fun w' => w'.cell? ⟨b1, o1 + k * 3, none⟩ = some (.int .i64 id1) ∧ w'.cell? ⟨b1, o1 + k * 3 + 1, none⟩ = some (.int .i64 ver1) ∧ w'.cell? ⟨b1, o1 + k * 3 + 2, none⟩ = some (.slice a1 n1 c1) ∧ w'.cell? ⟨b2, o2 + k * 3, none⟩ = some (.int .i64 id2) ∧ w'.cell? ⟨b2, o2 + k * 3 + 1, none⟩ = some (.int .i64 ver2) ∧ w'.cell? ⟨b2, o2 + k * 3 + 2, none⟩ = some (.slice a2 n2 c2))) (by kernel_rfl) (⟨x0, x1, x2, y0, y1, y2⟩) (fun hHeld => ?_)
     refine tH 0 (h := ?_)
     refine tH 1 (h := ?_)
     refine tH 2 (h := ?_)
     refine tH 3 (h := ?_)
     refine tH 4 (h := ?_)
     refine tH 5 (h := ?_)
     refine tH 6 (h := ?_)
     refine tH 7 (h := ?_)
     refine wpAnyH_ready (rs := [8]) (by kernel_rfl) (by simp) ?_
     refine AllReadyH.cons rfl (fun K hK => ?_) AllReadyH.nil
     go_simp
     refine (HC.out _ (HVa.out.below bD) (HVb.out.below bD)).mono ?_; rintro e w2 ⟨rfl, hb⟩; have b2' := bD.trans (hb.mono bD.size); clear hb
     refine hK.out _ _ (⟨(b2'.cell (p := ⟨b1, o1 + k * 3, none⟩) lb1).trans x0, (b2'.cell (p := ⟨b1, o1 + k * 3 + 1, none⟩) lb1).trans x1, (b2'.cell (p := ⟨b1, o1 + k * 3 + 2, none⟩) lb1).trans x2, (b2'.cell (p := ⟨b2, o2 + k * 3, none⟩) lb2).trans y0, (b2'.cell (p := ⟨b2, o2 + k * 3 + 1, none⟩) lb2).trans y1, (b2'.cell (p := ⟨b2, o2 + k * 3 + 2, none⟩) lb2).trans y2⟩) (fun hHeld => ?_)
     clear hK K
     try simp only [List.getElem_toArray, List.getElem_cons_zero, List.getElem_cons_succ, Act.put, List.setIfInBounds_toArray, List.set_cons_zero, List.set_cons_succ]
     refine tH 9 (h := ?_)
     refine wpAnyH_done (by kernel_rfl) ?_ _
     refine NoPanic.normal ?_
     have HB2 := Lib.hid (HW.out.trans (b2'.mono HW.out.size))
     have HT := Lib.hid (show ∀ j, j < k + 1 → sameR (A.getD j noRec) (B.getD j noRec) = true from fun j hj => by
      by_cases e : j = k
      ·subst e; exact HQ.out
      ·exact HE.out j (by omega))
     clear b2' bD hHeld x0 x1 x2 y0 y1 y2
     go_wp2_with fail
     go_roundw
     case rel => exact ⟨k + 1, by omega, by go_num, HB2, HT⟩
     case measure => simp [intOf]; omega
   ·have hq : decide ((k : Int) < A.length) = false := by simp; omega
    have hkk : k = A.length := by omega
    have HKK := Lib.hid hkk
    clear hkk
    go_wp2_with fail
    go_ret
    refine ⟨HF.out true ?_, HW.out⟩
    unfold sameRs
    rw [decide_eq_true HL.out, Bool.true_and, List.all_eq_true]
    intro j hj
    exact HE.out j (by rw [HKK.out]; exact List.mem_range.1 hj)
 ·have hne : ((A.length : Int) != (B.length : Int)) = true := by simp; omega
  have hne2 : (A.length != B.length) = true := by simp; omega
  have hs : sameRs A B = false := by unfold sameRs; rw [decide_eq_false hl, Bool.false_and]
  rw [hs]
  clear hl hs
  go_enter Tryz.func12, Tryz.ntmps12
  go_wp2_with fail
  go_ret
  exact ⟨rfl, Below.refl _ _⟩
end
section
open Go.RowKit
def ModPost (n : Int) (w : World) (e : Ending) (w' : World) : Prop := ∃ r : Nat, e = .returned (.int .i64 r) ∧ (r : Int) < n ∧ w = w'
set_option maxHeartbeats 400000 in
theorem mod_some (x n : Int) (w : World) (hx : -9223372036854775808 ≤ x) (hx2 : x ≤ 9223372036854775807) (hn : 1 ≤ n) (hn2 : n ≤ 1000000000) :
  Calls Tryz.prog 32 #[.int .i64 x, .int .i64 n] w (ModPost n w) := by
 have h1 : -n < x.tmod n ∧ x.tmod n < n := by
  have := Int.tmod_lt_of_pos x (show 0 < n by omega)
  have h2 := Int.lt_tmod_of_pos x (show 0 < n by omega)
  omega
 obtain ⟨h1, h2⟩ := h1
 have h3 : 0 ≤ x.tmod n + n := by omega
 have h4 : 0 ≤ (x.tmod n + n) % n := Int.emod_nonneg _ (by omega)
 have h5 : (x.tmod n + n) % n < n := Int.emod_lt_of_pos _ (by omega)
 have H4 := Lib.hid h4; clear h4
 have H5 := Lib.hid h5; clear h5
 have HX := Lib.hid hx; have HX2 := Lib.hid hx2
 have hw : wrap64 (x.tmod n) = x.tmod n := IntWalk.wrap64_in _ ⟨by omega, by omega⟩
 have hw2 : wrap64 (x.tmod n + n) = x.tmod n + n := IntWalk.wrap64_in _ ⟨by omega, by omega⟩
 clear hx hx2
 go_enter Tryz.func32, Tryz.ntmps32
 go_wp2
 go_ret
 exact ⟨((x.tmod n + n) % n).toNat, by rw [Int.toNat_of_nonneg H4.out]; simp, by rw [Int.toNat_of_nonneg H4.out]; exact H5.out, rfl⟩
end
section
set_option maxRecDepth 100000
open Go.RowKit Cal
attribute [local go_sem] toList_mk mk_size
theorem make_bad {w w1 : World} {er : Int} (hb : Below w.heap.size w w1) : MakePost (noRec, er) w (.returned (.tuple #[.agg #[.int .i64 0, .int .i64 0, .slice none 0 0], .int .i64 er])) (((w1.setCell ⟨w.heap.size + 1, 0, none⟩ (.int .i64 0)).setCell ⟨w.heap.size + 1, 1, none⟩ (.int .i64 0)).setCell ⟨w.heap.size + 1, 2, none⟩ (.slice none 0 0)) :=
 ⟨_, rfl, ⟨_, rfl, Vec.nil _ _ _ _⟩, ((hb.setCell (p := ⟨w.heap.size + 1, 0, none⟩) (Nat.le_succ _) _).setCell (p := ⟨w.heap.size + 1, 1, none⟩) (Nat.le_succ _) _).setCell (p := ⟨w.heap.size + 1, 2, none⟩) (Nat.le_succ _) _⟩
set_option maxHeartbeats 8000000 in
theorem pmake_any (S T : Nat → Prop) (vf vt vn vs : Value) (s : SchemaL) (id ver : Int) (raws : List (List UInt8)) (rv : Value) (w : World) (h : SchemaAt w S vf vt vn vs s) (hv : Vec w T 1 encS rv raws) (hc : checkS s = 0) (hs : ∀ x ∈ raws, x.length ≤ 1000000) (hm : raws.length ≤ 1000000) :
  Calls Tryz.prog 23 #[.agg #[vf, vt, vn, vs], .int .i64 id, .int .i64 ver, rv] w (MakePost (makeN s id ver raws) w) := by
 by_cases hl : raws.length = s.fields.length
 ·cases hn : numberedB id ver with
  | true => exact pmake_yes S T vf vt vn vs s id ver raws rv w h hv hc hl hn hs
  | false =>
   have hR : makeN s id ver raws = (noRec, 7) := by unfold makeN; rw [if_pos hc, if_pos hl, hn]; rfl
   rw [hR]
   obtain ⟨a, cap, rfl⟩ := hv.slice
   obtain ⟨af, cf, rfl⟩ := h.1.slice
   have hne : ((raws.length : Int) != (s.fields.length : Int)) = false := by rw [hl]; simp
   have HC := Lib.hid hc; have HS := Lib.hid h.any; have HN := Lib.hid hn
   have dz : ((0 : Int) != 0) = false := rfl
   clear h hv hc hl hs hR hn
   go_enter Tryz.func23, Tryz.ntmps23
   go_wp2_with fail
   refine wp_calls_world (fun W hW => ?_)
   have hb0 : Below w.heap.size w W := by rw [hW]; exact ((Below.refl w.heap.size w).alloc (Nat.le_refl _) _).alloc (by simp) _
   have hs0 : W.heap[w.heap.size]? = some (.cells #[.slice af s.fields.length cf, vt, vn, vs] 33 (0, 0)) := by rw [hW]; exact blk_old (blk_new rfl)
   have hz0 : W.heap[w.heap.size + 1]? = some (.cells #[.int .i64 0, .int .i64 0, .slice none 0 0] 44 (0, 0)) := by rw [hW]; exact blk_new (by simp)
   clear hW
   refine (scheck_any Any1 _ _ _ _ s W (HS.out.below hb0)).mono ?_
   rw [HC.out]
   rintro e w1 ⟨rfl, hb⟩
   have HB1 := Lib.hid (hb0.trans (hb.mono hb0.size)); have HZ1 := Lib.hid (blk_below hb (lt_of_blk hz0) hz0)
   have hs1 := blk_below hb (lt_of_blk hs0) hs0
   obtain ⟨s0, s1, s2, s3⟩ := cellsS hs1
   have f0 := frozen_of_row _ _ 0 _ _ HZ1.out; have f1 := frozen_of_row _ _ 1 _ _ HZ1.out; have f2 := frozen_of_row _ _ 2 _ _ HZ1.out
   obtain ⟨z0, z1, z2⟩ := cells3 HZ1.out
   have lz := lt_of_blk HZ1.out
   clear hb hb0 hs0 hz0 hs1
   go_wp2_with fail
   refine (numbered_any _ _ _).mono ?_
   rw [HN.out]
   rintro e w2 ⟨rfl, rfl⟩
   go_wp2_with fail
   exact bodyPost_row2 rfl rfl (blk_set (i := 2) (v := .slice none 0 0) (blk_set (i := 1) (v := .int .i64 0) (blk_set (i := 0) (v := .int .i64 0) HZ1.out))) Tryz.underlying44 rfl (by kernel_rfl) (make_bad HB1.out)
 ·have hR : makeN s id ver raws = (noRec, 8) := by unfold makeN; rw [if_pos hc, if_neg hl]
  rw [hR]
  obtain ⟨a, cap, rfl⟩ := hv.slice
  obtain ⟨af, cf, rfl⟩ := h.1.slice
  have hne : ((raws.length : Int) != (s.fields.length : Int)) = true := by rw [bne_iff_ne]; omega
  have HC := Lib.hid hc; have HS := Lib.hid h.any
  have dz : ((0 : Int) != 0) = false := rfl
  clear h hv hc hl hs hR
  go_enter Tryz.func23, Tryz.ntmps23
  go_wp2_with fail
  refine wp_calls_world (fun W hW => ?_)
  have hb0 : Below w.heap.size w W := by rw [hW]; exact ((Below.refl w.heap.size w).alloc (Nat.le_refl _) _).alloc (by simp) _
  have hs0 : W.heap[w.heap.size]? = some (.cells #[.slice af s.fields.length cf, vt, vn, vs] 33 (0, 0)) := by rw [hW]; exact blk_old (blk_new rfl)
  have hz0 : W.heap[w.heap.size + 1]? = some (.cells #[.int .i64 0, .int .i64 0, .slice none 0 0] 44 (0, 0)) := by rw [hW]; exact blk_new (by simp)
  clear hW
  refine (scheck_any Any1 _ _ _ _ s W (HS.out.below hb0)).mono ?_
  rw [HC.out]
  rintro e w1 ⟨rfl, hb⟩
  have HB1 := Lib.hid (hb0.trans (hb.mono hb0.size)); have HZ1 := Lib.hid (blk_below hb (lt_of_blk hz0) hz0)
  have hs1 := blk_below hb (lt_of_blk hs0) hs0
  obtain ⟨s0, s1, s2, s3⟩ := cellsS hs1
  have f0 := frozen_of_row _ _ 0 _ _ HZ1.out; have f1 := frozen_of_row _ _ 1 _ _ HZ1.out; have f2 := frozen_of_row _ _ 2 _ _ HZ1.out
  obtain ⟨z0, z1, z2⟩ := cells3 HZ1.out
  have lz := lt_of_blk HZ1.out
  clear hb hb0 hs0 hz0 hs1
  go_wp2_with fail
  exact bodyPost_row2 rfl rfl (blk_set (i := 2) (v := .slice none 0 0) (blk_set (i := 1) (v := .int .i64 0) (blk_set (i := 0) (v := .int .i64 0) HZ1.out))) Tryz.underlying44 rfl (by kernel_rfl) (make_bad HB1.out)
set_option maxHeartbeats 8000000 in
theorem rmake_any (S T : Nat → Prop) (vf vt vn vs : Value) (s : SchemaL) (id ver : Int) (raws : List (List UInt8)) (rv : Value) (w : World) (h : SchemaAt w S vf vt vn vs s) (hv : Vec w T 1 encS rv raws) (hc : checkS s = 0) (hs : ∀ x ∈ raws, x.length ≤ 1000000) (hm : raws.length ≤ 1000000) :
  Calls Tryz.prog 24 #[.agg #[vf, vt, vn, vs], .int .i64 id, .int .i64 ver, rv] w (MakePost (makeN s id ver raws) w) := by
 by_cases hl : raws.length = s.fields.length
 ·cases hn : numberedB id ver with
  | true => exact rmake_yes S T vf vt vn vs s id ver raws rv w h hv hc hl hn hs
  | false =>
   have hR : makeN s id ver raws = (noRec, 7) := by unfold makeN; rw [if_pos hc, if_pos hl, hn]; rfl
   rw [hR]
   obtain ⟨a, cap, rfl⟩ := hv.slice
   obtain ⟨af, cf, rfl⟩ := h.1.slice
   have hne : ((raws.length : Int) != (s.fields.length : Int)) = false := by rw [hl]; simp
   have HC := Lib.hid hc; have HS := Lib.hid h.any; have HN := Lib.hid hn
   have dz : ((0 : Int) != 0) = false := rfl
   clear h hv hc hl hs hR hn
   go_enter Tryz.func24, Tryz.ntmps24
   go_wp2_with fail
   refine wp_calls_world (fun W hW => ?_)
   have hb0 : Below w.heap.size w W := by rw [hW]; exact ((Below.refl w.heap.size w).alloc (Nat.le_refl _) _).alloc (by simp) _
   have hs0 : W.heap[w.heap.size]? = some (.cells #[.slice af s.fields.length cf, vt, vn, vs] 33 (0, 0)) := by rw [hW]; exact blk_old (blk_new rfl)
   have hz0 : W.heap[w.heap.size + 1]? = some (.cells #[.int .i64 0, .int .i64 0, .slice none 0 0] 44 (0, 0)) := by rw [hW]; exact blk_new (by simp)
   clear hW
   refine (rscheck_any Any1 _ _ _ _ s W (HS.out.below hb0)).mono ?_
   rw [HC.out]
   rintro e w1 ⟨rfl, hb⟩
   have HB1 := Lib.hid (hb0.trans (hb.mono hb0.size)); have HZ1 := Lib.hid (blk_below hb (lt_of_blk hz0) hz0)
   have hs1 := blk_below hb (lt_of_blk hs0) hs0
   obtain ⟨s0, s1, s2, s3⟩ := cellsS hs1
   have f0 := frozen_of_row _ _ 0 _ _ HZ1.out; have f1 := frozen_of_row _ _ 1 _ _ HZ1.out; have f2 := frozen_of_row _ _ 2 _ _ HZ1.out
   obtain ⟨z0, z1, z2⟩ := cells3 HZ1.out
   have lz := lt_of_blk HZ1.out
   clear hb hb0 hs0 hz0 hs1
   have hin := HN.out
   by_cases i1 : id < 1
   ·have e1 : decide (id < (1 : Int)) = true := by simpa using i1
    go_wp2_with fail
    exact bodyPost_row2 rfl rfl (blk_set (i := 2) (v := .slice none 0 0) (blk_set (i := 1) (v := .int .i64 0) (blk_set (i := 0) (v := .int .i64 0) HZ1.out))) Tryz.underlying44 rfl (by kernel_rfl) (make_bad HB1.out)
   have e1 : decide (id < (1 : Int)) = false := by simpa using i1
   by_cases i2 : 1048576 < id
   ·have e2 : decide ((1048576 : Int) < id) = true := by simpa using i2
    go_wp2_with fail
    exact bodyPost_row2 rfl rfl (blk_set (i := 2) (v := .slice none 0 0) (blk_set (i := 1) (v := .int .i64 0) (blk_set (i := 0) (v := .int .i64 0) HZ1.out))) Tryz.underlying44 rfl (by kernel_rfl) (make_bad HB1.out)
   have e2 : decide ((1048576 : Int) < id) = false := by simpa using i2
   by_cases i3 : ver < 1
   ·have e3 : decide (ver < (1 : Int)) = true := by simpa using i3
    go_wp2_with fail
    exact bodyPost_row2 rfl rfl (blk_set (i := 2) (v := .slice none 0 0) (blk_set (i := 1) (v := .int .i64 0) (blk_set (i := 0) (v := .int .i64 0) HZ1.out))) Tryz.underlying44 rfl (by kernel_rfl) (make_bad HB1.out)
   have e3 : decide (ver < (1 : Int)) = false := by simpa using i3
   have e4 : decide ((1048576 : Int) < ver) = true := by
    unfold numberedB at hin
    simp only [Bool.and_eq_false_iff, decide_eq_false_iff_not] at hin
    rw [decide_eq_true_eq]; omega
   clear i1 i2 i3 hin
   go_wp2_with fail
   exact bodyPost_row2 rfl rfl (blk_set (i := 2) (v := .slice none 0 0) (blk_set (i := 1) (v := .int .i64 0) (blk_set (i := 0) (v := .int .i64 0) HZ1.out))) Tryz.underlying44 rfl (by kernel_rfl) (make_bad HB1.out)
 ·have hR : makeN s id ver raws = (noRec, 8) := by unfold makeN; rw [if_pos hc, if_neg hl]
  rw [hR]
  obtain ⟨a, cap, rfl⟩ := hv.slice
  obtain ⟨af, cf, rfl⟩ := h.1.slice
  have hne : ((raws.length : Int) != (s.fields.length : Int)) = true := by rw [bne_iff_ne]; omega
  have HC := Lib.hid hc; have HS := Lib.hid h.any
  have dz : ((0 : Int) != 0) = false := rfl
  clear h hv hc hl hs hR
  go_enter Tryz.func24, Tryz.ntmps24
  go_wp2_with fail
  refine wp_calls_world (fun W hW => ?_)
  have hb0 : Below w.heap.size w W := by rw [hW]; exact ((Below.refl w.heap.size w).alloc (Nat.le_refl _) _).alloc (by simp) _
  have hs0 : W.heap[w.heap.size]? = some (.cells #[.slice af s.fields.length cf, vt, vn, vs] 33 (0, 0)) := by rw [hW]; exact blk_old (blk_new rfl)
  have hz0 : W.heap[w.heap.size + 1]? = some (.cells #[.int .i64 0, .int .i64 0, .slice none 0 0] 44 (0, 0)) := by rw [hW]; exact blk_new (by simp)
  clear hW
  refine (rscheck_any Any1 _ _ _ _ s W (HS.out.below hb0)).mono ?_
  rw [HC.out]
  rintro e w1 ⟨rfl, hb⟩
  have HB1 := Lib.hid (hb0.trans (hb.mono hb0.size)); have HZ1 := Lib.hid (blk_below hb (lt_of_blk hz0) hz0)
  have hs1 := blk_below hb (lt_of_blk hs0) hs0
  obtain ⟨s0, s1, s2, s3⟩ := cellsS hs1
  have f0 := frozen_of_row _ _ 0 _ _ HZ1.out; have f1 := frozen_of_row _ _ 1 _ _ HZ1.out; have f2 := frozen_of_row _ _ 2 _ _ HZ1.out
  obtain ⟨z0, z1, z2⟩ := cells3 HZ1.out
  have lz := lt_of_blk HZ1.out
  clear hb hb0 hs0 hz0 hs1
  go_wp2_with fail
  exact bodyPost_row2 rfl rfl (blk_set (i := 2) (v := .slice none 0 0) (blk_set (i := 1) (v := .int .i64 0) (blk_set (i := 0) (v := .int .i64 0) HZ1.out))) Tryz.underlying44 rfl (by kernel_rfl) (make_bad HB1.out)
end
section
set_option maxRecDepth 100000
open Go.RowKit
set_option maxHeartbeats 2000000 in
theorem eshort_any (S : Nat → Prop) (v : Value) (L : List (List UInt8)) (w : World) (h : Vec w S 1 encS v L) (hn : L.length ≤ 1000000) :
  Calls Tryz.prog 16 #[v] w fun e w' => e = .returned (.bool (L.all fun x => decide (x.length ≤ 200))) ∧ Below w.heap.size w w' := by
 obtain ⟨a, cap, rfl⟩ := h.slice
 have HV := Lib.hid h
 have HF := Lib.hid (show ∀ b, (L.all fun x => decide (x.length ≤ 200)) = b → Ending.returned (.bool b) = .returned (.bool (L.all fun x => decide (x.length ≤ 200))) from fun b h => by rw [h])
 clear h
 go_enter Tryz.func16, Tryz.ntmps16
 go_wp2_with fail
 go_loopw [3] (fun i wr => ∃ k : Nat, k ≤ L.length ∧ i = .int .i64 k ∧ Below w.heap.size w wr ∧ Hid (∀ j, j < k → (L.getD j []).length ≤ 200)) (fun i _ => L.length - (intOf i).toNat)
 case atStart => exact ⟨0, by omega, rfl, Below.refl _ _, Lib.hid fun j hj => by omega⟩
 case round =>
  obtain ⟨k, hk, rfl, hbw, HA⟩ := hrel
  have HW := Lib.hid hbw
  by_cases hlt : k < L.length
  ·have hq : decide ((k : Int) < L.length) = true := by simp; omega
   have hi : (k : Int) < (L.length : Int) := by omega
   obtain ⟨b, off, rfl, _, hb, hc⟩ := vec_cell1 HV.out (by omega)
   have c0 := (hbw.cell (p := ⟨b, off + k, none⟩) hb).trans (hc k hlt)
   obtain ⟨x, hx⟩ : ∃ x, L.getD k [] = x := ⟨_, rfl⟩
   rw [hx] at c0
   have HX := Lib.hid hx
   clear hbw hc hx
   by_cases hxl : x.length ≤ 200
   ·have d : decide ((200 : Int) < x.length) = false := by simp; omega
    go_wp2_with fail
    go_roundw
    case rel => exact ⟨k + 1, by omega, by go_num, HW.out, Lib.hid fun j hj => by
     by_cases e : j = k
     ·subst e; rw [HX.out]; exact hxl
     ·exact HA.out j (by omega)⟩
    case measure => simp [intOf]; omega
   ·have d : decide ((200 : Int) < x.length) = true := by simp; omega
    have HE := Lib.hid (show (L.all fun x => decide (x.length ≤ 200)) = false by
     rw [List.all_eq_false]
     exact ⟨x, by rw [← HX.out, List.getD, List.getElem?_eq_getElem hlt]; exact List.getElem_mem hlt, by simpa using hxl⟩)
    go_wp2_with fail
    go_ret
    exact ⟨HF.out _ HE.out, HW.out⟩
  ·have hq : decide ((k : Int) < L.length) = false := by simp; omega
   have HE := Lib.hid (show (L.all fun x => decide (x.length ≤ 200)) = true by
    rw [List.all_eq_true]
    intro x hx
    obtain ⟨j, hj, rfl⟩ := List.mem_iff_getElem.1 hx
    have := HA.out j (by omega)
    rw [List.getD, List.getElem?_eq_getElem hj] at this
    simpa using this)
   clear hbw
   go_wp2_with fail
   go_ret
   exact ⟨HF.out _ HE.out, HW.out⟩
end
section
set_option maxRecDepth 100000
open Go.RowKit Cal
attribute [local go_sem] toList_mk mk_size bytes_append str_append
set_option maxHeartbeats 16000000 in
theorem rex52 (w : World) (t0 : List UInt8) (cut : Int) (HVar : Hid (VarsAt w)) (HDb : Hid (DbAt w)) (HCw : Hid (-9223372036854775808 ≤ cut ∧ cut ≤ 9223372036854775807)) (ht : t0.length ≤ 600) (Y : Nat) (af at' an as' : Option Addr) (N cf nt ct nk cn ns cs : Nat) (s : SchemaL) (HCs : Hid (checkS s = 0)) (C : List RV) (arv : Option Addr) (crv : Nat) (hC5 : C.length ≤ 5) (HRk : Hid (∀ r ∈ C.map pR, RawOk r)) (wr : World) (HYe : Hid (wr.heap[Y]? = some (.cells #[.slice af N cf, .slice at' nt ct, .slice an nk cn, .slice as' ns cs] 33 (0, 0)))) (HSe : Hid (SchemaAt wr Any1 (.slice af N cf) (.slice at' nt ct) (.slice an nk cn) (.slice as' ns cs) s)) (HRe : Hid (RecsVec wr Any1 (.slice arv C.length crv) (C.map pR))) (HBe : Hid (Below w.heap.size w wr)) (sl0 sl1 sl2 sl3 sl6 sl7 sl8 sl9 sl10 sl11 sl12 sl13 sl14 sl17 sl18 sl19 sl20 sl21 sl22 sl23 sl24 sl25 sl26 sl27 sl28 sl29 sl30 sl31 sl32 sl33 sl34 sl35 sl36 sl37 sl38 sl39 sl40 sl41 sl42 sl43 sl44 sl45 sl46 sl47 sl48 sl49 sl50 sl51 sl52 sl53 sl54 sl55 sl56 sl57 sl58 sl59 sl60 sl61 sl62 sl63 sl64 sl65 sl66 sl67 sl68 sl69 sl70 sl71 sl72 sl73 sl74 sl75 sl76 sl77 sl78 sl79 sl80 sl81 sl82 sl83 sl84 sl85 sl86 sl87 sl88 sl89 sl90 sl91 sl92 sl93 sl94 sl95 sl96 sl97 sl98 sl99 sl100 sl101 sl102 sl103 sl104 sl105 sl106 sl107 sl108 sl109 sl110 sl111 sl112 sl113 sl114 sl115 sl116 sl117 sl118 sl119 sl120 sl121 sl122 sl123 sl124 sl125 sl126 sl127 sl128 sl129 sl130 sl131 sl132 sl133 sl134 sl135 sl136 sl137 sl138 sl139 sl140 sl141 sl142 sl143 sl144 sl145 sl146 sl147 sl148 sl149 sl150 sl151 sl152 sl153 sl154 sl155 sl156 sl157 sl158 sl159 sl160 sl161 sl162 sl163 sl164 sl165 sl166 sl167 sl168 sl169 sl170 sl171 sl172 sl173 sl174 sl175 sl176 sl177 sl178 sl179 sl180 sl181 sl182 sl183 sl184 sl185 sl186 sl187 sl188 sl189 sl190 sl191 sl192 sl193 sl194 sl195 sl196 sl197 sl198 sl199 sl200 sl201 sl202 sl203 sl204 sl205 sl206 sl207 sl208 sl209 sl210 sl211 sl212 sl213 sl214 sl215 sl216 sl217 sl218 sl219 sl220 sl221 sl222 sl223 sl224 sl225 sl226 sl227 sl228 sl229 sl230 sl231 sl232 sl233 sl234 sl235 sl236 sl237 sl238 sl239 sl240 sl241 sl242 sl243 sl244 sl245 sl246 sl247 sl248 sl249 sl250 sl251 sl252 sl253 sl254 sl255 sl256 sl257 sl258 sl259 sl260 sl261 sl262 sl263 sl264 sl265 sl266 sl267 sl268 sl269 sl270 sl271 sl272 sl273 sl274 sl275 sl276 sl277 sl278 sl279 sl280 sl281 sl282 sl283 sl284 sl285 sl286 sl287 sl288 sl289 sl290 sl291 sl292 sl293 sl294 sl295 sl296 sl297 sl298 sl299 sl300 sl301 sl302 sl303 sl304 sl305 sl306 sl307 sl308 sl309 sl310 sl311 sl312 sl313 sl314 sl315 sl316 sl317 sl318 sl319 sl320 sl321 sl322 sl323 sl324 sl325 sl326 sl327 sl328 sl329 sl330 sl331 sl332 sl333 sl334 sl335 sl336 sl337 sl338 sl339 sl340 sl341 sl342 sl343 sl344 sl345 sl346 sl347 sl348 sl349 sl350 sl351 sl352 sl353 sl354 sl355 sl356 sl357 sl358 sl359 sl360 sl361 sl362 sl363 sl364 sl365 sl366 sl367 sl368 sl369 sl370 sl371 sl372 sl373 sl374 sl375 sl376 sl377 sl378 sl379 sl380 sl381 sl382 sl383 sl384 sl385 sl386 sl387 sl388 sl389 sl390 sl391 sl392 sl393 sl394 sl395 sl396 sl397 sl398 sl399 sl400 sl401 sl402 sl403 sl404 sl405 sl406 sl407 sl408 sl409 sl410 sl411 sl412 sl413 sl414 sl415 sl416 sl417 sl418 sl419 sl420 sl421 sl422 sl423 sl424 sl425 sl426 sl427 : Value) :
  (restOf Tryz.f4 52).wp Tryz.prog (bodyPost Tryz.prog Tryz.f4 fun e w' => e = .returned (.bool true) ∧ Below w.heap.size w w') ⟨List.toArray (sl0 :: sl1 :: sl2 :: sl3 :: .string ⟨t0.toArray⟩ :: .int .i64 cut :: sl6 :: sl7 :: sl8 :: sl9 :: sl10 :: sl11 :: sl12 :: sl13 :: sl14 :: .pointer (some ⟨Y, 0, none⟩) :: .slice arv C.length crv :: sl17 :: sl18 :: sl19 :: sl20 :: sl21 :: sl22 :: sl23 :: sl24 :: sl25 :: sl26 :: sl27 :: sl28 :: sl29 :: sl30 :: sl31 :: sl32 :: sl33 :: sl34 :: sl35 :: sl36 :: sl37 :: sl38 :: sl39 :: sl40 :: sl41 :: sl42 :: sl43 :: sl44 :: sl45 :: sl46 :: sl47 :: sl48 :: sl49 :: sl50 :: sl51 :: sl52 :: sl53 :: sl54 :: sl55 :: sl56 :: sl57 :: sl58 :: sl59 :: sl60 :: sl61 :: sl62 :: sl63 :: sl64 :: sl65 :: sl66 :: sl67 :: sl68 :: sl69 :: sl70 :: sl71 :: sl72 :: sl73 :: sl74 :: sl75 :: sl76 :: sl77 :: sl78 :: sl79 :: sl80 :: sl81 :: sl82 :: sl83 :: sl84 :: sl85 :: sl86 :: sl87 :: sl88 :: sl89 :: sl90 :: sl91 :: sl92 :: sl93 :: sl94 :: sl95 :: sl96 :: sl97 :: sl98 :: sl99 :: sl100 :: sl101 :: sl102 :: sl103 :: sl104 :: sl105 :: sl106 :: sl107 :: sl108 :: sl109 :: sl110 :: sl111 :: sl112 :: sl113 :: sl114 :: sl115 :: sl116 :: sl117 :: sl118 :: sl119 :: sl120 :: sl121 :: sl122 :: sl123 :: sl124 :: sl125 :: sl126 :: sl127 :: sl128 :: sl129 :: sl130 :: sl131 :: sl132 :: sl133 :: sl134 :: sl135 :: sl136 :: sl137 :: sl138 :: sl139 :: sl140 :: sl141 :: sl142 :: sl143 :: sl144 :: sl145 :: sl146 :: sl147 :: sl148 :: sl149 :: sl150 :: sl151 :: sl152 :: sl153 :: sl154 :: sl155 :: sl156 :: sl157 :: sl158 :: sl159 :: sl160 :: sl161 :: sl162 :: sl163 :: sl164 :: sl165 :: sl166 :: sl167 :: sl168 :: sl169 :: sl170 :: sl171 :: sl172 :: sl173 :: sl174 :: sl175 :: sl176 :: sl177 :: sl178 :: sl179 :: sl180 :: sl181 :: sl182 :: sl183 :: sl184 :: sl185 :: sl186 :: sl187 :: sl188 :: sl189 :: sl190 :: sl191 :: sl192 :: sl193 :: sl194 :: sl195 :: sl196 :: sl197 :: sl198 :: sl199 :: sl200 :: sl201 :: sl202 :: sl203 :: sl204 :: sl205 :: sl206 :: sl207 :: sl208 :: sl209 :: sl210 :: sl211 :: sl212 :: sl213 :: sl214 :: sl215 :: sl216 :: sl217 :: sl218 :: sl219 :: sl220 :: sl221 :: sl222 :: sl223 :: sl224 :: sl225 :: sl226 :: sl227 :: sl228 :: sl229 :: sl230 :: sl231 :: sl232 :: sl233 :: sl234 :: sl235 :: sl236 :: sl237 :: sl238 :: sl239 :: sl240 :: sl241 :: sl242 :: sl243 :: sl244 :: sl245 :: sl246 :: sl247 :: sl248 :: sl249 :: sl250 :: sl251 :: sl252 :: sl253 :: sl254 :: sl255 :: sl256 :: sl257 :: sl258 :: sl259 :: sl260 :: sl261 :: sl262 :: sl263 :: sl264 :: sl265 :: sl266 :: sl267 :: sl268 :: sl269 :: sl270 :: sl271 :: sl272 :: sl273 :: sl274 :: sl275 :: sl276 :: sl277 :: sl278 :: sl279 :: sl280 :: sl281 :: sl282 :: sl283 :: sl284 :: sl285 :: sl286 :: sl287 :: sl288 :: sl289 :: sl290 :: sl291 :: sl292 :: sl293 :: sl294 :: sl295 :: sl296 :: sl297 :: sl298 :: sl299 :: sl300 :: sl301 :: sl302 :: sl303 :: sl304 :: sl305 :: sl306 :: sl307 :: sl308 :: sl309 :: sl310 :: sl311 :: sl312 :: sl313 :: sl314 :: sl315 :: sl316 :: sl317 :: sl318 :: sl319 :: sl320 :: sl321 :: sl322 :: sl323 :: sl324 :: sl325 :: sl326 :: sl327 :: sl328 :: sl329 :: sl330 :: sl331 :: sl332 :: sl333 :: sl334 :: sl335 :: sl336 :: sl337 :: sl338 :: sl339 :: sl340 :: sl341 :: sl342 :: sl343 :: sl344 :: sl345 :: sl346 :: sl347 :: sl348 :: sl349 :: sl350 :: sl351 :: sl352 :: sl353 :: sl354 :: sl355 :: sl356 :: sl357 :: sl358 :: sl359 :: sl360 :: sl361 :: sl362 :: sl363 :: sl364 :: sl365 :: sl366 :: sl367 :: sl368 :: sl369 :: sl370 :: sl371 :: sl372 :: sl373 :: sl374 :: sl375 :: sl376 :: sl377 :: sl378 :: sl379 :: sl380 :: sl381 :: sl382 :: sl383 :: sl384 :: sl385 :: sl386 :: sl387 :: sl388 :: sl389 :: sl390 :: sl391 :: sl392 :: sl393 :: sl394 :: sl395 :: sl396 :: sl397 :: sl398 :: sl399 :: sl400 :: sl401 :: sl402 :: sl403 :: sl404 :: sl405 :: sl406 :: sl407 :: sl408 :: sl409 :: sl410 :: sl411 :: sl412 :: sl413 :: sl414 :: sl415 :: sl416 :: sl417 :: sl418 :: sl419 :: sl420 :: sl421 :: sl422 :: sl423 :: sl424 :: sl425 :: sl426 :: sl427 :: []), []⟩ wr := by
 conv => arg 2; whnf
 have HRk6 := Lib.hid (show ∀ r ∈ C.map pR, ∀ x ∈ r.vals, x.length ≤ 1000000 from fun r hr => (HRk.out r hr).s6); have HRn6 := Lib.hid (show ∀ r ∈ C.map pR, r.vals.length ≤ 1000000 from fun r hr => (HRk.out r hr).n6)
 obtain ⟨⟨F, fe⟩, hF⟩ : ∃ p, fileN s (C.map pR) = p := ⟨_, rfl⟩
 have hFl : F.length ≤ 4000 := by have := @fileN_few s (C.map pR) (by rw [List.length_map]; omega); rw [hF] at this; exact this
 have HF := Lib.hid hF
 obtain ⟨p0, p1, p2, p3⟩ := cellsS HYe.out
 clear hF
 go_wp2_with fail
 refine (rrFile_any Any1 Any1 _ _ _ _ _ s (C.map pR) wr HSe.out HRe.out HRk6.out HRn6.out (by rw [List.length_map]; omega)).mono ?_
 rw [HF.out]
 rintro e m1 ⟨rfl, hb⟩
 have HY1 := Lib.hid (blk_below hb (lt_of_blk HYe.out) HYe.out); have HS1 := Lib.hid (HSe.out.below hb); have HB1' := Lib.hid (HBe.out.trans (hb.mono HBe.out.size))
 clear hb p0 p1 p2 p3 HYe HSe HRe HBe
 dsimp only
 have hwl : IntKind.i64.wrap ((F.length : Int) + 1) = (F.length : Int) + 1 := by rw [IntKind.wrap_i64]; omega
 have n1 : ¬ 9223372036854775807 < F.length + t0.length := by omega
 have n2 : ¬ 9223372036854775807 < F.length + F.length := by omega
 go_wp2_with fail
 refine (mod_some cut ((F.length : Int) + 1) _ HCw.out.1 HCw.out.2 (by omega) (by omega)).mono ?_
 rintro e w' ⟨q, rfl, hq', rfl⟩
 have hqF : q ≤ F.length := by omega
 have hqi : (q : Int) ≤ (F.length : Int) := by omega
 have hext := extract_take F q
 have hql : (F.take q).length ≤ 4000 := by rw [List.length_take]; omega
 obtain ⟨U, hU⟩ : ∃ U, F.take q = U := ⟨_, rfl⟩
 rw [hU] at hext hql
 clear hU
 go_wp2_with fail
 refine wp_world (fun WT hWT => ?_)
 obtain ⟨bT, lT, hT⟩ := strs_below (wb := m1) (t := 9) 9000 [F, F ++ t0, t0, U, F ++ F, [101, 110, 100, 32, 48, 10], [101, 110, 100, 32, 49, 10], [101, 110, 100, 32, 48, 48, 10], [101, 110, 100, 32, 10]] (by intro x hx; simp at hx; rcases hx with rfl | rfl | rfl | rfl | rfl | rfl | rfl | rfl | rfl <;> first | omega | (simp; done) | (simp; omega)) _ rfl
 have bT : Below m1.heap.size m1 WT := by rw [hWT]; exact bT
 have lT : m1.heap.size < WT.heap.size := by rw [hWT]; exact lT
 have hT : ∀ j, j < 9 → ∃ x, WT.cell? ⟨m1.heap.size, j, none⟩ = some (strV x) ∧ x.length ≤ 9000 := by rw [hWT]; exact hT
 have HTx := Lib.hid hT; have HYT := Lib.hid (blk_below bT (lt_of_blk HY1.out) HY1.out); have HST := Lib.hid (HS1.out.below bT); have HBT := Lib.hid (HB1'.out.trans (bT.mono HB1'.out.size))
 obtain ⟨Tn, hTn⟩ : ∃ Tn, m1.heap.size = Tn := ⟨_, rfl⟩
 rw [hTn] at HTx lT ⊢
 have lY := lt_of_blk HYT.out
 clear hT bT hWT hTn n1 n2 hwl hext hql hqi hqF HY1 HS1 HB1' hq'
 go_loopw [395] (fun i wr => ∃ j : Nat, j ≤ 9 ∧ i = .int .i64 j ∧ Below WT.heap.size WT wr) (fun i _ => 9 - (intOf i).toNat)
 case atStart => exact ⟨0, by omega, rfl, Below.refl _ _⟩
 case round =>
  obtain ⟨j, hj, rfl, hbw⟩ := hrel
  have HBj := Lib.hid hbw
  by_cases hlt2 : j < 9
  ·have hq2 : decide ((j : Int) < 9) = true := by simp; omega
   obtain ⟨z, cz, hz⟩ := HTx.out j hlt2
   have cz := (hbw.cell (p := ⟨Tn, j, none⟩) lT).trans cz
   obtain ⟨p0, p1, p2, p3⟩ := cellsS (blk_below hbw lY HYT.out)
   obtain ⟨⟨X, xm, xe⟩, hX⟩ : ∃ p, freadN s z = p := ⟨_, rfl⟩
   obtain ⟨hok2, hle2⟩ := freadN_ok (s := s) z
   rw [hX] at hok2 hle2
   dsimp only at hok2 hle2
   have hX6 : ∀ r ∈ X, r.vals.length ≤ 1000000 := fun r hr => by have := (checkI_ok (hok2 r hr)).2.1; have := (check_fields HCs.out).1.2; omega
   have HXe := Lib.hid hX; have HX6 := Lib.hid hX6
   have d1 : ((xm : Int) != (xm : Int)) = false := by simp
   have d2 : (xe != xe) = false := by simp
   clear hX hok2 hX6 hbw
   go_wp2_with fail
   refine (precread_any Any1 _ _ _ _ s z wr (HVar.out.old (HBT.out.trans (HBj.out.mono HBT.out.size))) (HDb.out.old (HBT.out.trans (HBj.out.mono HBT.out.size))) (HST.out.below HBj.out) HCs.out (by omega)).mono ?_
   rw [HXe.out]
   rintro e m2 ⟨_, rfl, hm, hb⟩
   dsimp only at hm ⊢
   obtain ⟨ma1, mc1, rfl⟩ := hm.slice
   have Hr1 := Lib.hid hm.any; have Bm1 := Lib.hid (HBj.out.trans (hb.mono HBj.out.size))
   clear hm hb p0 p1 p2 p3 cz
   obtain ⟨p0, p1, p2, p3⟩ := cellsS (blk_below Bm1.out lY HYT.out)
   go_wp2_with fail
   refine (rrread_any Any1 _ _ _ _ s z m2 (HST.out.below Bm1.out) HCs.out (by omega)).mono ?_
   rw [HXe.out]
   rintro e m3 ⟨_, rfl, hm, hb⟩
   dsimp only at hm ⊢
   obtain ⟨ma2, mc2, rfl⟩ := hm.slice
   have hv1 := Hr1.out.below hb; have hv2 := hm.any; have Bm2 := Lib.hid (Bm1.out.trans (hb.mono Bm1.out.size))
   have HV1 := Lib.hid hv1; have HV2 := Lib.hid hv2
   clear hm hb p0 p1 p2 p3 hv1 hv2
   go_wp2_with fail
   refine (rsameall_any Any1 Any1 _ _ X X _ HV1.out HV2.out (by omega) HX6.out HX6.out).mono ?_
   rw [sameRs_self]
   rintro e m4 ⟨rfl, hb⟩
   have B3 := Lib.hid (Bm2.out.trans (hb.mono Bm2.out.size))
   clear hb
   go_wp2_with fail
   go_roundw
   case rel => exact ⟨j + 1, by omega, by go_num, B3.out⟩
   case measure => simp [intOf]; omega
  ·have hq2 : decide ((j : Int) < 9) = false := by simp; omega
   go_wp2_with fail
   go_ret
   exact ⟨rfl, HBT.out.trans (hbw.mono HBT.out.size)⟩
 
end
end Go.Proofs.YthnfmolkppbbpaaGreatDoor
