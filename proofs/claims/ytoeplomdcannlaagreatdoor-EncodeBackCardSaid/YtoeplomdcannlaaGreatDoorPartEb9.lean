/- Parts of one proof: HexB, EncI, EncJ, BackLaw, Handed, HexNum, VarsGive. -/
import Derived.Test.YtoeplomdcannlaaGreatDoorPartEb8
import Derived.Handed
import Derived.HandedShaped
import Derived.WalkArith
import Derived.MakeChecks
import Derived.LaidLaws
set_option linter.unusedSimpArgs false
set_option linter.unusedVariables false
namespace Go.Proofs.YtoeplomdcannlaaGreatDoor
section
set_option maxRecDepth 100000
open Go.RowKit
attribute [local go_sem] toList_mk mk_size
def valV (c : UInt8) : Nat := (valH c).getD 0
set_option maxHeartbeats 1000000 in
theorem hvalue_any (c : UInt8) (w : World) : Calls Tryz.prog 103 #[byteV c] w fun e w' => e = .returned (.tuple #[.int .u64 (valV c : Int), .bool (isHex c)]) ∧ w = w' := by
  have hb := c.toNat_lt
  unfold valV isHex valH byteV
  obtain ⟨n, hn⟩ : ∃ n, c.toNat = n := ⟨_, rfl⟩
  rw [hn] at hb ⊢
  clear hn
  by_cases h1 : 48 ≤ n ∧ n ≤ 57
  · rw [if_pos h1]
    have d1 : decide ((48 : Int) ≤ (n : Int)) = true := decide_eq_true (by omega)
    have d2 : decide ((n : Int) ≤ 57) = true := decide_eq_true (by omega)
    have hw : IntKind.u8.wrap ((n : Int) - 48) = ((n - 48 : Nat) : Int) := by rw [IntKind.wrap_u8]; omega
    have hw2 : IntKind.u64.wrap ((n - 48 : Nat) : Int) = ((n - 48 : Nat) : Int) := by rw [IntKind.wrap_u64]; omega
    obtain ⟨m, hm⟩ : ∃ m, n - 48 = m := ⟨_, rfl⟩
    rw [hm] at hw hw2 ⊢
    have e : Ending.returned (.tuple #[.int .u64 (m : Int), .bool true]) = Ending.returned (.tuple #[.int .u64 (((some m).getD 0 : Nat) : Int), .bool (some m).isSome]) := rfl
    rw [← e]
    clear e hm h1
    go_enter Tryz.func103, Tryz.ntmps103
    go_wp2_with fail
    go_ret2
    exact ⟨rfl, rfl⟩
  · rw [if_neg h1]
    by_cases h2 : 97 ≤ n ∧ n ≤ 102
    · rw [if_pos h2]
      have d1 : decide ((48 : Int) ≤ (n : Int)) = true := decide_eq_true (by omega)
      have d2 : decide ((n : Int) ≤ 57) = false := decide_eq_false (by omega)
      have d3 : decide ((97 : Int) ≤ (n : Int)) = true := decide_eq_true (by omega)
      have d4 : decide ((n : Int) ≤ 102) = true := decide_eq_true (by omega)
      have hw : IntKind.u8.wrap ((n : Int) - 97) = ((n - 97 : Nat) : Int) := by rw [IntKind.wrap_u8]; omega
      have hw2 : IntKind.u64.wrap ((n - 97 : Nat) : Int) = ((n - 97 : Nat) : Int) := by rw [IntKind.wrap_u64]; omega
      have hw3 : IntKind.u64.wrap (((n - 97 : Nat) : Int) + 10) = ((n - 87 : Nat) : Int) := by rw [IntKind.wrap_u64]; omega
      obtain ⟨m, hm⟩ : ∃ m, n - 87 = m := ⟨_, rfl⟩
      obtain ⟨k, hk⟩ : ∃ k, n - 97 = k := ⟨_, rfl⟩
      have hmk : (k : Int) + 10 = (m : Int) := by omega
      have hw4 : IntKind.u64.wrap (m : Int) = (m : Int) := by rw [IntKind.wrap_u64]; omega
      rw [hk] at hw hw2 hw3
      rw [hm] at hw3 ⊢
      have e : Ending.returned (.tuple #[.int .u64 (m : Int), .bool true]) = Ending.returned (.tuple #[.int .u64 (((some m).getD 0 : Nat) : Int), .bool (some m).isSome]) := rfl
      rw [← e]
      clear e hm hk h1 h2
      go_enter Tryz.func103, Tryz.ntmps103
      go_wp2_with fail
      go_ret2
      exact ⟨rfl, rfl⟩
    · rw [if_neg h2]
      have e : Ending.returned (.tuple #[.int .u64 0, .bool false]) = Ending.returned (.tuple #[.int .u64 (((none : Option Nat).getD 0 : Nat) : Int), .bool (none : Option Nat).isSome]) := rfl
      rw [← e]
      cases d1 : decide ((48 : Int) ≤ (n : Int))
      · have d3 : decide ((97 : Int) ≤ (n : Int)) = false := by simp at d1 ⊢; omega
        clear e h1 h2
        go_enter Tryz.func103, Tryz.ntmps103
        go_wp2_with fail
        go_ret2
        exact ⟨rfl, rfl⟩
      · have d2 : decide ((n : Int) ≤ 57) = false := by simp at d1 ⊢; omega
        cases d3 : decide ((97 : Int) ≤ (n : Int))
        · clear e h1 h2
          go_enter Tryz.func103, Tryz.ntmps103
          go_wp2_with fail
          go_ret2
          exact ⟨rfl, rfl⟩
        · have d4 : decide ((n : Int) ≤ 102) = false := by simp at d1 d3 ⊢; omega
          clear e h1 h2
          go_enter Tryz.func103, Tryz.ntmps103
          go_wp2_with fail
          go_ret2
          exact ⟨rfl, rfl⟩
set_option maxHeartbeats 1000000 in
theorem bnew_no (n : Int) (w : World) (h : rightB n = false) (h1 : -9223372036854775808 ≤ n) (h2 : n ≤ 9223372036854775807) :
    Calls Tryz.prog 102 #[.int .i64 n] w fun e w' => e = .returned (.tuple #[.agg #[.int .i64 0, .slice none 0 0], .int .i64 2]) ∧ Below w.heap.size w w' := by
  have HR := Lib.hid h
  clear h
  go_enter Tryz.func102, Tryz.ntmps102
  go_wp2_with fail
  refine (right_any n _ h1 h2).mono ?_
  rw [HR.out]
  rintro e w1 ⟨rfl, rfl⟩
  go_wp2_with fail
  exact bodyPost_row2 rfl rfl (blk_new rfl) Tryz.underlying84 rfl (by kernel_rfl)
    ⟨rfl, (Below.refl w.heap.size w).alloc (Nat.le_refl _) _⟩
theorem or_nib (a v : Nat) (hv : v < 16) : bits .or .u64 (IntKind.u64.wrap ((a : Int) * 16)) (v : Int) = (((a * 16 + v) % 18446744073709551616 : Nat) : Int) := by
  obtain ⟨q, hq⟩ : ∃ q, a % 1152921504606846976 = q := ⟨_, rfl⟩
  have hq2 : q < 1152921504606846976 := by rw [← hq]; exact Nat.mod_lt _ (by decide)
  have e0 : IntKind.u64.wrap ((a : Int) * 16) = ((16 * q : Nat) : Int) := by rw [IntKind.wrap_u64]; omega
  have e1 : (a * 16 + v) % 18446744073709551616 = 16 * q + v := by omega
  rw [e0, e1]
  unfold bits
  rw [IntKind.wrap_u64]
  have f1 : (BitVec.ofInt 64 ((16 * q : Nat) : Int)).toNat = 16 * q := by rw [BitVec.toNat_ofInt]; simp; omega
  have f2 : (BitVec.ofInt 64 (v : Int)).toNat = v := by rw [BitVec.toNat_ofInt]; simp; omega
  have f3 : ((BitVec.ofInt 64 ((16 * q : Nat) : Int)) ||| (BitVec.ofInt 64 (v : Int))).toNat = 16 * q + v := by
    rw [BitVec.toNat_or, f1, f2]
    exact (Nat.two_pow_add_eq_or_of_lt (i := 4) (by simpa using hv) q).symm
  show ((((BitVec.ofInt 64 ((16 * q : Nat) : Int)) ||| (BitVec.ofInt 64 (v : Int))).toNat : Nat) : Int) % _ = _
  rw [f3]; omega
theorem layH_len (l : List UInt8) : ∀ (W : List Nat) (i : Nat), (layH W i l).length = W.length := by
  induction l with
  | nil => intro W i; rfl
  | cons c l ih => intro W i; rw [layH, ih, List.length_set]
theorem layH_snoc (W : List Nat) (l : List UInt8) (c : UInt8) : layH W 0 (l ++ [c]) = (layH W 0 l).set (l.length / 16) (hexStep ((layH W 0 l).getD (l.length / 16) 0) c) := by
  rw [layH_append, Nat.zero_add]; rfl
/-- the words while they are laid -/
def wordsH (t : List UInt8) (j : Nat) : List Nat := layH (List.replicate (t.length / 16) 0) 0 (t.take j)
def castU (L : List Nat) : List Int := L.map fun n : Nat => (n : Int)
theorem wordsH_len (t : List UInt8) (j : Nat) : (wordsH t j).length = t.length / 16 := by unfold wordsH; rw [layH_len, List.length_replicate]
theorem wordsH_more {t : List UInt8} {j : Nat} (h : j < t.length) : wordsH t (j + 1) = (wordsH t j).set (j / 16) (hexStep ((wordsH t j).getD (j / 16) 0) t[j]) := by
  unfold wordsH
  rw [List.take_succ_eq_append_getElem h, layH_snoc, List.length_take, Nat.min_eq_left (by omega)]
theorem castU_get (L : List Nat) (q : Nat) : (castU L).getD q 0 = ((L.getD q 0 : Nat) : Int) := by
  unfold castU
  rw [List.getD, List.getD, List.getElem?_map]
  cases L[q]? <;> rfl
theorem castU_set (L : List Nat) (q x : Nat) : (castU L).set q (x : Int) = castU (L.set q x) := by
  unfold castU; rw [List.map_set]
/-- no error, or a text that is none -/
def errO {α : Type} (P : Option α) : Int := if P.isSome = true then 0 else 14
def ParseBPost (t : List UInt8) (w : World) (e : Ending) (w' : World) : Prop :=
  ∃ v, e = .returned (.tuple #[v, .int .i64 (errO (parseB t))]) ∧ BitsAt w' (fun b => w.heap.size ≤ b) v ((parseB t).getD noBits) ∧ Below w.heap.size w w'
theorem BitsAt.none (w : World) (S : Nat → Prop) : BitsAt w S (.agg #[.int .i64 0, .slice none 0 0]) noBits := ⟨_, rfl, Vec.nil _ _ _ _⟩
/-- where Parse stands: the result's box, the array's, its words -/
structure PbAt (w : World) (g k m : Nat) (t : List UInt8) (j : Nat) (wr : World) : Prop where
  z : wr.heap[w.heap.size]? = some (.cells #[.int .i64 0, .slice none 0 0] 84 (0, 0))
  o : wr.heap[k]? = some (.cells #[.int .i64 (4 * (t.length : Int)), .slice (some ⟨g, 0, none⟩) m m] 84 (0, 0))
  g : wr.heap[g]? = some (.cells ((castU (wordsH t j)).flatMap encU).toArray 43 (0, 0))
  b : Below w.heap.size w wr
set_option maxHeartbeats 8000000 in
theorem bparse_any (t : List UInt8) (w : World) (ht : t.length ≤ 1000000000) : Calls Tryz.prog 57 #[strV t] w (ParseBPost t w) := by
  have hw4 : IntKind.i64.wrap (4 * (t.length : Int)) = 4 * (t.length : Int) := by rw [IntKind.wrap_i64]; omega
  cases hr : rightB (4 * (t.length : Int))
  · have hp : parseB t = none := by unfold parseB; rw [hr]; rfl
    unfold ParseBPost
    rw [hp]
    have HR := Lib.hid hr
    have dne : ((2 : Int) != 0) = true := rfl
    clear hr hp
    go_enter Tryz.func57, Tryz.ntmps57
    go_wp2_with fail
    refine wp_calls_world (fun W hW => ?_)
    have hb0 : Below w.heap.size w W := by rw [hW]; exact (Below.refl w.heap.size w).alloc (Nat.le_refl _) _
    have hz0 : W.heap[w.heap.size]? = some (.cells #[.int .i64 0, .slice none 0 0] 84 (0, 0)) := by rw [hW]; exact blk_new rfl
    clear hW
    refine (bnew_no _ _ HR.out (by omega) (by omega)).mono ?_
    rintro e w1 ⟨rfl, hb⟩
    have hz1 := blk_below hb (lt_of_blk hz0) hz0
    have HB1 := Lib.hid (hb0.trans (hb.mono hb0.size)); have HZ1 := Lib.hid hz1
    obtain ⟨z0, z1⟩ := cells2K hz1
    have f0 := frozen_of_row _ _ 0 _ _ hz1; have f1 := frozen_of_row _ _ 1 _ _ hz1
    have lz := lt_of_blk hz1
    clear hb hb0 hz0 hz1
    go_wp2_with fail
    refine bodyPost_row2 rfl rfl (blk_old (blk_set (i := 1) (v := .slice none 0 0) (blk_set (i := 0) (v := .int .i64 0) HZ1.out))) Tryz.underlying84 rfl (by kernel_rfl)
      ⟨_, rfl, BitsAt.none _ _, ((HB1.out.setCell (p := ⟨w.heap.size, 0, none⟩) (Nat.le_refl _) _).setCell (p := ⟨w.heap.size, 1, none⟩) (Nat.le_refl _) _).alloc (by simpa [World.setCell] using HB1.out.size) _⟩
  · have hr0 := hr
    unfold rightB at hr0
    simp only [Bool.and_eq_true, decide_eq_true_eq, beq_iff_eq] at hr0
    obtain ⟨P, hP⟩ : ∃ P, parseB t = P := ⟨_, rfl⟩
    have hP2 : (if t.all isHex = true then some (⟨4 * (t.length : Int), castU (wordsH t t.length)⟩ : BitsL) else none) = P := by
      rw [← hP]; unfold parseB; rw [if_pos hr]; unfold wordsH; rw [List.take_length]; rfl
    unfold ParseBPost
    rw [hP]
    have HR := Lib.hid hr; have HP := Lib.hid hP2
    have dz : ((0 : Int) != 0) = false := rfl
    clear hr hP hP2
    go_enter Tryz.func57, Tryz.ntmps57
    go_wp2_with fail
    refine wp_calls_world (fun W hW => ?_)
    have hb0 : Below w.heap.size w W := by rw [hW]; exact (Below.refl w.heap.size w).alloc (Nat.le_refl _) _
    have hz0 : W.heap[w.heap.size]? = some (.cells #[.int .i64 0, .slice none 0 0] 84 (0, 0)) := by rw [hW]; exact blk_new rfl
    clear hW
    refine (bnew_yes _ W HR.out).mono ?_
    rintro e w1 ⟨g, m, rfl, hn, hg, hgc, hb⟩
    have hm : t.length = 16 * m := by omega
    have hzw : zeroW (4 * (t.length : Int)) = castU (wordsH t 0) := by
      unfold zeroW wordsH castU
      rw [List.take_zero]
      unfold layH
      rw [List.map_replicate, show (4 * (t.length : Int) / 64).toNat = t.length / 16 by omega]; rfl
    rw [hzw] at hgc
    have hz1 := blk_below hb (lt_of_blk hz0) hz0
    have HB1 := Lib.hid (hb0.trans (hb.mono hb0.size)); have HZ1 := Lib.hid hz1; have HG1 := Lib.hid hgc
    have zh := lt_of_blk hz0
    have lz := lt_of_blk hz1; have lg := lt_of_blk hgc
    have HM := Lib.hid hm
    clear hb hb0 hz0 hz1 hgc hzw hm hn
    go_wp2_with fail
    refine wp_world (fun W2 hW2 => ?_)
    have hp0 : PbAt w g w1.heap.size m t 0 W2 := by
      rw [hW2]
      exact ⟨blk_old HZ1.out, blk_new rfl, blk_old HG1.out, HB1.out.alloc HB1.out.size _⟩
    have HP0 := Lib.hid hp0
    clear hW2 hp0
    go_loopw [6, 7, 8, 21] (fun _ _ _ i wr => ∃ j : Nat, i = .int .i64 j ∧ j ≤ t.length ∧ Hid ((t.take j).all isHex = true) ∧ PbAt w g w1.heap.size m t j wr) (fun _ _ _ i _ => t.length - (intOf i).toNat)
    case atStart => exact ⟨0, rfl, by omega, Lib.hid rfl, HP0.out⟩
    case round =>
      obtain ⟨j, rfl, hj, HT, hp⟩ := hrel
      have HPr := Lib.hid hp
      clear hp HP0
      by_cases hlt : j < t.length
      · have hq1 : decide ((j : Int) < (t.length : Int)) = true := by simp; omega
        have hji : (j : Int) < (t.length : Int) := by omega
        obtain ⟨c, hc⟩ : ∃ c, t[j] = c := ⟨_, rfl⟩
        have hgx : ∀ h : j < (⟨t.toArray⟩ : ByteArray).size, (⟨t.toArray⟩ : ByteArray)[j]'h = c := fun h => hc
        have HC := Lib.hid hc
        have hcall := fun w => hvalue_any c w
        clear hc
        cases hx : isHex c
        · have hPn : P = none := by
            rw [← HP.out, if_neg]
            intro h
            have := List.all_eq_true.1 h c (by rw [← HC.out]; exact List.getElem_mem hlt)
            rw [hx] at this; cases this
          have HPn := Lib.hid hPn
          rw [hx] at hcall
          obtain ⟨z0, z1⟩ := cells2K HPr.out.z
          have f0 := frozen_of_row _ _ 0 _ _ HPr.out.z; have f1 := frozen_of_row _ _ 1 _ _ HPr.out.z
          clear hx hPn HT
          go_wp2_with fail
          refine (hcall _).mono ?_
          rintro e w2 ⟨rfl, rfl⟩
          go_wp2_with fail
          have hE : errO P = 14 := by rw [HPn.out]; rfl
          have hG : P.getD noBits = noBits := by rw [HPn.out]; rfl
          rw [hE, hG]
          exact bodyPost_row2 rfl rfl (blk_set (i := 1) (v := .slice none 0 0) (blk_set (i := 0) (v := .int .i64 0) HPr.out.z)) Tryz.underlying84 rfl (by kernel_rfl)
            ⟨_, rfl, BitsAt.none _ _, (HPr.out.b.setCell (p := ⟨w.heap.size, 0, none⟩) (Nat.le_refl _) _).setCell (p := ⟨w.heap.size, 1, none⟩) (Nat.le_refl _) _⟩
        · have hmore : (t.take (j + 1)).all isHex = true := by
            rw [List.take_succ_eq_append_getElem hlt, List.all_append, HT.out, HC.out]; simp [hx]
          have HT2 := Lib.hid hmore
          have hwm := wordsH_more hlt
          rw [HC.out] at hwm
          obtain ⟨q, hq⟩ : ∃ q, j / 16 = q := ⟨_, rfl⟩
          have hqm : q < m := by have := HM.out; omega
          obtain ⟨x, hxx⟩ : ∃ x, (wordsH t j).getD q 0 = x := ⟨_, rfl⟩
          rw [hq, hxx] at hwm
          have hv16 : valV c < 16 := by
            unfold valV
            cases hv : valH c with
            | none => simp
            | some v => simpa using valH_lt hv
          have hst : hexStep x c = (x * 16 + valV c) % 18446744073709551616 := rfl
          rw [hst] at hwm
          have hor := or_nib x (valV c) hv16
          obtain ⟨v, hv⟩ : ∃ v, valV c = v := ⟨_, rfl⟩
          rw [hv] at hor hwm hcall
          obtain ⟨y, hy⟩ : ∃ y, (x * 16 + v) % 18446744073709551616 = y := ⟨_, rfl⟩
          rw [hy] at hor hwm
          have hquo : IntKind.i64.wrap ((j : Int).tdiv 16) = (q : Int) := by rw [IntKind.wrap_i64, Int.tdiv_eq_ediv_of_nonneg (by omega)]; omega
          have hquo2 : IntKind.i64.wrap ((j : Int) / 16) = (q : Int) := by rw [IntKind.wrap_i64]; omega
          have hqi : (q : Int) < (m : Int) := by omega
          have cg : wr.cell? ⟨g, q, none⟩ = some (.int .u64 (x : Int)) := by
            have hlen : q < (castU (wordsH t j)).length := by unfold castU; rw [List.length_map, wordsH_len]; have := HM.out; omega
            have h := word_cell HPr.out.g q hlen
            rw [castU_get, hxx] at h
            exact h
          obtain ⟨k0, k1⟩ := cells2K HPr.out.o
          have fg := frozen_of_row _ _ q _ _ HPr.out.g
          have HWm := Lib.hid hwm; have HQ := Lib.hid hq
          rw [hx] at hcall
          clear hwm hst hmore hxx hy hv hx hq hv16 HT
          go_wp2_with fail
          refine (hcall _).mono ?_
          rintro e w2 ⟨rfl, rfl⟩
          go_wp2_with fail
          refine wp_region_noPanic ?_
          refine wp_region_k (by kernel_rfl) (fun w' => w'.cell? ⟨w1.heap.size, 1, none⟩ = some (.slice (some ⟨g, 0, none⟩) m m) ∧ w'.cell? ⟨g, q, none⟩ = some (.int .u64 (x : Int))) 14 (⟨k1, cg⟩) (fun hHeld => ?_)
          refine tK 0 (h := ?_)
          try simp only [List.getElem_toArray, List.getElem_cons_zero, List.getElem_cons_succ, Act.put, List.setIfInBounds_toArray, List.set_cons_zero, List.set_cons_succ]
          refine tK 1 (h := ?_)
          try simp only [List.getElem_toArray, List.getElem_cons_zero, List.getElem_cons_succ, Act.put, List.setIfInBounds_toArray, List.set_cons_zero, List.set_cons_succ]
          refine tK 2 (h := ?_)
          try simp only [List.getElem_toArray, List.getElem_cons_zero, List.getElem_cons_succ, Act.put, List.setIfInBounds_toArray, List.set_cons_zero, List.set_cons_succ]
          refine tK 3 (h := ?_)
          try simp only [List.getElem_toArray, List.getElem_cons_zero, List.getElem_cons_succ, Act.put, List.setIfInBounds_toArray, List.set_cons_zero, List.set_cons_succ]
          refine tK 4 (h := ?_)
          try simp only [List.getElem_toArray, List.getElem_cons_zero, List.getElem_cons_succ, Act.put, List.setIfInBounds_toArray, List.set_cons_zero, List.set_cons_succ]
          refine tK 5 (h := ?_)
          try simp only [List.getElem_toArray, List.getElem_cons_zero, List.getElem_cons_succ, Act.put, List.setIfInBounds_toArray, List.set_cons_zero, List.set_cons_succ]
          refine tK 6 (h := ?_)
          try simp only [List.getElem_toArray, List.getElem_cons_zero, List.getElem_cons_succ, Act.put, List.setIfInBounds_toArray, List.set_cons_zero, List.set_cons_succ]
          refine tK 7 (h := ?_)
          try simp only [List.getElem_toArray, List.getElem_cons_zero, List.getElem_cons_succ, Act.put, List.setIfInBounds_toArray, List.set_cons_zero, List.set_cons_succ]
          refine tK 8 (h := ?_)
          try simp only [List.getElem_toArray, List.getElem_cons_zero, List.getElem_cons_succ, Act.put, List.setIfInBounds_toArray, List.set_cons_zero, List.set_cons_succ]
          refine tK 9 (h := ?_)
          try simp only [List.getElem_toArray, List.getElem_cons_zero, List.getElem_cons_succ, Act.put, List.setIfInBounds_toArray, List.set_cons_zero, List.set_cons_succ]
          refine tK 10 (h := ?_)
          try simp only [List.getElem_toArray, List.getElem_cons_zero, List.getElem_cons_succ, Act.put, List.setIfInBounds_toArray, List.set_cons_zero, List.set_cons_succ]
          refine tK 11 (h := ?_)
          try simp only [List.getElem_toArray, List.getElem_cons_zero, List.getElem_cons_succ, Act.put, List.setIfInBounds_toArray, List.set_cons_zero, List.set_cons_succ]
          refine tK 12 (h := ?_)
          try simp only [List.getElem_toArray, List.getElem_cons_zero, List.getElem_cons_succ, Act.put, List.setIfInBounds_toArray, List.set_cons_zero, List.set_cons_succ]
          refine tK 13 (h := ?_)
          try simp only [List.getElem_toArray, List.getElem_cons_zero, List.getElem_cons_succ, Act.put, List.setIfInBounds_toArray, List.set_cons_zero, List.set_cons_succ]
          refine wpAnyK_ready (rs := [14]) (by kernel_rfl) (by simp) ?_
          refine AllReadyK.cons rfl (fun K hK => ?_) AllReadyK.nil
          go_simp
          skip
          refine shutK_off hK (by decide) ?_
          clear hK K
          try simp only [List.getElem_toArray, List.getElem_cons_zero, List.getElem_cons_succ, Act.put, List.setIfInBounds_toArray, List.set_cons_zero, List.set_cons_succ]
          refine wpAnyK_done (by kernel_rfl) ?_ _
          refine NoPanic.normal ?_
          go_wp2_with fail
          go_roundw
          case rel =>
            refine ⟨j + 1, by go_num, by omega, HT2, ?_⟩
            have zk : w.heap.size < w1.heap.size := lz
            refine ⟨blk_far HPr.out.z (by show w.heap.size ≠ g; omega), blk_far HPr.out.o (by show w1.heap.size ≠ g; omega), ?_, (HPr.out.b.setCell (p := ⟨g, q, none⟩) (by show w.heap.size ≤ g; omega) _).drew⟩
            have h := blk_set (i := q) (v := .int .u64 (y : Int)) HPr.out.g
            rw [word_set, castU_set, ← HWm.out] at h
            exact h
          case measure => simp [intOf]; omega
      · have hq1 : decide ((j : Int) < (t.length : Int)) = false := by simp; omega
        obtain rfl : j = t.length := by omega
        have hall : t.all isHex = true := by have := HT.out; rwa [List.take_length] at this
        have hPs : P = some (⟨4 * (t.length : Int), castU (wordsH t t.length)⟩ : BitsL) := by rw [← HP.out, if_pos hall]
        have HPs := Lib.hid hPs
        obtain ⟨z0, z1⟩ := cells2K HPr.out.z; obtain ⟨k0, k1⟩ := cells2K HPr.out.o
        have f0 := frozen_of_row _ _ 0 _ _ HPr.out.z; have f1 := frozen_of_row _ _ 1 _ _ HPr.out.z
        clear hall hPs HT
        go_wp2_with fail
        have hE : errO P = 0 := by rw [HPs.out]; rfl
        have hG : P.getD noBits = ⟨4 * (t.length : Int), castU (wordsH t t.length)⟩ := by rw [HPs.out]; rfl
        rw [hE, hG]
        refine bodyPost_row2 rfl rfl (blk_set (i := 1) (v := .slice (some ⟨g, 0, none⟩) m m) (blk_set (i := 0) (v := .int .i64 (4 * (t.length : Int))) HPr.out.z)) Tryz.underlying84 rfl (by kernel_rfl)
          ⟨_, rfl, ⟨_, rfl, ?_⟩, (HPr.out.b.setCell (p := ⟨w.heap.size, 0, none⟩) (Nat.le_refl _) _).setCell (p := ⟨w.heap.size, 1, none⟩) (Nat.le_refl _) _⟩
        have h := blk_far (a := ⟨w.heap.size, 1, none⟩) (v := .slice (some ⟨g, 0, none⟩) m m) (blk_far (a := ⟨w.heap.size, 0, none⟩) (v := .int .i64 (4 * (t.length : Int))) HPr.out.g (by show g ≠ w.heap.size; omega)) (by show g ≠ w.heap.size; omega)
        exact blockVec (k := 1) (enc := encU) (L := castU (wordsH t t.length)) (S := fun b => w.heap.size ≤ b) (A := g) (fun _ => rfl) h (by show w.heap.size ≤ g; omega) m (by unfold castU; rw [List.length_map, wordsH_len]; have := HM.out; omega)
end
section
set_option maxRecDepth 100000
open Go.RowKit Cal
attribute [local go_sem] toList_mk mk_size str_append
def ReadEPost (t : List UInt8) (w : World) (e : Ending) (w' : World) : Prop :=
  ∃ v, e = .returned (.tuple #[v, .int .i64 (errO (readE t))]) ∧ BitsAt w' (fun b => w.heap.size ≤ b) v ((readE t).getD noBits) ∧ Below w.heap.size w w'
set_option maxHeartbeats 4000000 in
theorem eread_any (i : Int) (t : List UInt8) (w : World) (ht : t.length ≤ 1000000000) : Calls Tryz.prog 56 #[.int .i64 i, strV t] w (ReadEPost t w) := by
  unfold ReadEPost readE
  by_cases h : t = [45]
  · subst h
    rw [if_pos rfl]
    go_enter Tryz.func56, Tryz.ntmps56
    go_wp2_with fail
    exact bodyPost_row2 rfl rfl (blk_new rfl) Tryz.underlying84 rfl (by kernel_rfl)
      ⟨_, rfl, BitsAt.none _ _, (Below.refl w.heap.size w).alloc (Nat.le_refl _) _⟩
  · rw [if_neg h]
    have d : (t == [45]) = false := by simpa using h
    have hcall := fun w => bparse_any t w ht
    unfold ParseBPost at hcall
    obtain ⟨P, hP⟩ : ∃ P, parseB t = P := ⟨_, rfl⟩
    rw [hP] at hcall ⊢
    have HC := Lib.hid hcall
    clear hcall hP h
    go_enter Tryz.func56, Tryz.ntmps56
    go_wp2_with fail
    refine wp_calls_world (fun W hW => ?_)
    have hb0 : Below w.heap.size w W := by rw [hW]; exact (Below.refl w.heap.size w).alloc (Nat.le_refl _) _
    have hz0 : W.heap[w.heap.size]? = some (.cells #[.int .i64 0, .slice none 0 0] 84 (0, 0)) := by rw [hW]; exact blk_new rfl
    clear hW
    refine (HC.out W).mono ?_
    rintro e w1 ⟨v, rfl, hv, hb⟩
    obtain ⟨c, rfl, hA⟩ := hv.form
    obtain ⟨cl, ca, cn, cc⟩ := c
    have hz1 := blk_below hb (lt_of_blk hz0) hz0
    have HB1 := Lib.hid (hb0.trans (hb.mono hb0.size)); have HZ1 := Lib.hid hz1; have HA := Lib.hid hA
    have hzs := lt_of_blk hz0
    obtain ⟨z0, z1⟩ := cells2K hz1
    have f0 := frozen_of_row _ _ 0 _ _ hz1; have f1 := frozen_of_row _ _ 1 _ _ hz1
    have lz := lt_of_blk hz1
    clear hb hb0 hz0 hz1 hv hA
    go_wp2_with fail
    refine bodyPost_row2 rfl rfl (blk_set (i := 1) (v := .slice ca cn cc) (blk_set (i := 0) (v := .int .i64 cl) HZ1.out)) Tryz.underlying84 rfl (by kernel_rfl)
      ⟨_, rfl, ?_, (HB1.out.setCell (p := ⟨w.heap.size, 0, none⟩) (Nat.le_refl _) _).setCell (p := ⟨w.heap.size, 1, none⟩) (Nat.le_refl _) _⟩
    obtain ⟨s, es, hvec⟩ := HA.out
    refine ⟨s, es, hvec.move (by simp [World.setCell]) fun b hb hs => ?_⟩
    have hs' : W.heap.size ≤ b := hs
    exact ⟨(heap_setCell_other _ _ _ _ (by show b ≠ w.heap.size; omega)).trans (heap_setCell_other _ _ _ _ (by show b ≠ w.heap.size; omega)), by show w.heap.size ≤ b; omega⟩
theorem readAll_bad {t : List UInt8} {l : List (List UInt8)} (h : readE t = none) : readAll (t :: l) = none := by rw [readAll, h]
theorem readAll_more {t : List UInt8} {l : List (List UInt8)} {b : BitsL} (h : readE t = some b) (M : List BitsL) : (readAll (t :: l)).map (M ++ ·) = (readAll l).map ((M ++ [b]) ++ ·) := by
  rw [readAll, h]
  cases readAll l with
  | none => rfl
  | some m => simp
def EachEPost (L : List (List UInt8)) (w : World) (e : Ending) (w' : World) : Prop :=
  ∃ v, e = .returned (.tuple #[v, .int .i64 (errO (readAll L))]) ∧ BitsVec w' (fun x => w.heap.size ≤ x) v ((readAll L).getD []) ∧ Below w.heap.size w w'
theorem BitsVec.nil (w : World) (S : Nat → Prop) : BitsVec w S (.slice none 0 0) [] := ⟨[], Vec.nil _ _ _ _, rfl, fun n h1 _ => by simp at h1⟩
set_option maxHeartbeats 8000000 in
theorem eeach_any (S : Nat → Prop) (v : Value) (L : List (List UInt8)) (w : World) (h : Vec w S 1 encS v L) (hl : ∀ t ∈ L, t.length ≤ 1000000000) (hn : L.length ≤ 1000000) :
    Calls Tryz.prog 55 #[v, .func (.func 56) #[] #[]] w (EachEPost L w) := by
  unfold EachEPost
  obtain ⟨a, cap, rfl⟩ := h.slice
  obtain ⟨P, hP⟩ : ∃ P, readAll L = P := ⟨_, rfl⟩
  rw [hP]
  have h0 : (readAll (L.drop 0)).map (([] : List BitsL) ++ ·) = P := by
    rw [List.drop_zero, hP]
    cases P <;> rfl
  have HV := Lib.hid h.any; have HL := Lib.hid hl; have H0 := Lib.hid h0
  clear h hl hP h0
  go_enter Tryz.func55, Tryz.ntmps55
  go_wp2_with fail
  go_loopw [6, 7, 8, 9, 10, 13] (fun v _ _ _ _ i wr => ∃ (j : Nat) (C : List BV) (M : List BitsL), i = .int .i64 j ∧ j ≤ L.length ∧ C.length = j ∧ OwnV 84 2 encBV w v C wr ∧ BitsAll wr (OffRow w.heap.size v) C M ∧ Hid ((readAll (L.drop j)).map (M ++ ·) = P)) (fun _ _ _ _ _ i _ => L.length - (intOf i).toNat)
  case atStart => exact ⟨0, [], [], rfl, by omega, rfl, OwnV.start _ _ _ _, ⟨rfl, fun n h1 _ => by simp at h1⟩, H0⟩
  case round =>
    obtain ⟨j, C, M, rfl, hj, hCl, ho, hba, hM⟩ := hrel
    have HO := Lib.hid ho; have HBA := Lib.hid hba; have HCl := Lib.hid hCl
    clear ho hba hCl
    by_cases hlt : j < L.length
    · have hq : decide ((j : Int) < L.length) = true := by simp; omega
      have hji : (j : Int) < (L.length : Int) := by omega
      have hM1 := hM.out
      rw [List.drop_eq_getElem_cons hlt] at hM1
      obtain ⟨t, ht⟩ : ∃ t, L[j] = t := ⟨_, rfl⟩
      have htl := HL.out t (by rw [← ht]; exact List.getElem_mem _)
      obtain ⟨b, off, rfl, hb, hc⟩ := (HV.out.below HO.out.2).get j hlt
      rw [ht] at hc hM1
      have c0 := hc 0 _ rfl
      rw [Nat.mul_one, Nat.add_zero] at c0
      have hcall := fun w => eread_any (j : Int) t w htl
      unfold ReadEPost at hcall
      cases hre : readE t with
      | none =>
        rw [readAll_bad hre] at hM1
        have hPn : P = none := hM1.symm
        rw [hre] at hcall
        have HC := Lib.hid hcall; have HPn := Lib.hid hPn
        clear hcall hM1 hM hPn hre hc ht
        go_wp2_with fail
        refine (HC.out _).mono ?_
        rintro e w1 ⟨vb, rfl, hvb, hb1⟩
        obtain ⟨c, rfl, hcb⟩ := hvb.form
        obtain ⟨cl, ca, cn, cc⟩ := c
        have HBx := Lib.hid (HO.out.2.trans (hb1.mono HO.out.2.size))
        have d14 : ((14 : Int) != 0) = true := rfl
        clear hvb hcb hb1 c0
        have e14 : errO (none : Option BitsL) = 14 := rfl
        rw [e14]
        go_wp2_with fail
        go_ret2
        rw [HPn.out]
        exact ⟨_, rfl, BitsVec.nil _ _, HBx.out.alloc HBx.out.size _⟩
      | some bb =>
        rw [readAll_more hre] at hM1
        have hcall2 : ∀ w, Calls Tryz.prog 56 #[.int .i64 (j : Int), strV t] w fun e w' => ∃ v, e = .returned (.tuple #[v, .int .i64 0]) ∧ BitsAt w' (fun b => w.heap.size ≤ b) v bb ∧ Below w.heap.size w w' := by
          intro w
          refine (hcall w).mono ?_
          rintro e w' ⟨v, he, h1, h2⟩
          rw [hre] at he h1
          exact ⟨v, he, h1, h2⟩
        have HC := Lib.hid hcall2; have HM := Lib.hid hM1
        clear hcall hcall2 hM1 hM hre hc ht
        have dz : ((0 : Int) != 0) = false := rfl
        go_wp2_with fail
        refine (HC.out _).mono ?_
        rintro e w1 ⟨vb, rfl, hvb, hb2⟩
        obtain ⟨c, rfl, hcb⟩ := hvb.form
        have hwz := HO.out.2.size
        have hb3 : Below wr.heap.size wr ((w1.alloc (.cells (encBV c).toArray 84)).alloc (.cells (encBV c).toArray 84)) := (hb2.alloc hb2.size _).alloc (by have := hb2.size; simp; omega) _
        have HO2 := Lib.hid (HO.out.below hb3)
        have HR2 := Lib.hid (show Reads ((w1.alloc (.cells (encBV c).toArray 84)).alloc (.cells (encBV c).toArray 84)) 2 (.slice (some ⟨w1.heap.size + 1, 0, none⟩) 1 1) [c].length ([c].flatMap encBV) from reads_block (xs := [c].flatMap encBV) (fr := (0, 0)) (t := 84) (blk_new (by simp)) rfl)
        have hown6 : ∀ x, wr.heap.size ≤ x → some x ≠ u6.ownBlock := by
          intro x hx
          rcases HO.out.1.2 with ⟨h0, _⟩ | ⟨g, cap, cur, h0, hg, hh, _⟩
          · rw [h0]; simp [Value.ownBlock]
          · rw [h0]; have := lt_of_blk hh; simp [Value.ownBlock]; omega
        have HCB := Lib.hid (BitsAt.weaken (T := fun x => some x ≠ u6.ownBlock ∧ w.heap.size ≤ x) hcb (fun x hx => ⟨hown6 x hx, by have hx' : wr.heap.size ≤ x := hx; omega⟩))
        have HBA2 := Lib.hid (HBA.out.below hb2)
        have hcn : C.length + [c].length ≤ 1000000000 := by rw [HCl.out]; simp only [List.length_cons, List.length_nil]; omega
        have HB3 := Lib.hid hb3
        obtain ⟨cl, ca, cn, cc⟩ := c
        clear hvb hb2 hb3 hcb c0
        go_wp2_with (at_builtin; refine wpList_append_at rfl (.tmp 28) (.tmp 30) 35 rfl 84 (.agg #[.int .i64 0, .slice none 0 0]) 2 32 encBV (fun _ => rfl) one_encBV Tryz.underlying35 infoBits rfl (by decide) (by decide) (w0 := w) (v := u6) (A := C) (B := [⟨cl, ca, cn, cc⟩]) rfl HO2.out rfl HR2.out hcn ?_; intro v2 w2 ho2 hk2 hz2 hat2)
        have hba : BitsAll w1 (fun x => some x ≠ u6.ownBlock ∧ w.heap.size ≤ x) (C ++ [⟨cl, ca, cn, cc⟩]) (M ++ [bb]) := (HBA2.out.weaken fun x hx => ⟨hx.2, hx.1⟩).snoc HCB.out
        go_roundw
        case rel =>
          refine ⟨j + 1, C ++ [⟨cl, ca, cn, cc⟩], M ++ [bb], by go_num, by omega, by rw [List.length_append, HCl.out]; rfl, ho2, hba.move ?_ ?_, HM⟩
          · simp at hz2; omega
          · intro x hx hS
            obtain ⟨q1, q2⟩ := hS
            refine ⟨?_, q2, ?_⟩
            · obtain ⟨ob, hob⟩ : ∃ ob, w1.heap[x]? = some ob := ⟨_, Array.getElem?_eq_getElem hx⟩
              rw [hob]
              exact hk2 x ob q1 (blk_old (blk_old hob))
            · rcases hat2 with h1 | h1 | h1
              · rw [h1]; simp
              · rw [← h1]; exact q1
              · rw [h1]; simp; omega
        case measure => simp [intOf]; omega
    · have hq : decide ((j : Int) < L.length) = false := by simp; omega
      obtain rfl : j = L.length := by omega
      have hM1 := hM.out
      rw [List.drop_length] at hM1
      have hPs : P = some M := by rw [← hM1]; simp [readAll]
      subst hPs
      clear hM1 hM
      go_wp2_with fail
      go_ret2
      exact ⟨_, rfl, ⟨C, (OwnV.vec (size := 2) (enc := encBV) (fun _ => rfl) HO.out), HBA.out.weaken fun x hx => hx.1⟩, HO.out.2⟩
end
section
set_option maxRecDepth 100000
open Go.RowKit Cal
attribute [local go_sem] toList_mk mk_size str_append
def noEnc : EncL := ⟨0, 0, []⟩
theorem splC_mem (c : UInt8) : ∀ (l p : List UInt8) (t : List UInt8), t ∈ splC c p l → t.length ≤ p.length + l.length
  | [], p, t, h => by simp [splC] at h; subst h; simp
  | x :: r, p, t, h => by
    rw [splC] at h
    split at h
    · rcases List.mem_cons.1 h with rfl | h1
      · simp
      · have := splC_mem c r [] t h1; simp at this; simp; omega
    · have := splC_mem c r (p ++ [x]) t h; simp at this; simp; omega
theorem splC_few (c : UInt8) : ∀ (l p : List UInt8), (splC c p l).length ≤ l.length + 1
  | [], p => by simp [splC]
  | x :: r, p => by
    rw [splC]
    split
    · have := splC_few c r []; simp; omega
    · have := splC_few c r (p ++ [x]); simp; omega
def EncParsed (t : List UInt8) (w : World) (e : Ending) (w' : World) : Prop :=
  ∃ v, e = .returned (.tuple #[v, .int .i64 (errO (parseE t))]) ∧ EncVal w' (fun b => w.heap.size ≤ b) v ((parseE t).getD noEnc) ∧ Below w.heap.size w w'
theorem EncVal.none (w : World) (S : Nat → Prop) : EncVal w S (.agg #[.int .i64 0, .int .i64 0, .slice none 0 0]) noEnc := ⟨_, rfl, BitsVec.nil _ _⟩
/-- the words behind the first two -/
theorem RowB.from2 {w : World} {A : Nat} {L : List (List UInt8)} (h : RowB w A L) (h2 : 2 < L.length) (c : Nat) (hc : L.length - 2 ≤ c) : Vec w Any1 1 encS (.slice (some ⟨A, 2, none⟩) (L.length - 2) c) (L.drop 2) := by
  refine ⟨_, c, by rw [List.length_drop], by rw [List.length_drop]; exact hc, fun h0 => ⟨A, 2, rfl, trivial, lt_of_blk h, fun j x hj i u hu => ?_⟩⟩
  have hi : i = 0 ∧ u = strV x := by
    cases i with
    | zero => exact ⟨rfl, by simpa [encS] using hu.symm⟩
    | succ i => simp [encS] at hu
  obtain ⟨rfl, rfl⟩ := hi
  rw [List.getElem?_drop] at hj
  have hlt : 2 + j < L.length := (List.getElem?_eq_some_iff.1 hj).1
  have := RowB.cell h (2 + j) hlt
  rw [show L.getD (2 + j) [] = x by simp [List.getD, hj]] at this
  rw [Nat.mul_one, Nat.add_zero]; exact this
set_option maxHeartbeats 8000000 in
theorem eparse_any (t : List UInt8) (w : World) (hvr : VarsAt w) (ht : t.length ≤ 100000) : Calls Tryz.prog 18 #[strV t] w (EncParsed t w) := by
  have hsz := fun x hx => splC_mem 32 t [] x hx
  have hfw := splC_few 32 t []
  obtain ⟨R, hR⟩ : ∃ R, parseE t = R := ⟨_, rfl⟩
  obtain ⟨L, hL⟩ : ∃ L, splC 32 [] t = L := ⟨_, rfl⟩
  unfold EncParsed
  rw [hR]
  unfold parseE at hR
  rw [hL] at hR hsz hfw
  have HVr := Lib.hid hvr; have HL := Lib.hid hL; have HSz := Lib.hid hsz; have HR := Lib.hid hR
  clear hvr hL hsz hR
  go_enter Tryz.func18, Tryz.ntmps18
  go_wp2_with fail
  refine wp_calls_world (fun W hW => ?_)
  have hb0 : Below w.heap.size w W := by rw [hW]; exact (Below.refl w.heap.size w).alloc (Nat.le_refl _) _
  have hz0 : W.heap[w.heap.size]? = some (.cells #[.int .i64 0, .int .i64 0, .slice none 0 0] 37 (0, 0)) := by rw [hW]; exact blk_new rfl
  clear hW
  refine (split_any 32 t W (HVr.out.old hb0).m (by omega)).mono ?_
  rw [HL.out]
  rintro e w1 ⟨rfl, hrow, hb⟩
  have hz1 := blk_below hb (lt_of_blk hz0) hz0
  have HB1 := Lib.hid (hb0.trans (hb.mono hb0.size)); have HZ1 := Lib.hid hz1; have HRow := Lib.hid hrow
  have zW := hb0.size; have zh := lt_of_blk hz0
  clear hb hb0 hz0 hz1 hrow
  by_cases h2 : L.length < 2
  · have d2 : decide ((L.length : Int) < 2) = true := by simp; omega
    have hRn := HR.out
    rw [if_pos h2] at hRn
    subst hRn
    obtain ⟨z0, z1, z2⟩ := cells3 HZ1.out
    have f0 := frozen_of_row _ _ 0 _ _ HZ1.out; have f1 := frozen_of_row _ _ 1 _ _ HZ1.out; have f2 := frozen_of_row _ _ 2 _ _ HZ1.out
    have lz := lt_of_blk HZ1.out
    clear h2
    go_wp2_with fail
    refine bodyPost_row2 rfl rfl (blk_set (i := 2) (v := .slice none 0 0) (blk_set (i := 1) (v := .int .i64 0) (blk_set (i := 0) (v := .int .i64 0) HZ1.out))) Tryz.underlying37 rfl (by kernel_rfl)
      ⟨_, rfl, EncVal.none _ _, ((HB1.out.setCell (p := ⟨w.heap.size, 0, none⟩) (Nat.le_refl _) _).setCell (p := ⟨w.heap.size, 1, none⟩) (Nat.le_refl _) _).setCell (p := ⟨w.heap.size, 2, none⟩) (Nat.le_refl _) _⟩
  · have d2 : decide ((L.length : Int) < 2) = false := by simp; omega
    have hRn := HR.out
    rw [if_neg h2] at hRn
    have HR2 := Lib.hid hRn
    have c0 := RowB.cell HRow.out 0 (by omega)
    have c1 := RowB.cell HRow.out 1 (by omega)
    obtain ⟨x, hx⟩ : ∃ x, L.getD 0 [] = x := ⟨_, rfl⟩
    obtain ⟨y, hy⟩ : ∃ y, L.getD 1 [] = y := ⟨_, rfl⟩
    have hxl : x.length ≤ 1000000000 := by have := HSz.out (L.getD 0 []) (by rw [getD_at _ _ (show 0 < L.length by omega)]; exact List.getElem_mem _); rw [hx] at this; simp at this; omega
    have hyl : y.length ≤ 1000000000 := by have := HSz.out (L.getD 1 []) (by rw [getD_at _ _ (show 1 < L.length by omega)]; exact List.getElem_mem _); rw [hy] at this; simp at this; omega
    rw [hx, hy] at HR2
    rw [hx] at c0; rw [hy] at c1
    have i0 : (0 : Int) < (L.length : Int) := by omega
    have i1 : (1 : Int) < (L.length : Int) := by omega
    have i2 : (2 : Int) ≤ (L.length : Int) := by omega
    have hv1 := HVr.out.old HB1.out
    have lrow := lt_of_blk HRow.out
    clear hRn hx hy HR
    go_wp2_with fail
    refine (atoi_any x hxl _ hv1).mono ?_
    rintro e w2 ⟨⟨e2, rfl⟩, hb2⟩
    have c1' := (hb2.cell (p := ⟨W.heap.size, 1, none⟩) lrow).trans c1
    have hz2 := blk_below hb2 (lt_of_blk HZ1.out) HZ1.out
    have HRow2 := Lib.hid (show RowB w2 W.heap.size L from blk_below hb2 lrow HRow.out)
    have HB2 := Lib.hid (HB1.out.trans (hb2.mono HB1.out.size)); have HZ2 := Lib.hid hz2
    have hv2 := HVr.out.old HB2.out
    have lrow2 := lt_of_blk HRow2.out
    clear hb2 hz2 hv1 c0 c1 HZ1 HRow
    go_wp2_with fail
    refine (atoi_any y hyl _ hv2).mono ?_
    rintro e w3 ⟨⟨e3, rfl⟩, hb3⟩
    have hz3 := blk_below hb3 (lt_of_blk HZ2.out) HZ2.out
    have HRow3 := Lib.hid (show RowB w3 W.heap.size L from blk_below hb3 lrow2 HRow2.out)
    have HB3 := Lib.hid (HB2.out.trans (hb3.mono HB2.out.size)); have HZ3 := Lib.hid hz3
    clear hb3 hz3 hv2 c1' HZ2 HRow2
    have hv3 := HVr.out.old HB3.out
    have HV3 := Lib.hid hv3
    have hdl : ∀ u ∈ L.drop 2, u.length ≤ 1000000000 := fun u hu => by have := HSz.out u (List.mem_of_mem_drop hu); simp at this; omega
    have hdn : (L.drop 2).length ≤ 1000000 := by rw [List.length_drop]; omega
    obtain ⟨P, hP⟩ : ∃ P, readAll (L.drop 2) = P := ⟨_, rfl⟩
    have hR2 := HR2.out
    rw [hP] at hR2
    have hPin := fun fs h => (readAll_in (L.drop 2) fs (hP.trans h))
    have hPl : (P.getD []).length ≤ 1000000 ∧ ∀ b ∈ P.getD [], HexIn b := by
      cases hPP : P with
      | none => exact ⟨by decide, fun b hb => by cases hb⟩
      | some fs =>
        obtain ⟨h1, h2⟩ := hPin fs hPP
        exact ⟨by show fs.length ≤ _; rw [h1]; exact hdn, h2⟩
    obtain ⟨M, hM⟩ : ∃ M, P.getD [] = M := ⟨_, rfl⟩
    rw [hM] at hPl
    have hfin : (errO P = 14 ∧ R = none) ∨ (errO P = 0 ∧ R = parsedE t ⟨atoiV x, atoiV y, M⟩) := by
      cases hPP : P with
      | none => rw [hPP] at hR2; exact .inl ⟨rfl, hR2.symm⟩
      | some fs => rw [hPP] at hR2 hM; obtain rfl : fs = M := hM; exact .inr ⟨rfl, hR2.symm⟩
    have HFin := Lib.hid hfin; have HPl := Lib.hid hPl; have HM := Lib.hid hM; have HPP := Lib.hid hP
    have heach := fun v h => eeach_any Any1 v (L.drop 2) w3 h hdl hdn
    unfold EachEPost at heach
    rw [hP, hM] at heach
    have HE := Lib.hid heach
    clear hv3 hR2 HR2 hPin hPl hM hfin hP heach hdl hdn
    have hcase : L.length = 2 ∨ 2 < L.length := by omega
    obtain ⟨Z, hZ⟩ : ∃ Z : EncL, (⟨atoiV x, atoiV y, M⟩ : EncL) = Z := ⟨_, rfl⟩
    rcases hcase with hl2 | hl2
    · have hvec : Vec w3 Any1 1 encS (.slice (some ⟨W.heap.size, 0, none⟩) 0 0) (L.drop 2) := by
        rw [List.drop_eq_nil_of_le (by omega)]
        exact ⟨_, 0, rfl, by simp, by simp⟩
      have HVec := Lib.hid hvec
      clear hvec
      go_wp2_with fail
      refine (HE.out _ HVec.out).mono ?_
      rintro e w4 ⟨_, rfl, hbv, hb⟩
      obtain ⟨av, cv, rfl⟩ := hbv.slice
      have hz4 := blk_below hb (lt_of_blk HZ3.out) HZ3.out
      have HB4 := Lib.hid (HB3.out.trans (hb.mono HB3.out.size)); have HZ4 := Lib.hid hz4
      have HBV := Lib.hid (hbv.move (w' := w4) (T := fun b => w.heap.size < b) (Nat.le_refl _) fun b _ hs => ⟨rfl, by have hs' : w3.heap.size ≤ b := hs; have h1 := HB3.out.size; have h2 := lt_of_blk HZ3.out; show w.heap.size < b; omega⟩)
      have HV4 := Lib.hid (HV3.out.old hb)
      clear hb hbv hz4 hl2 HVec HRow3
      go_wp2_with fail
      refine wp_calls_world (fun W5 hW5 => ?_)
      have hb5 : Below w4.heap.size w4 W5 := by rw [hW5]; exact (Below.refl w4.heap.size w4).alloc (Nat.le_refl _) _
      have hx5 : W5.heap[w4.heap.size]? = some (.cells #[.int .i64 (atoiV x), .int .i64 (atoiV y), .slice av M.length cv] 37 (0, 0)) := by rw [hW5]; exact blk_new rfl
      clear hW5
      have hln := eline_any Any1 (.agg #[.int .i64 (atoiV x), .int .i64 (atoiV y), .slice av M.length cv]) Z W5 (by rw [← hZ]; exact ⟨_, rfl, (HBV.out.below hb5).move (T := Any1) (Nat.le_refl _) fun b hb _ => ⟨rfl, trivial⟩⟩) (HV4.out.old hb5) (by rw [← hZ]; exact HPl.out.2) (by rw [← hZ]; exact HPl.out.1)
      refine hln.mono ?_
      rintro e w6 ⟨rfl, hb⟩
      have hx6 := blk_below hb (lt_of_blk hx5) hx5
      have hz6 := blk_below hb (lt_of_blk (blk_below hb5 (lt_of_blk HZ4.out) HZ4.out)) (blk_below hb5 (lt_of_blk HZ4.out) HZ4.out)
      have HB6 := Lib.hid ((HB4.out.trans (hb5.mono HB4.out.size)).trans (hb.mono (Nat.le_trans HB4.out.size hb5.size)))
      have HBV6 := Lib.hid ((HBV.out.below hb5).below hb)
      have HX6 := Lib.hid hx6; have HZ6 := Lib.hid hz6; have HZZ := Lib.hid hZ
      obtain ⟨x0, x1, x2⟩ := cells3 hx6
      obtain ⟨z0, z1, z2⟩ := cells3 hz6
      have f0 := frozen_of_row _ _ 0 _ _ hz6; have f1 := frozen_of_row _ _ 1 _ _ hz6; have f2 := frozen_of_row _ _ 2 _ _ hz6
      have lz := lt_of_blk hz6; have lx := lt_of_blk hx6
      have hbad : ∀ ER, ER = (14 : Int) → R = none → (fun e w' => ∃ v, e = Ending.returned (.tuple #[v, .int .i64 (errO R)]) ∧ EncVal w' (fun b => w.heap.size ≤ b) v (R.getD noEnc) ∧ Below w.heap.size w w') (.returned (.tuple #[.agg #[.int .i64 0, .int .i64 0, .slice none 0 0], .int .i64 ER])) (((w6.setCell ⟨w.heap.size, 0, none⟩ (.int .i64 0)).setCell ⟨w.heap.size, 1, none⟩ (.int .i64 0)).setCell ⟨w.heap.size, 2, none⟩ (.slice none 0 0)) := fun ER h h' => by
        subst h h'
        exact ⟨_, rfl, EncVal.none _ _, ((HB6.out.setCell (p := ⟨w.heap.size, 0, none⟩) (Nat.le_refl _) _).setCell (p := ⟨w.heap.size, 1, none⟩) (Nat.le_refl _) _).setCell (p := ⟨w.heap.size, 2, none⟩) (Nat.le_refl _) _⟩
      have HBad := Lib.hid hbad
      clear hb hb5 hx5 hx6 hz6 hln hbad HBV hZ
      rcases HFin.out with ⟨h14, hRn⟩ | ⟨h00, hRn⟩
      · rw [h14]
        have d14 : ((14 : Int) != 0) = true := rfl
        have HRn := Lib.hid hRn
        clear h14 hRn HFin HE
        go_wp2_with fail
        exact bodyPost_row2 rfl rfl (blk_set (i := 2) (v := .slice none 0 0) (blk_set (i := 1) (v := .int .i64 0) (blk_set (i := 0) (v := .int .i64 0) HZ6.out))) Tryz.underlying37 rfl (by kernel_rfl) (HBad.out _ rfl HRn.out)
      · rw [h00]
        rw [HZZ.out] at hRn
        have d00 : ((0 : Int) != 0) = false := rfl
        unfold lineV lineErr
        unfold parsedE at hRn
        cases hev : evalidB Z
        · rw [if_neg (by rw [hev]; simp)] at hRn
          have HRn := Lib.hid hRn
          have d7 : ((7 : Int) != 0) = true := rfl
          have hif1 : (if (false = true) then lineE Z else []) = ([] : List UInt8) := rfl
          have hif2 : (if (false = true) then (0 : Int) else 7) = 7 := rfl
          rw [hif1, hif2]
          clear h00 hRn HFin HE hev hif1 hif2
          go_wp2_with fail
          exact bodyPost_row2 rfl rfl (blk_set (i := 2) (v := .slice none 0 0) (blk_set (i := 1) (v := .int .i64 0) (blk_set (i := 0) (v := .int .i64 0) HZ6.out))) Tryz.underlying37 rfl (by kernel_rfl) (HBad.out _ rfl HRn.out)
        · have hif1 : (if (true = true) then lineE Z else []) = lineE Z := rfl
          have hif2 : (if (true = true) then (0 : Int) else 7) = 0 := rfl
          rw [hif1, hif2]
          obtain ⟨lz_, hlz⟩ : ∃ l, lineE Z = l := ⟨_, rfl⟩
          rw [hlz] at hRn ⊢
          by_cases hlt : lz_ = t
          · have dl : (lz_ == t) = true := by simpa using hlt
            rw [if_pos ⟨hev, hlt⟩] at hRn
            have HRn := Lib.hid hRn
            subst hlt
            clear h00 hRn HFin HE hev hif1 hif2 hlz
            go_wp2_with fail
            refine bodyPost_row2 rfl rfl (blk_set (i := 2) (v := .slice av M.length cv) (blk_set (i := 1) (v := .int .i64 (atoiV y)) (blk_set (i := 0) (v := .int .i64 (atoiV x)) HZ6.out))) Tryz.underlying37 rfl (by kernel_rfl) ?_
            rw [HRn.out, ← HZZ.out]
            refine ⟨_, rfl, ⟨_, rfl, ?_⟩, ((HB6.out.setCell (p := ⟨w.heap.size, 0, none⟩) (Nat.le_refl _) _).setCell (p := ⟨w.heap.size, 1, none⟩) (Nat.le_refl _) _).setCell (p := ⟨w.heap.size, 2, none⟩) (Nat.le_refl _) _⟩
            refine HBV6.out.move (by simp [World.setCell]) fun b hb hs => ?_
            have hs' : w.heap.size < b := hs
            exact ⟨((heap_setCell_other _ _ _ _ (by show b ≠ w.heap.size; omega)).trans (heap_setCell_other _ _ _ _ (by show b ≠ w.heap.size; omega))).trans (heap_setCell_other _ _ _ _ (by show b ≠ w.heap.size; omega)), by show w.heap.size ≤ b; omega⟩
          · have dl : (lz_ == t) = false := by simpa using hlt
            rw [if_neg (fun h => hlt h.2)] at hRn
            have HRn := Lib.hid hRn
            clear h00 hRn HFin HE hev hif1 hif2 hlz hlt
            go_wp2_with fail
            exact bodyPost_row2 rfl rfl (blk_set (i := 2) (v := .slice none 0 0) (blk_set (i := 1) (v := .int .i64 0) (blk_set (i := 0) (v := .int .i64 0) HZ6.out))) Tryz.underlying37 rfl (by kernel_rfl) (HBad.out _ rfl HRn.out)
    · have hvec : Vec w3 Any1 1 encS (.slice (some ⟨W.heap.size, 2, none⟩) (L.length - 2) (L.length - 2)) (L.drop 2) := HRow3.out.from2 hl2 _ (Nat.le_refl _)
      have HVec := Lib.hid hvec
      clear hvec
      go_wp2_with fail
      refine (HE.out _ HVec.out).mono ?_
      rintro e w4 ⟨_, rfl, hbv, hb⟩
      obtain ⟨av, cv, rfl⟩ := hbv.slice
      have hz4 := blk_below hb (lt_of_blk HZ3.out) HZ3.out
      have HB4 := Lib.hid (HB3.out.trans (hb.mono HB3.out.size)); have HZ4 := Lib.hid hz4
      have HBV := Lib.hid (hbv.move (w' := w4) (T := fun b => w.heap.size < b) (Nat.le_refl _) fun b _ hs => ⟨rfl, by have hs' : w3.heap.size ≤ b := hs; have h1 := HB3.out.size; have h2 := lt_of_blk HZ3.out; show w.heap.size < b; omega⟩)
      have HV4 := Lib.hid (HV3.out.old hb)
      clear hb hbv hz4 hl2 HVec HRow3
      go_wp2_with fail
      refine wp_calls_world (fun W5 hW5 => ?_)
      have hb5 : Below w4.heap.size w4 W5 := by rw [hW5]; exact (Below.refl w4.heap.size w4).alloc (Nat.le_refl _) _
      have hx5 : W5.heap[w4.heap.size]? = some (.cells #[.int .i64 (atoiV x), .int .i64 (atoiV y), .slice av M.length cv] 37 (0, 0)) := by rw [hW5]; exact blk_new rfl
      clear hW5
      have hln := eline_any Any1 (.agg #[.int .i64 (atoiV x), .int .i64 (atoiV y), .slice av M.length cv]) Z W5 (by rw [← hZ]; exact ⟨_, rfl, (HBV.out.below hb5).move (T := Any1) (Nat.le_refl _) fun b hb _ => ⟨rfl, trivial⟩⟩) (HV4.out.old hb5) (by rw [← hZ]; exact HPl.out.2) (by rw [← hZ]; exact HPl.out.1)
      refine hln.mono ?_
      rintro e w6 ⟨rfl, hb⟩
      have hx6 := blk_below hb (lt_of_blk hx5) hx5
      have hz6 := blk_below hb (lt_of_blk (blk_below hb5 (lt_of_blk HZ4.out) HZ4.out)) (blk_below hb5 (lt_of_blk HZ4.out) HZ4.out)
      have HB6 := Lib.hid ((HB4.out.trans (hb5.mono HB4.out.size)).trans (hb.mono (Nat.le_trans HB4.out.size hb5.size)))
      have HBV6 := Lib.hid ((HBV.out.below hb5).below hb)
      have HX6 := Lib.hid hx6; have HZ6 := Lib.hid hz6; have HZZ := Lib.hid hZ
      obtain ⟨x0, x1, x2⟩ := cells3 hx6
      obtain ⟨z0, z1, z2⟩ := cells3 hz6
      have f0 := frozen_of_row _ _ 0 _ _ hz6; have f1 := frozen_of_row _ _ 1 _ _ hz6; have f2 := frozen_of_row _ _ 2 _ _ hz6
      have lz := lt_of_blk hz6; have lx := lt_of_blk hx6
      have hbad : ∀ ER, ER = (14 : Int) → R = none → (fun e w' => ∃ v, e = Ending.returned (.tuple #[v, .int .i64 (errO R)]) ∧ EncVal w' (fun b => w.heap.size ≤ b) v (R.getD noEnc) ∧ Below w.heap.size w w') (.returned (.tuple #[.agg #[.int .i64 0, .int .i64 0, .slice none 0 0], .int .i64 ER])) (((w6.setCell ⟨w.heap.size, 0, none⟩ (.int .i64 0)).setCell ⟨w.heap.size, 1, none⟩ (.int .i64 0)).setCell ⟨w.heap.size, 2, none⟩ (.slice none 0 0)) := fun ER h h' => by
        subst h h'
        exact ⟨_, rfl, EncVal.none _ _, ((HB6.out.setCell (p := ⟨w.heap.size, 0, none⟩) (Nat.le_refl _) _).setCell (p := ⟨w.heap.size, 1, none⟩) (Nat.le_refl _) _).setCell (p := ⟨w.heap.size, 2, none⟩) (Nat.le_refl _) _⟩
      have HBad := Lib.hid hbad
      clear hb hb5 hx5 hx6 hz6 hln hbad HBV hZ
      rcases HFin.out with ⟨h14, hRn⟩ | ⟨h00, hRn⟩
      · rw [h14]
        have d14 : ((14 : Int) != 0) = true := rfl
        have HRn := Lib.hid hRn
        clear h14 hRn HFin HE
        go_wp2_with fail
        exact bodyPost_row2 rfl rfl (blk_set (i := 2) (v := .slice none 0 0) (blk_set (i := 1) (v := .int .i64 0) (blk_set (i := 0) (v := .int .i64 0) HZ6.out))) Tryz.underlying37 rfl (by kernel_rfl) (HBad.out _ rfl HRn.out)
      · rw [h00]
        rw [HZZ.out] at hRn
        have d00 : ((0 : Int) != 0) = false := rfl
        unfold lineV lineErr
        unfold parsedE at hRn
        cases hev : evalidB Z
        · rw [if_neg (by rw [hev]; simp)] at hRn
          have HRn := Lib.hid hRn
          have d7 : ((7 : Int) != 0) = true := rfl
          have hif1 : (if (false = true) then lineE Z else []) = ([] : List UInt8) := rfl
          have hif2 : (if (false = true) then (0 : Int) else 7) = 7 := rfl
          rw [hif1, hif2]
          clear h00 hRn HFin HE hev hif1 hif2
          go_wp2_with fail
          exact bodyPost_row2 rfl rfl (blk_set (i := 2) (v := .slice none 0 0) (blk_set (i := 1) (v := .int .i64 0) (blk_set (i := 0) (v := .int .i64 0) HZ6.out))) Tryz.underlying37 rfl (by kernel_rfl) (HBad.out _ rfl HRn.out)
        · have hif1 : (if (true = true) then lineE Z else []) = lineE Z := rfl
          have hif2 : (if (true = true) then (0 : Int) else 7) = 0 := rfl
          rw [hif1, hif2]
          obtain ⟨lz_, hlz⟩ : ∃ l, lineE Z = l := ⟨_, rfl⟩
          rw [hlz] at hRn ⊢
          by_cases hlt : lz_ = t
          · have dl : (lz_ == t) = true := by simpa using hlt
            rw [if_pos ⟨hev, hlt⟩] at hRn
            have HRn := Lib.hid hRn
            subst hlt
            clear h00 hRn HFin HE hev hif1 hif2 hlz
            go_wp2_with fail
            refine bodyPost_row2 rfl rfl (blk_set (i := 2) (v := .slice av M.length cv) (blk_set (i := 1) (v := .int .i64 (atoiV y)) (blk_set (i := 0) (v := .int .i64 (atoiV x)) HZ6.out))) Tryz.underlying37 rfl (by kernel_rfl) ?_
            rw [HRn.out, ← HZZ.out]
            refine ⟨_, rfl, ⟨_, rfl, ?_⟩, ((HB6.out.setCell (p := ⟨w.heap.size, 0, none⟩) (Nat.le_refl _) _).setCell (p := ⟨w.heap.size, 1, none⟩) (Nat.le_refl _) _).setCell (p := ⟨w.heap.size, 2, none⟩) (Nat.le_refl _) _⟩
            refine HBV6.out.move (by simp [World.setCell]) fun b hb hs => ?_
            have hs' : w.heap.size < b := hs
            exact ⟨((heap_setCell_other _ _ _ _ (by show b ≠ w.heap.size; omega)).trans (heap_setCell_other _ _ _ _ (by show b ≠ w.heap.size; omega))).trans (heap_setCell_other _ _ _ _ (by show b ≠ w.heap.size; omega)), by show w.heap.size ≤ b; omega⟩
          · have dl : (lz_ == t) = false := by simpa using hlt
            rw [if_neg (fun h => hlt h.2)] at hRn
            have HRn := Lib.hid hRn
            clear h00 hRn HFin HE hev hif1 hif2 hlz hlt
            go_wp2_with fail
            exact bodyPost_row2 rfl rfl (blk_set (i := 2) (v := .slice none 0 0) (blk_set (i := 1) (v := .int .i64 0) (blk_set (i := 0) (v := .int .i64 0) HZ6.out))) Tryz.underlying37 rfl (by kernel_rfl) (HBad.out _ rfl HRn.out)
end
section
def WsOk (ws : List Int) : Prop := ∀ x ∈ ws, 0 ≤ x ∧ x < 18446744073709551616
theorem orBit_ok {ws : List Int} (h : WsOk ws) (i : Int) : WsOk (orBit ws i) := by
  intro x hx
  unfold orBit at hx
  rcases List.mem_or_eq_of_mem_set hx with h1 | h1
  · exact h x h1
  · rw [h1]; exact bits_range _ _ _
theorem orBits_ok (l : List Int) : ∀ ws : List Int, WsOk ws → WsOk (l.foldl orBit ws) := by
  induction l with
  | nil => intro ws h; exact h
  | cons x l ih => intro ws h; rw [List.foldl_cons]; exact ih _ (orBit_ok h x)
theorem orGrams_ok (p : ParL) (k : Int × Int) (G : List (List UInt8)) : ∀ ws : List Int, WsOk ws → WsOk (G.foldl (orGram p k) ws) := by
  induction G with
  | nil => intro ws h; exact h
  | cons x l ih => intro ws h; rw [List.foldl_cons]; exact ih _ (orBits_ok _ _ h)
theorem zeroW_ok (n : Int) : WsOk (zeroW n) := by
  intro x hx
  unfold zeroW at hx
  rw [List.eq_of_mem_replicate hx]; decide
theorem fieldN_in {s : SchemaL} {p : ParL} {k : Int × Int} {A : List (List UInt8)} {i : Nat} (hp : ParOk p) (hn : normalB s i (A.getD i []) = true) (hf : (findN s i).2 = 0) : BitsIn (fieldN s p k A i) := by
  unfold fieldN
  split
  · exact .inl rfl
  · refine .inr ?_
    have h80 := (grams_fit hn hf).2.1
    unfold bloomN
    rw [if_pos hp.bloom, if_pos h80]
    refine ⟨?_, orGrams_ok p _ _ _ (zeroW_ok _)⟩
    unfold validB
    dsimp only
    rw [hp.right, Bool.true_and, beq_iff_eq, orGrams_len]
    unfold zeroW
    rw [List.length_replicate]
    have := hp.len1
    omega
theorem fieldsN_in {s : SchemaL} {P : List ParL} {k : Int × Int} {r : RecL} (h : RecIn s P r) : ∀ b ∈ fieldsN s P k r.vals P.length, BitsIn b := by
  intro b hb
  unfold fieldsN at hb
  obtain ⟨i, hi, rfl⟩ := List.mem_map.1 hb
  rw [List.mem_range] at hi
  obtain ⟨h0, _, hl, hno⟩ := checkN_ok h.rec_
  have hil : i < r.vals.length := by rw [hl, ← h.len]; exact hi
  have hn := normA_get s r.vals 0 hno i hil
  rw [Nat.zero_add] at hn
  exact fieldN_in (h.pars.1 i hi) hn (by rw [findN_in h0 (by rw [← h.len]; exact hi)])
theorem bitsIn_bad {b : BitsL} (h : BitsIn b) : badB b = false := by
  rcases h with rfl | ⟨h1, _⟩
  · decide
  · unfold badB; rw [h1]; simp
theorem bitsIn_hex {b : BitsL} (h : BitsIn b) : HexIn b := by
  rcases h with rfl | ⟨h1, h2⟩
  · exact ⟨⟨by decide, by decide⟩, fun h => by rw [noBits_bad] at h; cases h⟩
  · exact ⟨valid_in h1, fun _ => h2⟩
theorem enc_valid {s : SchemaL} {P : List ParL} {k : Int × Int} {r : RecL} (h : RecIn s P r) (h1 : 1 ≤ P.length) (h5 : P.length ≤ 5) : evalidB (encN s P k r) = true := by
  obtain ⟨_, hnum, _, _⟩ := checkN_ok h.rec_
  unfold numberedB at hnum
  simp only [Bool.and_eq_true, decide_eq_true_eq] at hnum
  have hl : (fieldsN s P k r.vals P.length).length = P.length := fieldsN_len _ _ _ _ _
  have hb : (fieldsN s P k r.vals P.length).any badB = false := by
    rw [List.any_eq_false]
    intro b hb
    rw [bitsIn_bad (fieldsN_in h b hb)]; simp
  unfold evalidB encN
  dsimp only
  rw [hb, hl]
  simp
  omega
end
section
open Go
theorem handed_shaped {H : Type} {enc : TypeId × Value → H} {a : Assume} {C : Checked} {os : Os} {f : FuncId} {fn : Func} {s : ChangeSpec} {conds : List PathCond} {apart fresh handsOn again : Bool} {X : World → Array Value → Prop}
    (hX : ∀ (w w' : World) (args : Array Value), w.heap = w'.heap → X w args → X w' args)
    (own : ownKnob C.prog.godebug = none) (started : os.Started) (noInit : C.prog.inits.idxOf? f = none) (hfn : C.prog.funcs[f]? = some fn)
    (witness : ∃ (w : World) (tape : Tape) (i : Input), w.os = os ∧ (w.forCall tape i).Shaped C.prog ∧ i.vars = [] ∧ Input.okWide C.prog (w.forCall tape i) .any w.heap.size f i ∧
      ((s.pre enc C.prog fn conds apart (w.forCall tape i).memory i.args ∧ X (w.forCall tape i).memory i.args) ∧ sizedMet enc C.prog fn (OpenSpec.ofChange s) apart (w.forCall tape i).memory i.args) ∧ a.holds C.prog (lone (Frame.enter C.prog f i.args .normal) [] (w.forCall tape i)))
    (contract : ∀ (W : World) (base : Nat) (args : Array Value) (ds gs : List (DataW H)) (before : List MemPlace),
      (∀ (j : Nat) t v, fn.params[j]? = some t → args[j]? = some v → Value.okWide C.prog W .any base t v) →
      DataW.Whole enc C.prog fn.params.toList s.vars apart W args.toList ds gs before →
      X W args → W.ShapedOpen C.prog →
      Calls C.prog f args W fun e W' => ∃ v, e = .returned v ∧ s.post enc C.prog fn apart fresh handsOn again W args v W') :
    ReturnsInHanded a C os f .any (fun w args => (s.pre enc C.prog fn conds apart w args ∧ X w args) ∧ sizedMet enc C.prog fn (OpenSpec.ofChange s) apart w args) (s.post enc C.prog fn apart fresh handsOn again) := by
  refine returnsInHanded_of_calls own started noInit witness ?_
  intro w tape i _ hsh _ hok hpre hholds
  obtain ⟨_, _, _, fn', hfn', _, _, _, _, hval⟩ := hok
  obtain rfl : fn' = fn := Option.some.inj (hfn'.symm.trans hfn)
  obtain ⟨⟨⟨ds, gs, before, hw, hc⟩, hx⟩, hz⟩ := hpre
  refine (contract (w.forCall tape i) w.heap.size i.args ds gs before hval (DataW.Whole.of_heap (w' := w.forCall tape i) (by rfl) hw) (hX _ _ _ (by rfl) hx) hsh).mono fun e W' ⟨v, he, hp⟩ => ?_
  subst he
  exact ChangeSpec.post_blind hp
end
section
set_option maxRecDepth 100000
open Go.RowKit
attribute [local go_sem] toList_mk mk_size
/-- the library's variable math/bits.deBruijn64tab, as far as it is read -/
def DbAt (w : World) : Prop := w.cell? ⟨7, 15, none⟩ = some (.int .u8 4)
theorem DbAt.old {w w' : World} (h : DbAt w) (hb : Below w.heap.size w w') : DbAt w' :=
  (hb.cell (p := ⟨7, 15, none⟩) (World.block_lt_of_cell? _ ⟨_, 15, none⟩ h)).trans h
theorem hexN_front (m : Nat) : ∀ x, hexN (m + 1) x = digH (x / 16 ^ m % 16) :: hexN m x := by
  induction m with
  | zero => intro x; simp [hexN]
  | succ m ih =>
    intro x
    rw [hexN, ih (x / 16), Nat.div_div_eq_div_mul, ← Nat.pow_succ']
    rw [hexN]; rfl
/-- the last m cells hold the last m digits -/
def DigAt (w : World) (B : Nat) (x m : Nat) : Prop := ∃ cs : Array Value, w.heap[B]? = some (.cells cs 254 (0, 0)) ∧ cs.size = 65 ∧ ∀ i, i < m → cs[65 - m + i]? = ((hexN m x)[i]?).map byteV
theorem DigAt.set {w : World} {B x m : Nat} (h : DigAt w B x m) (hm : m < 65) {d : Nat} (hd : x / 16 ^ m % 16 = d) : DigAt (w.setCell ⟨B, 64 - m, none⟩ (byteV (digH d))) B x (m + 1) := by
  obtain ⟨cs, h1, h2, h3⟩ := h
  refine ⟨_, blk_set h1, by simp [h2], fun i hi => ?_⟩
  rw [hexN_front, hd, Array.getElem?_setIfInBounds]
  cases i with
  | zero =>
    rw [if_pos (by omega), if_pos (by omega)]; rfl
  | succ i =>
    rw [if_neg (by omega), List.getElem?_cons_succ, ← h3 i (by omega)]
    congr 1; omega
end
section
set_option maxRecDepth 100000
open Go Go.RowKit
theorem laid_at {P : Program} {w : World} : ∀ {l : List (String × DataW Unit)} {ps : List MemPlace}, DataW.LaidVars P w l ps → ∀ (i : Nat) (n : String) (d : DataW Unit), l[i]? = some (n, d) → ∃ g t cs fuel p, P.globalNamed n = some g ∧ (P.globals[g]?).map (·.type) = some t ∧ w.var? P n = some cs ∧ DataW.trod (fun _ => ()) P w 0 (fun _ => true) false fuel t cs.toList = some (d, p)
  | [], ps, h, i, n, d, hi => by simp at hi
  | (m, e) :: r, ps, h, 0, n, d, hi => by
    obtain ⟨g, t, cs, fuel, p, q, h1, h2, h3, h4, _, _⟩ := h
    simp at hi
    obtain ⟨rfl, rfl⟩ := hi
    exact ⟨g, t, cs, fuel, p, h1, h2, h3, h4⟩
  | (m, e) :: r, ps, h, i + 1, n, d, hi => by
    obtain ⟨g, t, cs, fuel, p, q, _, _, _, _, h5, _⟩ := h
    exact laid_at h5 i n d (by simpa using hi)
theorem tab_give {P : Program} {w : World} {l : List (String × DataW Unit)} {ps : List MemPlace} (h : DataW.LaidVars P w l ps) {i : Nat} {name : String} {k : IntKind} {zs : List Int} (hi : l[i]? = some (name, Lib.tabData k zs)) {g : Nat} {t e : TypeId} {n : Nat}
    (hg : P.globalNamed name = some g) (hty : (P.globals[g]?).map (·.type) = some t) (ht : P.underlying t = some (.array n e)) (he : P.underlying e = some (.int k)) (hce : P.cellsOf e = 1) (hct : P.cellsOf t = n) : Lib.TabIs P w name k zs := by
  obtain ⟨g', t', cs, fuel, p, hg', ht', hvar, hd⟩ := laid_at h i _ _ hi
  obtain rfl := Option.some.inj (hg.symm.trans hg')
  obtain rfl := Option.some.inj (hty.symm.trans ht')
  unfold Lib.TabIs
  rw [hvar, ← Lib.cells_of_tab ht he hce hct hd]
theorem iface_give {P : Program} {w : World} {l : List (String × DataW Unit)} {ps : List MemPlace} (h : DataW.LaidVars P w l ps) {i : Nat} {name nm : String} {d : DataW Unit} (hi : l[i]? = some (name, .iface nm d)) {g : Nat} {t : TypeId} {ms : Array (String × TypeId)}
    (hg : P.globalNamed name = some g) (hty : (P.globals[g]?).map (·.type) = some t) (ht : P.underlying t = some (.interface ms)) : IfaceAt w g := by
  obtain ⟨g', t', cs, fuel, p, hg', ht', hvar, hd⟩ := laid_at h i _ _ hi
  obtain rfl := Option.some.inj (hg.symm.trans hg')
  obtain rfl := Option.some.inj (hty.symm.trans ht')
  obtain ⟨_, u, v, hcs, _, _⟩ := iface_of_trod ht hd
  have := World.var?_cell hg hvar 0
  refine ⟨.iface u v, ?_, .inr ⟨u, v, rfl⟩⟩
  rw [this, ← Array.getElem?_toList, hcs]; rfl
theorem vars_give {l : List (String × DataW Unit)} {W : World} (hsh : W.ShapedOpen Tryz.prog) (hl : laidMetH Tryz.prog l W) (hp : (l.all fun x => x.2.handleName?.isNone) = true) (i : Nat) (hi : l[i]? = some ("internal/strconv.uint64pow10", Lib.tabData .u64 Lib.pow10Tab))
    (j : Nat) {n1 : String} {d1 : DataW Unit} (hj : l[j]? = some ("strconv.ErrSyntax", .iface n1 d1)) (k : Nat) {n2 : String} {d2 : DataW Unit} (hk : l[k]? = some ("strconv.ErrRange", .iface n2 d2)) : VarsAt W := by
  rw [MakeChecks.laidMetH_plain _ _ _ hp] at hl
  obtain ⟨ps, h, _, _⟩ := hl
  refine ⟨tab_give h hi (g := 3) (by kernel_rfl) (by kernel_rfl) Tryz.underlying253 (by kernel_rfl) (by kernel_rfl) (by kernel_rfl), ?_, ?_, Tryz.laysM145.s1_3 W hsh⟩
  · exact iface_give h hj (by kernel_rfl) (by kernel_rfl) Tryz.underlying97
  · exact iface_give h hk (by kernel_rfl) (by kernel_rfl) Tryz.underlying97
end
end Go.Proofs.YtoeplomdcannlaaGreatDoor
