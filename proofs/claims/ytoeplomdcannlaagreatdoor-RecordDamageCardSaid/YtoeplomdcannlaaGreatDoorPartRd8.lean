/- Parts of one proof: RecSum, RecFile, RecNum, HexB, EncI, EncJ, RecParse, RecTake, RoundRegion, ReadInv, ReadAny, RefRecA, RecordBackWalk. -/
import Derived.Test.YtoeplomdcannlaaGreatDoorPartRd7
import Derived.Shelf.Strings.SlTrimAscii
import Derived.OrdersIn
import Derived.TacticsIn
set_option linter.unusedSimpArgs false
set_option linter.unusedVariables false
namespace Go.Proofs.YtoeplomdcannlaaGreatDoor
section
set_option maxRecDepth 100000
open Go.RowKit
attribute [local go_sem] toList_mk mk_size str_append
theorem partsP_range (ka kb : Int) (L : List (List UInt8)) : 0 ≤ partsP ka kb L ∧ partsP ka kb L < 18446744073709551616 := by
  unfold partsP sumP
  exact bits_range _ _ _
theorem repeat_zero (n : Nat) : Lib.repeatL [48] n = List.replicate n 48 := by
  induction n with
  | zero => rfl
  | succ n ih => rw [Lib.repeatL, ih]; rfl
theorem repeat_any (n : Nat) (hn : n ≤ 1000) (w : World) : Calls Tryz.prog 123 #[.string ⟨#[48]⟩, .int .i64 n] w fun e w' => e = .returned (strV (List.replicate n 48)) ∧ Below w.heap.size w w' := by
  refine (Tryz.strings_Repeat ⟨#[48]⟩ n w (by omega) (by show 1 * n ≤ _; omega)).mono ?_
  rintro e w' ⟨rfl, hb⟩
  refine ⟨?_, hb⟩
  rw [show (⟨#[48]⟩ : ByteArray).data.toList = [48] from rfl, repeat_zero]
set_option maxHeartbeats 4000000 in
theorem rsum_any' (t : List UInt8) (w : World) (ht : t.length ≤ 60000) (hdb : DbAt w) :
    Calls Tryz.prog 72 #[strV t] w fun e w' => e = .returned (strV (sumT t)) ∧ Below w.heap.size w w' := by
  obtain ⟨q, hq⟩ : ∃ q : Nat, partsP 0 0 [t] = q := Int.eq_ofNat_of_zero_le (partsP_range 0 0 [t]).1
  have hq2 : q < 18446744073709551616 := by have := (partsP_range 0 0 [t]).2; omega
  have hs : sumT t = hexN 16 q := by unfold sumT; rw [hq]; rfl
  rw [hs]
  have HD := Lib.hid hdb; have HQ := Lib.hid hq
  clear hdb hq hs
  go_enter Tryz.func72, Tryz.ntmps72
  go_wp2_with fail
  refine wp_calls_world (fun W hW => ?_)
  have hb0 : Below w.heap.size w W := by rw [hW]; exact (Below.refl w.heap.size w).alloc (Nat.le_refl _) _
  have hv : Vec W Any1 1 encS (.slice (some ⟨w.heap.size, 0, none⟩) 1 1) [t] := by rw [hW]; exact blockVec (k := 1) (enc := encS) (L := [t]) (S := Any1) (fun _ => rfl) (blk_new rfl) trivial 1 rfl
  clear hW
  refine (sparts_any Any1 0 0 _ [t] W hv (fun x hx => by simp at hx; subst hx; exact ht) (by simp)).mono ?_
  rw [HQ.out]
  rintro e w1 ⟨rfl, hb⟩
  have HB1 := Lib.hid (hb0.trans (hb.mono hb0.size))
  clear hb hb0 hv
  go_wp2_with fail
  refine (fuint_any q hq2 w1 (HD.out.old HB1.out)).mono ?_
  rintro e w2 ⟨⟨k, k1, k2, hk, rfl⟩, hb⟩
  have HB2 := Lib.hid (HB1.out.trans (hb.mono HB1.out.size))
  have hpad := hexN_pad k2 hk
  have hlen := hexN_len k q
  obtain ⟨z, hz⟩ : ∃ z, hexN k q = z := ⟨_, rfl⟩
  rw [hz] at hpad hlen ⊢
  obtain ⟨j, hj⟩ : ∃ j, 16 - k = j := ⟨_, rfl⟩
  have hwl : IntKind.i64.wrap (16 - (z.length : Int)) = (j : Int) := by rw [hlen, IntKind.wrap_i64]; omega
  have hzl : z.length ≤ 16 := by omega
  rw [hj] at hpad
  have hj16 : j ≤ 16 := by omega
  have hl1 : (List.replicate j (48 : UInt8)).length = j := List.length_replicate
  obtain ⟨y, hy⟩ : ∃ y, List.replicate j (48 : UInt8) = y := ⟨_, rfl⟩
  have hrep := fun w => repeat_any j (by omega) w
  rw [hy] at hl1 hrep hpad
  have hyl : y.length ≤ 16 := by omega
  have HRp := Lib.hid hrep; have HP := Lib.hid hpad; have HW := Lib.hid hwl
  have hno : ¬ 9223372036854775807 < y.length + z.length := by omega
  clear hb hpad hz hj hy hrep hk k1 k2 hlen hl1 hwl
  have hwl := HW.out
  go_wp2_with fail
  clear hwl
  refine (HRp.out _).mono ?_
  rintro e w3 ⟨rfl, hb⟩
  have HB3 := Lib.hid (HB2.out.trans (hb.mono HB2.out.size))
  clear hb
  go_wp2_with fail
  go_ret
  exact ⟨by rw [← HP.out]; rfl, HB3.out⟩
theorem hex_cut (c : UInt8) : hexD.contains c = (valH c).isSome := by
  have : ∀ n : Fin 256, hexD.contains (UInt8.ofNat n.val) = (valH (UInt8.ofNat n.val)).isSome := by decide +kernel
  have h := this ⟨c.toNat, c.toNat_lt⟩
  simpa using h
theorem drop_all {p : UInt8 → Bool} : ∀ (l : List UInt8), l.dropWhile p = [] ↔ l.all p = true
  | [] => by simp
  | x :: l => by
    rw [List.dropWhile_cons, List.all_cons]
    cases hp : p x
    · simp
    · simp [drop_all l]
theorem trim_all (t : List UInt8) : (Lib.trimS t hexD == []) = t.all fun c => (valH c).isSome := by
  have hp : (fun c => hexD.contains c) = fun c => (valH c).isSome := funext hex_cut
  have h1 : Lib.trimS t hexD = [] ↔ t.all (fun c => (valH c).isSome) = true := by
    unfold Lib.trimS Lib.trimLeftS Lib.trimRightS
    rw [← hp]
    constructor
    · intro h
      have h2 := (drop_all _).1 h
      rw [List.all_eq_true] at h2 ⊢
      intro x hx
      by_cases hd : (t.reverse.dropWhile fun c => hexD.contains c) = []
      · have := (drop_all _).1 hd
        rw [List.all_eq_true] at this
        exact this x (List.mem_reverse.2 hx)
      · exfalso
        have h3 : ∀ y ∈ t.reverse.dropWhile (fun c => hexD.contains c), hexD.contains y = true := fun y hy => h2 y (List.mem_reverse.2 hy)
        have h4 := List.head_dropWhile_not (p := fun c => hexD.contains c) (l := t.reverse) hd
        have h5 := h3 _ (List.head_mem hd)
        rw [h5] at h4
        cases h4
    · intro h
      have h2 : t.reverse.dropWhile (fun c => hexD.contains c) = [] := (drop_all _).2 (by rw [List.all_reverse]; exact h)
      rw [h2]; rfl
  rw [Bool.eq_iff_iff, beq_iff_eq]
  exact h1
theorem trim_any (t : List UInt8) (w : World) (ht : t.length ≤ 1000000000) : Calls Tryz.prog 164 #[strV t, .string ⟨#[48, 49, 50, 51, 52, 53, 54, 55, 56, 57, 97, 98, 99, 100, 101, 102]⟩] w fun e w' => e = .returned (strV (Lib.trimS t hexD)) ∧ Below w.heap.size w w' := by
  have h := Any.strings_Trim_laid Tryz.lays160 (by kernel_rfl) ⟨t.toArray⟩ ⟨hexD.toArray⟩ w (by rw [mk_size]; omega) (by decide) (fun j b hb => by
    have : ∀ b ∈ hexD, b.toNat < 128 := by decide
    exact this b (List.mem_of_getElem? hb))
  exact h
set_option maxHeartbeats 1000000 in
theorem digits_any (t : List UInt8) (w : World) (ht : t.length ≤ 1000000000) : Calls Tryz.prog 117 #[strV t] w fun e w' => e = .returned (.bool (digB t)) ∧ Below w.heap.size w w' := by
  unfold digB
  by_cases h : t.length = 16
  · have d1 : ((t.length : Int) == 16) = true := by simp; omega
    have e1 : (t.length == 16) = true := by simpa using h
    have ht2 := trim_all t
    rw [e1, Bool.true_and, ← ht2]
    clear ht2 e1 h
    go_enter Tryz.func117, Tryz.ntmps117
    go_wp2_with fail
    refine (trim_any t _ ht).mono ?_
    rintro e w1 ⟨rfl, hb⟩
    have HB := Lib.hid hb; clear hb
    obtain ⟨z, hz⟩ : ∃ z, Lib.trimS t hexD = z := ⟨_, rfl⟩
    rw [hz]
    go_wp2_with fail
    go_ret
    exact ⟨by rw [hz]; simp, HB.out⟩
  · have d1 : ((t.length : Int) == 16) = false := by simp; omega
    have e1 : (t.length == 16) = false := by simpa using h
    rw [e1, Bool.false_and]
    clear e1 h
    go_enter Tryz.func117, Tryz.ntmps117
    go_wp2_with fail
    go_ret
    exact ⟨rfl, Below.refl _ _⟩
theorem lastI_at (a b : List UInt8) (h : (9 : UInt8) ∉ b) : Lib.lastIndexByte ⟨(a ++ 9 :: b).toArray⟩ 9 = (a.length : Int) := by
  have hb : ∀ (j : Nat) (hj : j < (a ++ 9 :: b).length), (⟨(a ++ 9 :: b).toArray⟩ : ByteArray).data[j]! = (a ++ 9 :: b)[j] := fun j hj => by
    show (a ++ 9 :: b).toArray[j]! = _
    rw [getElem!_pos _ _ (by simpa using hj)]; simp
  have hsz : (⟨(a ++ 9 :: b).toArray⟩ : ByteArray).size = a.length + 1 + b.length := by rw [mk_size]; simp; omega
  rcases Lib.lastIndexByte_spec ⟨(a ++ 9 :: b).toArray⟩ 9 with ⟨_, hn⟩ | ⟨i, hi, e, hc, hn⟩
  · have := hn a.length (by rw [hsz]; omega)
    rw [hb a.length (by simp)] at this
    simp at this
  · rw [e]
    rw [hsz] at hi
    rcases Nat.lt_trichotomy i a.length with h1 | h1 | h1
    · have := hn a.length h1 (by rw [hsz]; omega)
      rw [hb a.length (by simp)] at this
      simp at this
    · rw [h1]
    · exfalso
      rw [hb i (by simp; omega)] at hc
      rw [List.getElem_append_right (by omega)] at hc
      obtain ⟨k, hk⟩ : ∃ k, i - a.length = k + 1 := ⟨i - a.length - 1, by omega⟩
      have hkb : k < b.length := by omega
      have e2 : (9 :: b)[i - a.length]'(by simp; omega) = b[k] := by simp [hk]
      rw [e2] at hc
      apply h
      have : b[k] = 9 := UInt8.toNat.inj (by simpa using Int.ofNat.inj (by simpa using hc))
      rw [← this]; exact List.getElem_mem _
theorem lastI_no (t : List UInt8) (h : (9 : UInt8) ∉ t) : Lib.lastIndexByte ⟨t.toArray⟩ 9 = -1 := by
  rcases Lib.lastIndexByte_spec ⟨t.toArray⟩ 9 with ⟨e, _⟩ | ⟨i, hi, e, hc, hn⟩
  · exact e
  · exfalso
    have hi' : i < t.length := by simpa [mk_size] using hi
    have hb : (⟨t.toArray⟩ : ByteArray).data[i]! = t[i] := by
      show t.toArray[i]! = _
      rw [getElem!_pos _ _ (by simpa using hi')]; simp
    rw [hb] at hc
    apply h
    have : t[i] = 9 := UInt8.toNat.inj (by simpa using Int.ofNat.inj (by simpa using hc))
    rw [← this]; exact List.getElem_mem _
end
section
set_option maxRecDepth 100000
open Go.RowKit Cal
attribute [local go_sem] toList_mk mk_size str_append
theorem rowR_len {s : SchemaL} {r : RecL} (h : checkI s r = 0) (h5 : s.fields.length ≤ 5) : (rowR r).length ≤ 520 := by
  have := lineR_len h h5
  unfold rowR
  rw [List.length_append, List.length_cons, sumT_len]
  omega
theorem rowsT_len : ∀ (X : List (List UInt8)) (m : Nat), (∀ x ∈ X, x.length ≤ m) → (rowsT X).length ≤ X.length * (m + 1)
  | [], m, _ => by simp [rowsT]
  | x :: X, m, h => by
    have h1 := h x List.mem_cons_self
    have h2 := rowsT_len X m fun y hy => h y (List.mem_cons_of_mem _ hy)
    have e : rowsT (x :: X) = x ++ 10 :: rowsT X := by have := rowsT_cons x X []; simpa using this
    rw [e, List.length_append, List.length_cons, List.length_cons, Nat.add_mul, Nat.one_mul]
    omega
theorem follows_len {s : SchemaL} {R : List RecL} (h : allN s R = 0) (h5 : s.fields.length ≤ 5) (j : Nat) : (rowsT ((R.take j).map rowR)).length ≤ 64 * 521 := by
  obtain ⟨h0, h1, h2⟩ := allN_ok h
  have := rowsT_len ((R.take j).map rowR) 520 fun x hx => by
    obtain ⟨r, hr, rfl⟩ := List.mem_map.1 hx
    have := h2 r (List.mem_of_mem_take hr)
    unfold checkN at this
    rw [if_pos h0] at this
    exact rowR_len this h5
  rw [List.length_map, List.length_take] at this
  have : min j R.length ≤ 64 := by omega
  omega
end
section
set_option maxRecDepth 100000
open Go.RowKit
attribute [local go_sem] toList_mk mk_size str_append
/-- the error that goes with a text: none exactly if it is a number -/
def ErrIs (b : Bool) (er : Value) : Prop := if b = true then er = .nilIface else ∃ te pe, er = .iface te pe
theorem atoi_full (t : List UInt8) (ht : t.length ≤ 1000000000) (w : World) (hv : VarsAt w) : Calls Tryz.prog 54 #[strV t] w fun e w' => (∃ er, e = .returned (.tuple #[.int .i64 (atoiV t), er]) ∧ ErrIs (isNum t) er) ∧ Below w.heap.size w w' := by
  have hsz : (⟨t.toArray⟩ : ByteArray).size = t.length := by simp [ByteArray.size]
  have hd : (⟨t.toArray⟩ : ByteArray).data.toList = t := by simp
  unfold atoiV isNum ErrIs
  cases h : Lib.atoiAll t with
  | ok v =>
    refine (Tryz.strconv_Atoi_ok ⟨t.toArray⟩ (by rw [hsz]; omega) v (by rw [hd]; exact h) w).mono ?_
    rintro e w' ⟨rfl, hw⟩
    refine ⟨⟨_, rfl, rfl⟩, ?_⟩
    rcases hw with rfl | ⟨t, rfl⟩
    · exact Below.refl _ _
    · exact Lib.bytesWorld_below _ _ _
  | range =>
    obtain ⟨ev, h1, h2⟩ := hv.e1
    refine (Tryz.strconv_Atoi_range ⟨t.toArray⟩ (by rw [hsz]; omega) (by rw [hd]; exact h) ev w h1 h2).mono ?_
    rintro e w' ⟨N, rfl, -, -, hb⟩
    rw [hd]
    exact ⟨⟨_, rfl, _, _, rfl⟩, hb⟩
  | _ =>
    obtain ⟨ev, h1, h2⟩ := hv.e0
    refine (Tryz.strconv_Atoi_syntax ⟨t.toArray⟩ (by rw [hsz]; omega) (by rw [hd]; exact h) ev w h1 h2).mono ?_
    rintro e w' ⟨N, rfl, -, -, hb⟩
    exact ⟨⟨_, rfl, _, _, rfl⟩, hb⟩
theorem atoiAll_big : ∀ (t : List UInt8) (v : Int), Lib.atoiAll t = .ok v → v ≤ 9223372036854775807
  | [], v, h => by cases h
  | c :: r, v, h => by
    unfold Lib.atoiAll at h
    dsimp only at h
    generalize Lib.parseMag (if c.toNat = 43 ∨ c.toNat = 45 then r else c :: r) = m at h
    cases m with
    | ok u =>
      dsimp only at h
      by_cases g1 : ¬ c.toNat = 45 ∧ 9223372036854775808 ≤ u
      · rw [if_pos g1] at h; cases h
      · rw [if_neg g1] at h
        by_cases g2 : c.toNat = 45 ∧ 9223372036854775808 < u
        · rw [if_pos g2] at h; cases h
        · rw [if_neg g2] at h
          have e := Lib.NumEnd.ok.inj h
          by_cases g3 : c.toNat = 45
          · rw [if_pos g3] at e; omega
          · rw [if_neg g3] at e; omega
    | range => cases h
    | _ => cases h
theorem atoiV_big {t : List UInt8} (h : isNum t = true) : atoiV t ≤ 9223372036854775807 := by
  unfold isNum at h
  cases h1 : Lib.atoiAll t with
  | ok v =>
    unfold atoiV
    rw [h1]
    exact atoiAll_big t v h1
  | range => rw [h1] at h; cases h
  | _ => rw [h1] at h; cases h
set_option maxHeartbeats 4000000 in
theorem rnum_any (t : List UInt8) (w : World) (ht : t.length ≤ 1000000000) (hv : VarsAt w) :
    Calls Tryz.prog 124 #[strV t] w fun e w' => e = .returned (.tuple #[.int .i64 (atoiV t), .bool (numOk t)]) ∧ Below w.heap.size w w' := by
  have HV := Lib.hid hv
  have hat := fun w hw => atoi_full t ht w hw
  have hbig := @atoiV_big t
  obtain ⟨z, hz⟩ : ∃ z, atoiV t = z := ⟨_, rfl⟩
  unfold numOk
  rw [hz] at hat hbig ⊢
  clear hv hz
  cases hn : isNum t
  · rw [hn] at hat
    have HA := Lib.hid hat
    rw [Bool.false_and]
    clear hat hn hbig
    go_enter Tryz.func124, Tryz.ntmps124
    go_wp2_with fail
    refine (HA.out _ HV.out).mono ?_
    rintro e w1 ⟨⟨er, rfl, te, pe, rfl⟩, hb⟩
    have HB := Lib.hid hb
    clear hb
    go_wp2_with fail
    go_ret2
    exact ⟨rfl, HB.out⟩
  · rw [hn] at hat
    have hzb := hbig hn
    have HA := Lib.hid hat
    rw [Bool.true_and]
    clear hat hn hbig
    by_cases h7 : t.length ≤ 7
    · have d7 : decide ((t.length : Int) ≤ 7) = true := decide_eq_true (by omega)
      rw [decide_eq_true h7, Bool.true_and]
      by_cases h0 : 0 ≤ z
      · have d0 : decide ((0 : Int) ≤ z) = true := decide_eq_true h0
        rw [d0, Bool.true_and]
        obtain ⟨n, rfl⟩ := Int.eq_ofNat_of_zero_le h0
        have hit := fun w hw => itoa_any n (by omega) w hw
        rw [Int.toNat_natCast]
        obtain ⟨y, hy⟩ : ∃ y, Lib.decDigits n = y := ⟨_, rfl⟩
        rw [hy] at hit ⊢
        have HI := Lib.hid hit
        clear hit hy h0 h7
        go_enter Tryz.func124, Tryz.ntmps124
        go_wp2_with fail
        refine (HA.out _ HV.out).mono ?_
        rintro e w1 ⟨⟨er, rfl, her⟩, hb⟩
        have her' : er = .nilIface := her
        subst her'
        have HB := Lib.hid hb
        clear hb her
        go_wp2_with fail
        refine (HI.out _ (HV.out.old HB.out)).mono ?_
        rintro e w2 ⟨rfl, hb⟩
        have HB2 := Lib.hid (HB.out.trans (hb.mono HB.out.size))
        clear hb
        go_wp2_with fail
        go_ret2
        exact ⟨rfl, HB2.out⟩
      · have d0 : decide ((0 : Int) ≤ z) = false := decide_eq_false h0
        rw [d0, Bool.false_and]
        clear h0 h7
        go_enter Tryz.func124, Tryz.ntmps124
        go_wp2_with fail
        refine (HA.out _ HV.out).mono ?_
        rintro e w1 ⟨⟨er, rfl, her⟩, hb⟩
        have her' : er = .nilIface := her
        subst her'
        have HB := Lib.hid hb
        clear hb her
        go_wp2_with fail
        go_ret2
        exact ⟨rfl, HB.out⟩
    · have d7 : decide ((t.length : Int) ≤ 7) = false := decide_eq_false (by omega)
      rw [decide_eq_false h7, Bool.false_and]
      clear h7
      go_enter Tryz.func124, Tryz.ntmps124
      go_wp2_with fail
      refine (HA.out _ HV.out).mono ?_
      rintro e w1 ⟨⟨er, rfl, her⟩, hb⟩
      have her' : er = .nilIface := her
      subst her'
      have HB := Lib.hid hb
      clear hb her
      go_wp2_with fail
      go_ret2
      exact ⟨rfl, HB.out⟩
end
section
set_option maxRecDepth 100000
open Go.RowKit
attribute [local go_sem] toList_mk mk_size
theorem BitsAt.none (w : World) (S : Nat → Prop) : BitsAt w S (.agg #[.int .i64 0, .slice none 0 0]) noBits := ⟨_, rfl, Vec.nil _ _ _ _⟩
end
section
set_option maxRecDepth 100000
open Go.RowKit Cal
attribute [local go_sem] toList_mk mk_size str_append
theorem BitsVec.nil (w : World) (S : Nat → Prop) : BitsVec w S (.slice none 0 0) [] := ⟨[], Vec.nil _ _ _ _, rfl, fun n h1 _ => by simp at h1⟩
end
section
set_option maxRecDepth 100000
open Go.RowKit Cal
attribute [local go_sem] toList_mk mk_size str_append
def noEnc : EncL := ⟨0, 0, []⟩
theorem splC_mem (c : UInt8) : ∀ (l p : List UInt8) (t : List UInt8), t ∈ splC c p l → t.length ≤ p.length + l.length
  | [], p, t, h => by simp [splC] at h; subst h; simp
  | x :: r, p, t, h => by
    rw [splC] at h
    split at h
    · rcases List.mem_cons.1 h with rfl | h1
      · simp
      · have := splC_mem c r [] t h1; simp at this; simp; omega
    · have := splC_mem c r (p ++ [x]) t h; simp at this; simp; omega
theorem splC_few (c : UInt8) : ∀ (l p : List UInt8), (splC c p l).length ≤ l.length + 1
  | [], p => by simp [splC]
  | x :: r, p => by
    rw [splC]
    split
    · have := splC_few c r []; simp; omega
    · have := splC_few c r (p ++ [x]); simp; omega
theorem EncVal.none (w : World) (S : Nat → Prop) : EncVal w S (.agg #[.int .i64 0, .int .i64 0, .slice none 0 0]) noEnc := ⟨_, rfl, BitsVec.nil _ _⟩
end
section
set_option maxRecDepth 100000
open Go.RowKit Cal
attribute [local go_sem] toList_mk mk_size str_append
theorem RecVal.none (w : World) (S : Nat → Prop) : RecVal w S (.agg #[.int .i64 0, .int .i64 0, .slice none 0 0]) noRec := ⟨_, rfl, Vec.nil _ _ _ _⟩
/-- the words behind the first two, in blocks of S -/
theorem RowB.from2S {w : World} {S : Nat → Prop} {A : Nat} {L : List (List UInt8)} (h : RowB w A L) (hS : S A) (h2 : 2 < L.length) (c : Nat) (hc : L.length - 2 ≤ c) : Vec w S 1 encS (.slice (some ⟨A, 2, none⟩) (L.length - 2) c) (L.drop 2) := by
  refine ⟨_, c, by rw [List.length_drop], by rw [List.length_drop]; exact hc, fun h0 => ⟨A, 2, rfl, hS, lt_of_blk h, fun j x hj i u hu => ?_⟩⟩
  have hi : i = 0 ∧ u = strV x := by
    cases i with
    | zero => exact ⟨rfl, by simpa [encS] using hu.symm⟩
    | succ i => simp [encS] at hu
  obtain ⟨rfl, rfl⟩ := hi
  rw [List.getElem?_drop] at hj
  have hlt : 2 + j < L.length := (List.getElem?_eq_some_iff.1 hj).1
  have := RowB.cell h (2 + j) hlt
  rw [show L.getD (2 + j) [] = x by simp [List.getD, hj]] at this
  rw [Nat.mul_one, Nat.add_zero]; exact this
def RecParsed (p : RecL × Int) (w : World) (e : Ending) (w' : World) : Prop := ∃ v, e = .returned (.tuple #[v, .int .i64 p.2]) ∧ RecVal w' (fun b => w.heap.size ≤ b) v p.1 ∧ Below w.heap.size w w'
theorem checkI_two (s : SchemaL) (r : RecL) : checkI s r = 0 ∨ checkI s r = 7 := by unfold checkI; split; exact .inl rfl; exact .inr rfl
theorem RecParsed.bad {w w6 : World} {er : Int} (hb : Below w.heap.size w w6) {z : Nat} (hz : w.heap.size ≤ z) : RecParsed (noRec, er) w (.returned (.tuple #[.agg #[.int .i64 0, .int .i64 0, .slice none 0 0], .int .i64 er])) (((w6.setCell ⟨z, 0, none⟩ (.int .i64 0)).setCell ⟨z, 1, none⟩ (.int .i64 0)).setCell ⟨z, 2, none⟩ (.slice none 0 0)) :=
  ⟨_, rfl, RecVal.none _ _, ((hb.setCell (p := ⟨z, 0, none⟩) hz _).setCell (p := ⟨z, 1, none⟩) hz _).setCell (p := ⟨z, 2, none⟩) hz _⟩
set_option maxHeartbeats 16000000 in
theorem precparse_any (S : Nat → Prop) (vf vt vn vs : Value) (s : SchemaL) (t : List UInt8) (w : World) (h : SchemaAt w S vf vt vn vs s) (hc : checkS s = 0) (hvr : VarsAt w) (ht : t.length ≤ 100000) :
    Calls Tryz.prog 74 #[.agg #[vf, vt, vn, vs], strV t] w (RecParsed (parseR s t) w) := by
  have hsz := fun x hx => splC_mem 9 t [] x hx
  have hfw := splC_few 9 t []
  have h5 := (check_fields hc).1.2
  have h15 := (check_fields hc).1.1
  obtain ⟨R, hR⟩ : ∃ R, parseR s t = R := ⟨_, rfl⟩
  obtain ⟨L, hL⟩ : ∃ L, splC 9 [] t = L := ⟨_, rfl⟩
  rw [hR]
  unfold parseR parseW at hR
  rw [hL] at hR hsz hfw
  obtain ⟨af, cf, rfl⟩ := h.1.slice
  obtain ⟨n, hn⟩ : ∃ n, L.length = n := ⟨_, rfl⟩
  obtain ⟨N, hN⟩ : ∃ N, s.fields.length = N := ⟨_, rfl⟩
  rw [hn] at hR hfw
  rw [hN] at hR h5 h15 h
  rw [hN]
  have Hn := Lib.hid hn; have HNN := Lib.hid hN
  clear hn hN
  have HSc := Lib.hid h; have HVr := Lib.hid hvr; have HL := Lib.hid hL; have HSz := Lib.hid hsz; have HR := Lib.hid hR
  clear hvr hL hsz hR h hc
  go_enter Tryz.func74, Tryz.ntmps74
  go_wp2_with fail
  refine wp_calls_world (fun W hW => ?_)
  have hb0 : Below w.heap.size w W := by rw [hW]; exact ((Below.refl w.heap.size w).alloc (Nat.le_refl _) _).alloc (by simp) _
  have hs0 : W.heap[w.heap.size]? = some (.cells #[.slice af N cf, vt, vn, vs] 33 (0, 0)) := by rw [hW]; exact blk_old (blk_new rfl)
  have hz0 : W.heap[w.heap.size + 1]? = some (.cells #[.int .i64 0, .int .i64 0, .slice none 0 0] 48 (0, 0)) := by rw [hW]; exact blk_new (by simp)
  clear hW
  refine (split_any 9 t W (HVr.out.old hb0).m (by omega)).mono ?_
  rw [HL.out, Hn.out]
  rintro e w1 ⟨rfl, hrow, hb⟩
  have hz1 := blk_below hb (lt_of_blk hz0) hz0; have hs1 := blk_below hb (lt_of_blk hs0) hs0
  have HB1 := Lib.hid (hb0.trans (hb.mono hb0.size)); have HZ1 := Lib.hid hz1; have HS1 := Lib.hid hs1; have HRow := Lib.hid hrow
  have zW := hb0.size; have zh := lt_of_blk hz0
  obtain ⟨s0, s1, s2, s3⟩ := cellsS hs1
  obtain ⟨z0, z1, z2⟩ := cells3 hz1
  have f0 := frozen_of_row _ _ 0 _ _ hz1; have f1 := frozen_of_row _ _ 1 _ _ hz1; have f2 := frozen_of_row _ _ 2 _ _ hz1
  have lz := lt_of_blk hz1
  clear hb hb0 hz0 hz1 hrow hs0 hs1
  have hwl : IntKind.i64.wrap ((N : Int) + 2) = (N : Int) + 2 := by rw [IntKind.wrap_i64]; omega
  by_cases hl : n = N + 2
  · have d2 : ((n : Int) != (N : Int) + 2) = false := by simp; omega
    have hRn := HR.out
    rw [if_pos hl] at hRn
    have c0 := RowB.cell HRow.out 0 (by rw [Hn.out]; omega)
    have c1 := RowB.cell HRow.out 1 (by rw [Hn.out]; omega)
    obtain ⟨x, hx⟩ : ∃ x, L.getD 0 [] = x := ⟨_, rfl⟩
    obtain ⟨y, hy⟩ : ∃ y, L.getD 1 [] = y := ⟨_, rfl⟩
    have hxl : x.length ≤ 1000000000 := by have := HSz.out (L.getD 0 []) (by rw [getD_at _ _ (show 0 < L.length by rw [Hn.out]; omega)]; exact List.getElem_mem _); rw [hx] at this; simp at this; omega
    have hyl : y.length ≤ 1000000000 := by have := HSz.out (L.getD 1 []) (by rw [getD_at _ _ (show 1 < L.length by rw [Hn.out]; omega)]; exact List.getElem_mem _); rw [hy] at this; simp at this; omega
    have hrw : recW L = ⟨atoiV x, atoiV y, L.drop 2⟩ := by unfold recW; rw [hx, hy]
    rw [hx, hy, hrw] at hRn
    rw [hx] at c0; rw [hy] at c1
    have i0 : (0 : Int) < (n : Int) := by omega
    have i1 : (1 : Int) < (n : Int) := by omega
    have i2 : (2 : Int) ≤ (n : Int) := by omega
    have hv1 := HVr.out.old HB1.out
    have lrow := lt_of_blk HRow.out
    obtain ⟨bx, hbx⟩ : ∃ b, numOk x = b := ⟨_, rfl⟩
    obtain ⟨by_, hby⟩ : ∃ b, numOk y = b := ⟨_, rfl⟩
    have hn1 := fun w hw => rnum_any x w hxl hw
    have hn2 := fun w hw => rnum_any y w hyl hw
    rw [hbx] at hn1 hRn; rw [hby] at hn2 hRn
    have HN1 := Lib.hid hn1; have HN2 := Lib.hid hn2; have HRn := Lib.hid hRn; have HLl := Lib.hid hl
    have hl3 : 2 < n := by omega
    have hn7 : n ≤ 7 := by omega
    clear hx hy HR hn1 hn2 hbx hby hRn hrw hl
    go_wp2_with fail
    refine (HN1.out _ hv1).mono ?_
    rintro e w2 ⟨rfl, hb2⟩
    have c1' := (hb2.cell (p := ⟨W.heap.size, 1, none⟩) lrow).trans c1
    have HZ2 := Lib.hid (blk_below hb2 (lt_of_blk HZ1.out) HZ1.out); have HS2 := Lib.hid (blk_below hb2 (lt_of_blk HS1.out) HS1.out)
    have HRow2 := Lib.hid (show RowB w2 W.heap.size L from blk_below hb2 lrow HRow.out)
    have HB2 := Lib.hid (HB1.out.trans (hb2.mono HB1.out.size))
    have hv2 := HVr.out.old HB2.out
    have lrow2 := lt_of_blk HRow2.out
    clear hb2 hv1 c0 c1 HZ1 HRow HS1 s0 s1 s2 s3 z0 z1 z2 f0 f1 f2
    go_wp2_with fail
    refine (HN2.out _ hv2).mono ?_
    rintro e w3 ⟨rfl, hb3⟩
    have HZ3 := Lib.hid (blk_below hb3 (lt_of_blk HZ2.out) HZ2.out); have HS3 := Lib.hid (blk_below hb3 (lt_of_blk HS2.out) HS2.out)
    have HRow3 := Lib.hid (show RowB w3 W.heap.size L from blk_below hb3 lrow2 HRow2.out)
    have HB3 := Lib.hid (HB2.out.trans (hb3.mono HB2.out.size))
    have hz1 := HZ3.out
    obtain ⟨z0, z1, z2⟩ := cells3 hz1
    have f0 := frozen_of_row _ _ 0 _ _ hz1; have f1 := frozen_of_row _ _ 1 _ _ hz1; have f2 := frozen_of_row _ _ 2 _ _ hz1
    have lz3 := lt_of_blk hz1
    have hrow3 := lt_of_blk HRow3.out
    clear hb3 hv2 c1' HZ2 HRow2 HS2 hz1
    have hbad : ∀ b, b = false → (bx && by_) = b → R = (noRec, 14) := fun b h1 h2 => by
      have h3 := HRn.out
      rw [h2, h1] at h3
      simpa using h3.symm
    cases hbx : bx
    · have HRe := Lib.hid (hbad false rfl (by rw [hbx]; rfl))
      subst hbx
      clear hbad HRn
      go_wp2_with fail
      rw [HRe.out]
      exact bodyPost_row2 rfl rfl (blk_set (i := 2) (v := .slice none 0 0) (blk_set (i := 1) (v := .int .i64 0) (blk_set (i := 0) (v := .int .i64 0) HZ3.out))) Tryz.underlying48 rfl (by kernel_rfl) (RecParsed.bad HB3.out (Nat.le_succ _))
    cases hby : by_
    · have HRe := Lib.hid (hbad false rfl (by rw [hbx, hby]; rfl))
      subst hbx hby
      clear hbad HRn
      go_wp2_with fail
      rw [HRe.out]
      exact bodyPost_row2 rfl rfl (blk_set (i := 2) (v := .slice none 0 0) (blk_set (i := 1) (v := .int .i64 0) (blk_set (i := 0) (v := .int .i64 0) HZ3.out))) Tryz.underlying48 rfl (by kernel_rfl) (RecParsed.bad HB3.out (Nat.le_succ _))
    subst hbx hby
    have hRn := HRn.out
    rw [if_pos (by rfl)] at hRn
    obtain ⟨Z, hZ⟩ : ∃ Z : RecL, (⟨atoiV x, atoiV y, L.drop 2⟩ : RecL) = Z := ⟨_, rfl⟩
    rw [hZ] at hRn
    have HRf := Lib.hid hRn; have HZZ := Lib.hid hZ
    have hdl : ∀ u ∈ L.drop 2, u.length ≤ 1000000 := fun u hu => by have := HSz.out u (List.mem_of_mem_drop hu); simp at this; omega
    have hdn : (L.drop 2).length ≤ 5 := by rw [List.length_drop, Hn.out]; omega
    have HDl := Lib.hid hdl; have HDn := Lib.hid hdn
    clear hbad HRn hRn hZ hdl hdn
    have hs3 := HS3.out
    have hvec : Vec w3 (fun b => w.heap.size + 1 < b) 1 encS (.slice (some ⟨W.heap.size, 2, none⟩) (n - 2) (n - 2)) (L.drop 2) := by have := HRow3.out.from2S (S := fun b => w.heap.size + 1 < b) (by omega) (by rw [Hn.out]; omega) (L.length - 2) (Nat.le_refl _); rwa [Hn.out] at this
    have HVec := Lib.hid hvec
    obtain ⟨s0, s1, s2, s3⟩ := cellsS hs3
    have ls3 := lt_of_blk hs3
    have hb3' := HB3.out.size
    clear hvec hs3
    go_wp2_with fail
    refine wp_calls_world (fun W5 hW5 => ?_)
    have hb5 : Below w3.heap.size w3 W5 := by rw [hW5]; exact (Below.refl w3.heap.size w3).alloc (Nat.le_refl _) _
    have hx5 : W5.heap[w3.heap.size]? = some (.cells #[.int .i64 (atoiV x), .int .i64 (atoiV y), .slice (some ⟨W.heap.size, 2, none⟩) (n - 2) (n - 2)] 48 (0, 0)) := by rw [hW5]; exact blk_new rfl
    clear hW5
    have hck := rchk_any S (.slice af N cf) vt vn vs s Z (.slice (some ⟨W.heap.size, 2, none⟩) (n - 2) (n - 2)) W5 (HSc.out.below (HB3.out.trans (hb5.mono HB3.out.size))) (by rw [← HZZ.out]; exact (HVec.out.below hb5).any) (by rw [← HZZ.out]; exact HDl.out) (by rw [← HZZ.out]; show (L.drop 2).length ≤ _; have := HDn.out; omega)
    rw [← HZZ.out] at hck
    dsimp only at hck
    rw [HZZ.out] at hck
    refine hck.mono ?_
    rintro e w6 ⟨rfl, hb⟩
    have hx6 := blk_below hb (lt_of_blk hx5) hx5
    have hz5 := blk_below hb5 (lt_of_blk HZ3.out) HZ3.out
    have hz6 := blk_below hb (lt_of_blk hz5) hz5
    have HB6 := Lib.hid ((HB3.out.trans (hb5.mono HB3.out.size)).trans (hb.mono (Nat.le_trans HB3.out.size hb5.size)))
    have HV6 := Lib.hid ((HVec.out.below hb5).below hb)
    have HX6 := Lib.hid hx6; have HZ6 := Lib.hid hz6
    obtain ⟨x0, x1, x2⟩ := cells3 hx6
    obtain ⟨z0, z1, z2⟩ := cells3 hz6
    have f0 := frozen_of_row _ _ 0 _ _ hz6; have f1 := frozen_of_row _ _ 1 _ _ hz6; have f2 := frozen_of_row _ _ 2 _ _ hz6
    have lz6 := lt_of_blk hz6; have lx := lt_of_blk hx6
    clear hb hb5 hx5 hx6 hz5 hz6 hck s0 s1 s2 s3
    rcases checkI_two s Z with h0 | h7
    · have hRf := HRf.out
      rw [if_pos h0] at hRf
      have HRe := Lib.hid hRf
      rw [h0]
      have d00 : ((0 : Int) != 0) = false := rfl
      clear h0 hRf HRf
      go_wp2_with fail
      rw [← HRe.out, ← HZZ.out]
      refine bodyPost_row2 rfl rfl (blk_set (i := 2) (v := .slice (some ⟨W.heap.size, 2, none⟩) (n - 2) (n - 2)) (blk_set (i := 1) (v := .int .i64 (atoiV y)) (blk_set (i := 0) (v := .int .i64 (atoiV x)) HZ6.out))) Tryz.underlying48 rfl (by kernel_rfl) ?_
      refine ⟨_, rfl, ⟨_, rfl, ?_⟩, ((HB6.out.setCell (p := ⟨w.heap.size + 1, 0, none⟩) (Nat.le_succ _) _).setCell (p := ⟨w.heap.size + 1, 1, none⟩) (Nat.le_succ _) _).setCell (p := ⟨w.heap.size + 1, 2, none⟩) (Nat.le_succ _) _⟩
      refine HV6.out.move (by simp [World.setCell]) fun b hb hs => ?_
      have hs' : w.heap.size + 1 < b := hs
      exact ⟨((heap_setCell_other _ _ _ _ (by show b ≠ w.heap.size + 1; omega)).trans (heap_setCell_other _ _ _ _ (by show b ≠ w.heap.size + 1; omega))).trans (heap_setCell_other _ _ _ _ (by show b ≠ w.heap.size + 1; omega)), by show w.heap.size ≤ b; omega⟩
    · have hRf := HRf.out
      rw [if_neg (by rw [h7]; decide), h7] at hRf
      have HRe := Lib.hid hRf
      rw [h7]
      have d77 : ((7 : Int) != 0) = true := rfl
      clear h7 hRf HRf
      go_wp2_with fail
      rw [← HRe.out]
      exact bodyPost_row2 rfl rfl (blk_set (i := 2) (v := .slice none 0 0) (blk_set (i := 1) (v := .int .i64 0) (blk_set (i := 0) (v := .int .i64 0) HZ6.out))) Tryz.underlying48 rfl (by kernel_rfl) (RecParsed.bad HB6.out (Nat.le_succ _))
  · have d2 : ((n : Int) != (N : Int) + 2) = true := by simp; omega
    have hRn := HR.out
    rw [if_neg hl] at hRn
    subst hRn
    clear hl
    go_wp2_with fail
    exact bodyPost_row2 rfl rfl (blk_set (i := 2) (v := .slice none 0 0) (blk_set (i := 1) (v := .int .i64 0) (blk_set (i := 0) (v := .int .i64 0) HZ1.out))) Tryz.underlying48 rfl (by kernel_rfl) (RecParsed.bad HB1.out (Nat.le_succ _))
end
section
set_option maxRecDepth 100000
open Go.RowKit Cal
attribute [local go_sem] toList_mk mk_size str_append
theorem ext_drop (a b : List UInt8) (n : Nat) (hn : n = (a ++ 9 :: b).length) : (⟨(a ++ 9 :: b).toArray⟩ : ByteArray).extract (a.length + 1) n = ⟨b.toArray⟩ := by
  subst hn
  apply ByteArray.ext
  rw [ByteArray.data_extract]
  simp
  exact List.take_of_length_le (by omega)
theorem lastIx_any (t : List UInt8) (w : World) (ht : t.length ≤ 1000000000) : Calls Tryz.prog 116 #[strV t, .int .u8 9] w fun e w' => e = .returned (.int .i64 (Lib.lastIndexByte ⟨t.toArray⟩ 9)) ∧ w' = w := Tryz.strings_LastIndexByte ⟨t.toArray⟩ 9 (by rw [mk_size]; omega) w
set_option maxHeartbeats 16000000 in
theorem rtake_any (S T : Nat → Prop) (vf vt vn vs lv : Value) (s : SchemaL) (l : List RecL) (row : List UInt8) (w : World) (h : SchemaAt w S vf vt vn vs s) (hc : checkS s = 0) (hl : RecsVec w T lv l) (hl6 : l.length ≤ 64) (hvr : VarsAt w) (hdb : DbAt w) (ht : row.length ≤ 50000) :
    Calls Tryz.prog 67 #[.agg #[vf, vt, vn, vs], lv, strV row] w (RecParsed (takeN s l row) w) := by
  obtain ⟨R, hR⟩ : ∃ R, takeN s l row = R := ⟨_, rfl⟩
  rw [hR]
  unfold takeN at hR
  obtain ⟨al, cl, rfl⟩ := hl.slice
  have HSc := Lib.hid h; have HVr := Lib.hid hvr; have HDb := Lib.hid hdb; have HC := Lib.hid hc; have HL := Lib.hid hl
  clear hvr h hc hdb hl
  cases hcut : cutLast 9 row with
  | none =>
    rw [hcut] at hR
    have hR : (noRec, 14) = R := hR
    subst hR
    have hix := lastI_no row (cutLast_none hcut)
    have hcall := fun w => lastIx_any row w (by omega)
    rw [hix] at hcall
    have HI := Lib.hid hcall
    clear hcut hix hcall
    go_enter Tryz.func67, Tryz.ntmps67
    go_wp2_with fail
    refine (HI.out _).mono ?_
    rintro e w1 ⟨rfl, rfl⟩
    go_wp2_with fail
    refine bodyPost_row2 rfl rfl (blk_new (by simp)) Tryz.underlying48 rfl (by kernel_rfl) ⟨_, rfl, RecVal.none _ _, ?_⟩
    exact ((Below.refl w.heap.size w).alloc (Nat.le_refl _) _).alloc (by simp) _
  | some ab =>
    obtain ⟨a, b⟩ := ab
    obtain ⟨hrow, hno⟩ := cutLast_some hcut
    rw [hcut] at hR
    dsimp only at hR
    subst hrow
    have hix := lastI_at a b hno
    have hcall := fun w => lastIx_any (a ++ 9 :: b) w (by omega)
    rw [hix] at hcall
    have hlen : a.length + 1 + b.length ≤ 50000 := by simp at ht; omega
    have hx1 := ext_drop a b (a.length + 1 + b.length) (by simp; omega)
    have hx2 := extract_take (a ++ 9 :: b) a.length
    rw [List.take_left] at hx2
    obtain ⟨row, hrw⟩ : ∃ row, a ++ 9 :: b = row := ⟨_, rfl⟩
    have hrl : row.length = a.length + 1 + b.length := by rw [← hrw]; simp; omega
    have hw1 : IntKind.i64.wrap ((a.length : Int) + 1) = (a.length : Int) + 1 := by rw [IntKind.wrap_i64]; omega
    have hq1 : (0 : Int) ≤ (a.length : Int) + 1 := by omega
    have hq2 : (a.length : Int) + 1 ≤ (a.length : Int) + 1 + (b.length : Int) := by omega
    have hq3 : (a.length : Int) ≤ (a.length : Int) + 1 + (b.length : Int) := by omega
    have hq4 : ((a.length : Int) + 1).toNat = a.length + 1 := by omega
    rw [hrw] at hcall hx1 hx2 ⊢
    have HI := Lib.hid hcall; have HR := Lib.hid hR
    clear hcut hix hcall hno hrw ht hR
    go_enter Tryz.func67, Tryz.ntmps67
    go_wp2_with fail
    refine wp_calls_world (fun W hW => ?_)
    have hb0 : Below w.heap.size w W := by rw [hW]; exact ((Below.refl w.heap.size w).alloc (Nat.le_refl _) _).alloc (by simp) _
    have hs0 : W.heap[w.heap.size]? = some (.cells #[vf, vt, vn, vs] 33 (0, 0)) := by rw [hW]; exact blk_old (blk_new rfl)
    have hz0 : W.heap[w.heap.size + 1]? = some (.cells #[.int .i64 0, .int .i64 0, .slice none 0 0] 48 (0, 0)) := by rw [hW]; exact blk_new (by simp)
    clear hW
    have HB0 := Lib.hid hb0; have HS0 := Lib.hid hs0; have HZ0 := Lib.hid hz0
    clear hb0 hs0 hz0
    refine (HI.out _).mono ?_
    rintro e w1 ⟨rfl, rfl⟩
    go_wp2_with fail
    refine (digits_any b w1 (by omega)).mono ?_
    rintro e w2 ⟨rfl, hb⟩
    have HB2 := Lib.hid (HB0.out.trans (hb.mono HB0.out.size)); have HS2 := Lib.hid (blk_below hb (lt_of_blk HS0.out) HS0.out); have HZ2 := Lib.hid (blk_below hb (lt_of_blk HZ0.out) HZ0.out)
    clear hb HS0 HZ0 HB0
    have hR := HR.out
    cases hdg : digB b
    · rw [hdg] at hR
      have hR : (noRec, 14) = R := hR
      have HRe := Lib.hid hR
      obtain ⟨z0, z1, z2⟩ := cells3 HZ2.out
      have f0 := frozen_of_row _ _ 0 _ _ HZ2.out; have f1 := frozen_of_row _ _ 1 _ _ HZ2.out; have f2 := frozen_of_row _ _ 2 _ _ HZ2.out
      have lz := lt_of_blk HZ2.out
      clear hR HR hdg
      go_wp2_with fail
      rw [← HRe.out]
      exact bodyPost_row2 rfl rfl (blk_set (i := 2) (v := .slice none 0 0) (blk_set (i := 1) (v := .int .i64 0) (blk_set (i := 0) (v := .int .i64 0) HZ2.out))) Tryz.underlying48 rfl (by kernel_rfl) (RecParsed.bad HB2.out (Nat.le_succ _))
    · rw [hdg, if_pos rfl] at hR
      have hsum := fun w hw => rsum_any' a w (by omega) hw
      obtain ⟨z, hz⟩ : ∃ z, sumT a = z := ⟨_, rfl⟩
      rw [hz] at hsum hR
      have HSm := Lib.hid hsum
      clear hsum hz hdg
      have bD : Below w2.heap.size w2 w2.drew := (Below.refl _ _).drew
      have hdb2 := (HDb.out.old HB2.out).old bD
      by_cases hs : b = z
      · have dz : (b == z) = true := by simpa using hs
        rw [if_pos hs] at hR
        have HR2 := Lib.hid hR
        clear hR HR hs
        go_wp2_with fail
        refine wp_region_noPanic ?_
        refine wp_region_held_drew (S := (fun _ => True)) (by kernel_rfl) (trivial) (fun hHeld => ?_)
        refine tH 0 (h := ?_)
        try simp only [List.getElem_toArray, List.getElem_cons_zero, List.getElem_cons_succ, Act.put, List.setIfInBounds_toArray, List.set_cons_zero, List.set_cons_succ]
        refine tH 1 (h := ?_)
        try simp only [List.getElem_toArray, List.getElem_cons_zero, List.getElem_cons_succ, Act.put, List.setIfInBounds_toArray, List.set_cons_zero, List.set_cons_succ]
        refine tH 2 (h := ?_)
        try simp only [List.getElem_toArray, List.getElem_cons_zero, List.getElem_cons_succ, Act.put, List.setIfInBounds_toArray, List.set_cons_zero, List.set_cons_succ]
        refine tH 3 (h := ?_)
        try simp only [List.getElem_toArray, List.getElem_cons_zero, List.getElem_cons_succ, Act.put, List.setIfInBounds_toArray, List.set_cons_zero, List.set_cons_succ]
        refine tH 4 (h := ?_)
        try simp only [List.getElem_toArray, List.getElem_cons_zero, List.getElem_cons_succ, Act.put, List.setIfInBounds_toArray, List.set_cons_zero, List.set_cons_succ]
        refine tH 5 (h := ?_)
        try simp only [List.getElem_toArray, List.getElem_cons_zero, List.getElem_cons_succ, Act.put, List.setIfInBounds_toArray, List.set_cons_zero, List.set_cons_succ]
        refine tH 6 (h := ?_)
        try simp only [List.getElem_toArray, List.getElem_cons_zero, List.getElem_cons_succ, Act.put, List.setIfInBounds_toArray, List.set_cons_zero, List.set_cons_succ]
        refine wpAnyH_ready (rs := [7]) (by kernel_rfl) (by simp) ?_
        refine AllReadyH.cons rfl (fun K hK => ?_) AllReadyH.nil
        go_simp
        refine (HSm.out _ hdb2).mono ?_; rintro e w3 ⟨rfl, hb⟩; have b3 := bD.trans (hb.mono bD.size); clear hb
        refine hK.out _ _ (trivial) (fun hHeld => ?_)
        clear hK K
        try simp only [List.getElem_toArray, List.getElem_cons_zero, List.getElem_cons_succ, Act.put, List.setIfInBounds_toArray, List.set_cons_zero, List.set_cons_succ]
        refine tH 8 (h := ?_)
        try simp only [List.getElem_toArray, List.getElem_cons_zero, List.getElem_cons_succ, Act.put, List.setIfInBounds_toArray, List.set_cons_zero, List.set_cons_succ]
        refine tH 9 (h := ?_)
        try simp only [List.getElem_toArray, List.getElem_cons_zero, List.getElem_cons_succ, Act.put, List.setIfInBounds_toArray, List.set_cons_zero, List.set_cons_succ]
        refine wpAnyH_done (by kernel_rfl) ?_ _
        refine NoPanic.normal ?_
        have HB3 := Lib.hid (HB2.out.trans (b3.mono HB2.out.size)); have HS3 := Lib.hid (blk_below b3 (lt_of_blk HS2.out) HS2.out); have HZ3 := Lib.hid (blk_below b3 (lt_of_blk HZ2.out) HZ2.out)
        clear b3 HS2 HZ2 bD hdb2 hHeld HSm dz
        obtain ⟨⟨r1, er⟩, hp⟩ : ∃ p, parseR s a = p := ⟨_, rfl⟩
        have hcall := fun w h1 h2 => precparse_any S vf vt vn vs s a w h1 HC.out h2 (by omega)
        rw [hp] at hcall
        have hR3 := HR2.out
        rw [hp] at hR3
        dsimp only at hR3
        have HP := Lib.hid hcall; have HR3 := Lib.hid hR3
        obtain ⟨s0, s1, s2, s3⟩ := cellsS HS3.out
        have ls := lt_of_blk HS3.out
        have lz3 := lt_of_blk HZ3.out
        have bD : Below w3.heap.size w3 w3.drew := (Below.refl _ _).drew
        clear hcall hR3 hp HR2
        go_wp2_with fail
        go_cut [9, 10] (fun s9 s10 wx => ∃ (xb : Nat) (sv : Value), s9 = .pointer (some ⟨xb, 0, none⟩) ∧ s10 = .int .i64 er ∧ wx.heap[xb]? = some (.cells #[.int .i64 r1.id, .int .i64 r1.ver, sv] 48 (0, 0)) ∧ Vec wx (fun b => w.heap.size + 1 < b ∧ b ≠ xb) 1 encS sv r1.vals ∧ Below w3.heap.size w3 wx ∧ w.heap.size + 1 < xb)
        case first =>
          refine wp_region_noPanic ?_
          refine wp_region_held_drew (S := (fun w' => w'.cell? ⟨w.heap.size, 0, none⟩ = some vf ∧ w'.cell? ⟨w.heap.size, 1, none⟩ = some vt ∧ w'.cell? ⟨w.heap.size, 2, none⟩ = some vn ∧ w'.cell? ⟨w.heap.size, 3, none⟩ = some vs)) (by kernel_rfl) (⟨s0, s1, s2, s3⟩) (fun hHeld => ?_)
          refine tH 0 (h := ?_)
          try simp only [List.getElem_toArray, List.getElem_cons_zero, List.getElem_cons_succ, Act.put, List.setIfInBounds_toArray, List.set_cons_zero, List.set_cons_succ]
          refine tH 1 (h := ?_)
          try simp only [List.getElem_toArray, List.getElem_cons_zero, List.getElem_cons_succ, Act.put, List.setIfInBounds_toArray, List.set_cons_zero, List.set_cons_succ]
          refine tH 2 (h := ?_)
          try simp only [List.getElem_toArray, List.getElem_cons_zero, List.getElem_cons_succ, Act.put, List.setIfInBounds_toArray, List.set_cons_zero, List.set_cons_succ]
          refine tH 3 (h := ?_)
          try simp only [List.getElem_toArray, List.getElem_cons_zero, List.getElem_cons_succ, Act.put, List.setIfInBounds_toArray, List.set_cons_zero, List.set_cons_succ]
          refine wpAnyH_ready (rs := [4, 8]) (by kernel_rfl) (by simp) ?_
          refine AllReadyH.cons rfl (fun K hK => ?_) (AllReadyH.cons rfl (fun K hK => ?_) (AllReadyH.nil))
          focus
            go_simp
            refine (HP.out _ ((HSc.out.below HB3.out).below bD) ((HVr.out.old HB3.out).old bD)).mono ?_
            rintro e V1 ⟨_, rfl, ⟨sv, rfl, hv⟩, hb⟩
            have b1 := bD.trans (hb.mono bD.size)
            have hv := hv.move (w' := V1) (S' := fun b => w.heap.size + 1 < b) (Nat.le_refl _) fun b hb' hs => ⟨rfl, by have h1 : w3.heap.size ≤ b := hs; show w.heap.size + 1 < b; omega⟩
            clear hb
            refine hK.out _ _ (⟨(b1.cell (p := ⟨w.heap.size, 0, none⟩) ls).trans s0, (b1.cell (p := ⟨w.heap.size, 1, none⟩) ls).trans s1, (b1.cell (p := ⟨w.heap.size, 2, none⟩) ls).trans s2, (b1.cell (p := ⟨w.heap.size, 3, none⟩) ls).trans s3⟩) (fun hHeld => ?_)
            clear hK K
            try simp only [List.getElem_toArray, List.getElem_cons_zero, List.getElem_cons_succ, Act.put, List.setIfInBounds_toArray, List.set_cons_zero, List.set_cons_succ]
            refine tH 5 (h := ?_)
            try simp only [List.getElem_toArray, List.getElem_cons_zero, List.getElem_cons_succ, Act.put, List.setIfInBounds_toArray, List.set_cons_zero, List.set_cons_succ]
            refine tH 6 (h := ?_)
            try simp only [List.getElem_toArray, List.getElem_cons_zero, List.getElem_cons_succ, Act.put, List.setIfInBounds_toArray, List.set_cons_zero, List.set_cons_succ]
            refine tH 7 (h := ?_)
            try simp only [List.getElem_toArray, List.getElem_cons_zero, List.getElem_cons_succ, Act.put, List.setIfInBounds_toArray, List.set_cons_zero, List.set_cons_succ]
            refine wpAnyH_ready (rs := [8]) (by kernel_rfl) (by simp) ?_
            refine AllReadyH.cons rfl (fun K hK => ?_) (AllReadyH.nil)
            go_simp
            refine hK.out _ _ (⟨((b1.alloc b1.size (.cells #[.int .i64 0, .int .i64 0, .slice none 0 0] 48)).cell (p := ⟨w.heap.size, 0, none⟩) ls).trans s0, ((b1.alloc b1.size (.cells #[.int .i64 0, .int .i64 0, .slice none 0 0] 48)).cell (p := ⟨w.heap.size, 1, none⟩) ls).trans s1, ((b1.alloc b1.size (.cells #[.int .i64 0, .int .i64 0, .slice none 0 0] 48)).cell (p := ⟨w.heap.size, 2, none⟩) ls).trans s2, ((b1.alloc b1.size (.cells #[.int .i64 0, .int .i64 0, .slice none 0 0] 48)).cell (p := ⟨w.heap.size, 3, none⟩) ls).trans s3⟩) (fun hHeld => ?_)
            clear hK K
            try simp only [List.getElem_toArray, List.getElem_cons_zero, List.getElem_cons_succ, Act.put, List.setIfInBounds_toArray, List.set_cons_zero, List.set_cons_succ]
            refine wph_name (fun V2 hV => ?_)
            have b2 : Below w3.heap.size w3 V2 := by rw [hV]; exact b1.alloc b1.size (.cells #[.int .i64 0, .int .i64 0, .slice none 0 0] 48)
            have gx : V2.heap[V1.heap.size]? = some (.cells #[.int .i64 0, .int .i64 0, .slice none 0 0] 48 (0, 0)) := by rw [hV]; exact blk_new rfl
            have hrx : w3.heap.size ≤ V1.heap.size := b1.size
            have hv := hv.move (w' := V2) (S' := fun b => w.heap.size + 1 < b ∧ b ≠ V1.heap.size) (by rw [hV]; simp) fun b hb' hs => ⟨by rw [hV]; exact heap_alloc_old _ _ hb', hs, by omega⟩
            clear hV hHeld
            have hHeld : V2.cell? ⟨w.heap.size, 0, none⟩ = some vf ∧ V2.cell? ⟨w.heap.size, 1, none⟩ = some vt ∧ V2.cell? ⟨w.heap.size, 2, none⟩ = some vn ∧ V2.cell? ⟨w.heap.size, 3, none⟩ = some vs := ⟨(b2.cell (p := ⟨w.heap.size, 0, none⟩) ls).trans s0, (b2.cell (p := ⟨w.heap.size, 1, none⟩) ls).trans s1, (b2.cell (p := ⟨w.heap.size, 2, none⟩) ls).trans s2, (b2.cell (p := ⟨w.heap.size, 3, none⟩) ls).trans s3⟩
          rotate_left 1
          focus
            go_simp
            refine hK.out _ _ (⟨((bD.alloc bD.size (.cells #[.int .i64 0, .int .i64 0, .slice none 0 0] 48)).cell (p := ⟨w.heap.size, 0, none⟩) ls).trans s0, ((bD.alloc bD.size (.cells #[.int .i64 0, .int .i64 0, .slice none 0 0] 48)).cell (p := ⟨w.heap.size, 1, none⟩) ls).trans s1, ((bD.alloc bD.size (.cells #[.int .i64 0, .int .i64 0, .slice none 0 0] 48)).cell (p := ⟨w.heap.size, 2, none⟩) ls).trans s2, ((bD.alloc bD.size (.cells #[.int .i64 0, .int .i64 0, .slice none 0 0] 48)).cell (p := ⟨w.heap.size, 3, none⟩) ls).trans s3⟩) (fun hHeld => ?_)
            clear hK K
            try simp only [List.getElem_toArray, List.getElem_cons_zero, List.getElem_cons_succ, Act.put, List.setIfInBounds_toArray, List.set_cons_zero, List.set_cons_succ]
            refine wph_name (fun V1 hV => ?_)
            have b1 : Below w3.heap.size w3 V1 := by rw [hV]; exact bD.alloc bD.size (.cells #[.int .i64 0, .int .i64 0, .slice none 0 0] 48)
            have gx : V1.heap[w3.heap.size]? = some (.cells #[.int .i64 0, .int .i64 0, .slice none 0 0] 48 (0, 0)) := by rw [hV]; exact blk_new rfl
            have hrx : w3.heap.size ≤ w3.heap.size := Nat.le_refl _
            clear hV hHeld
            have hHeld : V1.cell? ⟨w.heap.size, 0, none⟩ = some vf ∧ V1.cell? ⟨w.heap.size, 1, none⟩ = some vt ∧ V1.cell? ⟨w.heap.size, 2, none⟩ = some vn ∧ V1.cell? ⟨w.heap.size, 3, none⟩ = some vs := ⟨(b1.cell (p := ⟨w.heap.size, 0, none⟩) ls).trans s0, (b1.cell (p := ⟨w.heap.size, 1, none⟩) ls).trans s1, (b1.cell (p := ⟨w.heap.size, 2, none⟩) ls).trans s2, (b1.cell (p := ⟨w.heap.size, 3, none⟩) ls).trans s3⟩
            refine wpAnyH_ready (rs := [4]) (by kernel_rfl) (by simp) ?_
            refine AllReadyH.cons rfl (fun K hK => ?_) (AllReadyH.nil)
            go_simp
            refine (HP.out _ ((HSc.out.below HB3.out).below b1) ((HVr.out.old HB3.out).old b1)).mono ?_
            rintro e V2 ⟨_, rfl, ⟨sv, rfl, hv⟩, hb⟩
            have b2 := b1.trans (hb.mono b1.size)
            have lx := lt_of_blk gx
            have gx := blk_below hb lx gx
            have hv := hv.move (w' := V2) (S' := fun b => w.heap.size + 1 < b ∧ b ≠ w3.heap.size) (Nat.le_refl _) fun b hb' hs => ⟨rfl, by have h1 : V1.heap.size ≤ b := hs; have h2 := b1.size; omega⟩
            clear hb
            refine hK.out _ _ (⟨(b2.cell (p := ⟨w.heap.size, 0, none⟩) ls).trans s0, (b2.cell (p := ⟨w.heap.size, 1, none⟩) ls).trans s1, (b2.cell (p := ⟨w.heap.size, 2, none⟩) ls).trans s2, (b2.cell (p := ⟨w.heap.size, 3, none⟩) ls).trans s3⟩) (fun hHeld => ?_)
            clear hK K
            try simp only [List.getElem_toArray, List.getElem_cons_zero, List.getElem_cons_succ, Act.put, List.setIfInBounds_toArray, List.set_cons_zero, List.set_cons_succ]
            refine tH 5 (h := ?_)
            try simp only [List.getElem_toArray, List.getElem_cons_zero, List.getElem_cons_succ, Act.put, List.setIfInBounds_toArray, List.set_cons_zero, List.set_cons_succ]
            refine tH 6 (h := ?_)
            try simp only [List.getElem_toArray, List.getElem_cons_zero, List.getElem_cons_succ, Act.put, List.setIfInBounds_toArray, List.set_cons_zero, List.set_cons_succ]
            refine tH 7 (h := ?_)
            try simp only [List.getElem_toArray, List.getElem_cons_zero, List.getElem_cons_succ, Act.put, List.setIfInBounds_toArray, List.set_cons_zero, List.set_cons_succ]
          all_goals
            obtain ⟨av, cv, rfl⟩ := hv.slice
            have lx := lt_of_blk gx; obtain ⟨y0, y1, y2⟩ := cells3 gx; have fx0 := frozen_of_row _ _ 0 _ _ gx; have fx1 := frozen_of_row _ _ 1 _ _ gx; have fx2 := frozen_of_row _ _ 2 _ _ gx
            have ms := ((b2.setCell (p := ⟨_, 0, none⟩) hrx (.int .i64 r1.id)).setCell (p := ⟨_, 1, none⟩) hrx (.int .i64 r1.ver)).setCell (p := ⟨_, 2, none⟩) hrx (.slice av r1.vals.length cv)
            refine wpAnyH_ready (rs := [9]) (by kernel_rfl) (by simp) ?_
            refine AllReadyH.cons rfl (fun K hK => ?_) AllReadyH.nil
            go_simp
            refine hK.out _ _ (⟨(ms.cell (p := ⟨w.heap.size, 0, none⟩) ls).trans s0, (ms.cell (p := ⟨w.heap.size, 1, none⟩) ls).trans s1, (ms.cell (p := ⟨w.heap.size, 2, none⟩) ls).trans s2, (ms.cell (p := ⟨w.heap.size, 3, none⟩) ls).trans s3⟩) (fun hHeld => ?_)
            clear hK K
            try simp only [List.getElem_toArray, List.getElem_cons_zero, List.getElem_cons_succ, Act.put, List.setIfInBounds_toArray, List.set_cons_zero, List.set_cons_succ]
            refine tH 10 (h := ?_)
            try simp only [List.getElem_toArray, List.getElem_cons_zero, List.getElem_cons_succ, Act.put, List.setIfInBounds_toArray, List.set_cons_zero, List.set_cons_succ]
            refine wpAnyH_done (by kernel_rfl) ?_ _
            refine NoPanic.normal ?_
            go_wp2_with fail
            go_meet
            exact ⟨_, _, rfl, rfl, blk_set (blk_set (blk_set gx)), ((hv.far (fun b hb => hb.2)).far (fun b hb => hb.2)).far (fun b hb => hb.2), ms, by omega⟩
        case rest =>
          obtain ⟨wu, hwu⟩ : ∃ u, u = wc := ⟨_, rfl⟩
          subst hwu
          obtain ⟨xb, sv, rfl, rfl, gx, hv, bq, hxb⟩ := hcut
          obtain ⟨av, cv, rfl⟩ := hv.slice
          have HB4 := Lib.hid (HB3.out.trans (bq.mono HB3.out.size)); have HZ4 := Lib.hid (blk_below bq lz3 HZ3.out)
          have HGx := Lib.hid gx; have HVx := Lib.hid hv
          obtain ⟨z0, z1, z2⟩ := cells3 HZ4.out
          have f0 := frozen_of_row _ _ 0 _ _ HZ4.out; have f1 := frozen_of_row _ _ 1 _ _ HZ4.out; have f2 := frozen_of_row _ _ 2 _ _ HZ4.out
          have lz4 := lt_of_blk HZ4.out
          obtain ⟨x0, x1, x2⟩ := cells3 gx
          have lx := lt_of_blk gx
          have hR4 := HR3.out
          clear bq gx hv s0 s1 s2 s3 ls lz3 HZ3 HS3 bD HR3 HP hw1 hq1 hq2 hq3 hq4 hx1 hx2
          by_cases he : er = 0
          · subst he
            have dz : ((0 : Int) != 0) = false := rfl
            rw [if_pos rfl] at hR4
            by_cases h64 : l.length = 64
            · have d64 : ((l.length : Int) == 64) = true := by simp; omega
              rw [if_pos h64] at hR4
              have HRe := Lib.hid hR4
              clear hR4 h64
              go_wp2_with fail
              rw [← HRe.out]
              exact bodyPost_row2 rfl rfl (blk_set (i := 2) (v := .slice none 0 0) (blk_set (i := 1) (v := .int .i64 0) (blk_set (i := 0) (v := .int .i64 0) HZ4.out))) Tryz.underlying48 rfl (by kernel_rfl) (RecParsed.bad HB4.out (Nat.le_succ _))
            · have d64 : ((l.length : Int) == 64) = false := by simp; omega
              rw [if_neg h64] at hR4
              have hfin : ∀ b, notB (lastId l) r1.id = b → R = if b = true then (noRec, 12) else (r1, 0) := fun b h => by rw [← hR4, h]
              have HFin := Lib.hid hfin
              clear hR4 h64 hfin
              by_cases h0 : l.length = 0
              · have hl0 : l = [] := List.length_eq_zero_iff.1 h0
                have hRe : R = (r1, 0) := HFin.out false (by rw [hl0]; rfl)
                have HRe := Lib.hid hRe
                have d0 : decide ((0 : Int) < (l.length : Int)) = false := by simp; omega
                have d0n : decide (0 < l.length) = false := by simp; omega
                clear hRe hl0 HFin h0
                go_wp2_with fail
                go_big_quiet (fail)
                go_wp2_with fail
                rw [HRe.out]
                refine bodyPost_row2 rfl rfl (blk_set (i := 2) (v := .slice av r1.vals.length cv) (blk_set (i := 1) (v := .int .i64 r1.ver) (blk_set (i := 0) (v := .int .i64 r1.id) HZ4.out))) Tryz.underlying48 rfl (by kernel_rfl) ?_
                refine ⟨_, rfl, ⟨_, rfl, ?_⟩, (((below_drewN HB4.out _).setCell (p := ⟨w.heap.size + 1, 0, none⟩) (Nat.le_succ _) _).setCell (p := ⟨w.heap.size + 1, 1, none⟩) (Nat.le_succ _) _).setCell (p := ⟨w.heap.size + 1, 2, none⟩) (Nat.le_succ _) _⟩
                refine HVx.out.move (by simp [World.setCell]) fun b hb hs => ?_
                have hs' : w.heap.size + 1 < b ∧ b ≠ xb := hs
                exact ⟨((heap_setCell_other _ _ _ _ (by show b ≠ w.heap.size + 1; omega)).trans (heap_setCell_other _ _ _ _ (by show b ≠ w.heap.size + 1; omega))).trans (heap_setCell_other _ _ _ _ (by show b ≠ w.heap.size + 1; omega)), by show w.heap.size ≤ b; omega⟩
              · obtain ⟨m, hm⟩ : ∃ m, l.length - 1 = m := ⟨_, rfl⟩
                have hml : m < l.length := by omega
                have d0 : decide ((0 : Int) < (l.length : Int)) = true := by simp; omega
                have d0n : decide (0 < l.length) = true := by simp; omega
                have hwm : IntKind.i64.wrap ((l.length : Int) - 1) = (m : Int) := by rw [IntKind.wrap_i64]; omega
                have hmi : (m : Int) < (l.length : Int) := by omega
                obtain ⟨bb, oo, id, ver, aa, nn, cc, vals, eb, lb, c0, c1, c2, hRj, -⟩ := (HL.out.below HB4.out).at m hml
                cases eb
                have hlast : lastId l = some id := by
                  unfold lastId
                  rw [List.getLast?_eq_getElem?, hm, List.getElem?_eq_getElem hml, hRj]; rfl
                have hnb : notB (lastId l) r1.id = decide (r1.id ≤ id) := by rw [hlast]; rfl
                by_cases hle : r1.id ≤ id
                · have dle : decide (r1.id ≤ id) = true := decide_eq_true hle
                  have hRe : R = (noRec, 12) := HFin.out true (by rw [hnb, dle])
                  have HRe := Lib.hid hRe
                  clear hRe hlast hnb HFin h0 hRj hm
                  go_wp2_with fail
                  go_big_quiet (fail)
                  go_wp2_with fail
                  rw [HRe.out]
                  exact bodyPost_row2 rfl rfl (blk_set (i := 2) (v := .slice none 0 0) (blk_set (i := 1) (v := .int .i64 0) (blk_set (i := 0) (v := .int .i64 0) HZ4.out))) Tryz.underlying48 rfl (by kernel_rfl) (RecParsed.bad (below_drewN HB4.out _) (Nat.le_succ _))
                · have dle : decide (r1.id ≤ id) = false := decide_eq_false hle
                  have hRe : R = (r1, 0) := HFin.out false (by rw [hnb, dle])
                  have HRe := Lib.hid hRe
                  clear hRe hlast hnb HFin h0 hRj hm
                  go_wp2_with fail
                  go_big_quiet (fail)
                  go_wp2_with fail
                  rw [HRe.out]
                  refine bodyPost_row2 rfl rfl (blk_set (i := 2) (v := .slice av r1.vals.length cv) (blk_set (i := 1) (v := .int .i64 r1.ver) (blk_set (i := 0) (v := .int .i64 r1.id) HZ4.out))) Tryz.underlying48 rfl (by kernel_rfl) ?_
                  refine ⟨_, rfl, ⟨_, rfl, ?_⟩, (((below_drewN HB4.out _).setCell (p := ⟨w.heap.size + 1, 0, none⟩) (Nat.le_succ _) _).setCell (p := ⟨w.heap.size + 1, 1, none⟩) (Nat.le_succ _) _).setCell (p := ⟨w.heap.size + 1, 2, none⟩) (Nat.le_succ _) _⟩
                  refine HVx.out.move (by simp [World.setCell]) fun b hb hs => ?_
                  have hs' : w.heap.size + 1 < b ∧ b ≠ xb := hs
                  exact ⟨((heap_setCell_other _ _ _ _ (by show b ≠ w.heap.size + 1; omega)).trans (heap_setCell_other _ _ _ _ (by show b ≠ w.heap.size + 1; omega))).trans (heap_setCell_other _ _ _ _ (by show b ≠ w.heap.size + 1; omega)), by show w.heap.size ≤ b; omega⟩
          · have dz : (er != 0) = true := by simpa using he
            rw [if_neg he] at hR4
            have HRe := Lib.hid hR4
            clear hR4 he
            go_wp2_with fail
            rw [← HRe.out]
            exact bodyPost_row2 rfl rfl (blk_set (i := 2) (v := .slice none 0 0) (blk_set (i := 1) (v := .int .i64 0) (blk_set (i := 0) (v := .int .i64 0) HZ4.out))) Tryz.underlying48 rfl (by kernel_rfl) (RecParsed.bad HB4.out (Nat.le_succ _))
      · have dz : (b == z) = false := by simpa using hs
        rw [if_neg hs] at hR
        have HRe := Lib.hid hR
        clear hR HR hs
        go_wp2_with fail
        refine wp_region_noPanic ?_
        refine wp_region_held_drew (S := (fun _ => True)) (by kernel_rfl) (trivial) (fun hHeld => ?_)
        refine tH 0 (h := ?_)
        try simp only [List.getElem_toArray, List.getElem_cons_zero, List.getElem_cons_succ, Act.put, List.setIfInBounds_toArray, List.set_cons_zero, List.set_cons_succ]
        refine tH 1 (h := ?_)
        try simp only [List.getElem_toArray, List.getElem_cons_zero, List.getElem_cons_succ, Act.put, List.setIfInBounds_toArray, List.set_cons_zero, List.set_cons_succ]
        refine tH 2 (h := ?_)
        try simp only [List.getElem_toArray, List.getElem_cons_zero, List.getElem_cons_succ, Act.put, List.setIfInBounds_toArray, List.set_cons_zero, List.set_cons_succ]
        refine tH 3 (h := ?_)
        try simp only [List.getElem_toArray, List.getElem_cons_zero, List.getElem_cons_succ, Act.put, List.setIfInBounds_toArray, List.set_cons_zero, List.set_cons_succ]
        refine tH 4 (h := ?_)
        try simp only [List.getElem_toArray, List.getElem_cons_zero, List.getElem_cons_succ, Act.put, List.setIfInBounds_toArray, List.set_cons_zero, List.set_cons_succ]
        refine tH 5 (h := ?_)
        try simp only [List.getElem_toArray, List.getElem_cons_zero, List.getElem_cons_succ, Act.put, List.setIfInBounds_toArray, List.set_cons_zero, List.set_cons_succ]
        refine tH 6 (h := ?_)
        try simp only [List.getElem_toArray, List.getElem_cons_zero, List.getElem_cons_succ, Act.put, List.setIfInBounds_toArray, List.set_cons_zero, List.set_cons_succ]
        refine wpAnyH_ready (rs := [7]) (by kernel_rfl) (by simp) ?_
        refine AllReadyH.cons rfl (fun K hK => ?_) AllReadyH.nil
        go_simp
        refine (HSm.out _ hdb2).mono ?_; rintro e w3 ⟨rfl, hb⟩; have b3 := bD.trans (hb.mono bD.size); clear hb
        refine hK.out _ _ (trivial) (fun hHeld => ?_)
        clear hK K
        try simp only [List.getElem_toArray, List.getElem_cons_zero, List.getElem_cons_succ, Act.put, List.setIfInBounds_toArray, List.set_cons_zero, List.set_cons_succ]
        refine tH 8 (h := ?_)
        try simp only [List.getElem_toArray, List.getElem_cons_zero, List.getElem_cons_succ, Act.put, List.setIfInBounds_toArray, List.set_cons_zero, List.set_cons_succ]
        refine tH 9 (h := ?_)
        try simp only [List.getElem_toArray, List.getElem_cons_zero, List.getElem_cons_succ, Act.put, List.setIfInBounds_toArray, List.set_cons_zero, List.set_cons_succ]
        refine wpAnyH_done (by kernel_rfl) ?_ _
        refine NoPanic.normal ?_
        have HB3 := Lib.hid (HB2.out.trans (b3.mono HB2.out.size)); have HZ3 := Lib.hid (blk_below b3 (lt_of_blk HZ2.out) HZ2.out)
        obtain ⟨z0, z1, z2⟩ := cells3 HZ3.out
        have f0 := frozen_of_row _ _ 0 _ _ HZ3.out; have f1 := frozen_of_row _ _ 1 _ _ HZ3.out; have f2 := frozen_of_row _ _ 2 _ _ HZ3.out
        have lz := lt_of_blk HZ3.out
        clear b3 HZ2 HS2 bD hdb2 hHeld
        go_wp2_with fail
        rw [← HRe.out]
        exact bodyPost_row2 rfl rfl (blk_set (i := 2) (v := .slice none 0 0) (blk_set (i := 1) (v := .int .i64 0) (blk_set (i := 0) (v := .int .i64 0) HZ3.out))) Tryz.underlying48 rfl (by kernel_rfl) (RecParsed.bad HB3.out (Nat.le_succ _))
end
section
open Go
section
variable {P : Program} {ops : Array Oper} {l n : Nat}
/-- to the end, or not at all -/
def OnlyN (Q : Exit → Act → World → Prop) : Exit → Act → World → Prop
  | .normal, a, w => Q .normal a w
  | _, _, _ => False
theorem onlyN_shut {Q : Exit → Act → World → Prop} : ¬ LetsOut (OnlyN Q) := by
  rintro ⟨a, w, h⟩
  exact h
theorem oper_in {o : Oper} (hnd : ∀ c, o.op ≠ .defer c) {Q K K' : _} {a : Act} {w : World} (hK : ∀ a w, K a w → K' a w) (h : o.wp P a w K Q) : o.wpIn (Fence.wide.inRound l) n P a w K' Q := by
  refine ⟨fun f _ => trivial, ?_⟩
  rw [Fence.inRound_round, Oper.semAt_some l _ o hnd]
  unfold Oper.wp at h
  generalize (execOp a.eval o).run P w = r at *
  cases r with
  | ok x w' =>
    cases x <;> simp only [Oper.upon, Oper.uponIn] at h ⊢
    case value v => exact hK _ _ h
    case skip => exact hK _ _ h
    case defer d => exact hK _ _ h
    case enter f args =>
      refine ⟨fun h => by simp [Fence.wide] at h, CallsIn.inRound l (callsIn_wide.2 (h.mono fun e w'' he => ?_))⟩
      cases e with
      | returned u => exact hK _ _ he
      | panicked c => exact he
      | outgrown => exact he
    case row row args =>
      refine ⟨fun h => by simp [Fence.wide] at h, fun c cs _ => ?_⟩
      obtain ⟨v, w', r, s⟩ := h c cs
      exact ⟨v, w', hK _ _ r, stepsIn_wide.2 s⟩
  | halt x w' => cases x <;> simp only [Oper.upon, Oper.uponIn] at h ⊢ <;> exact h
theorem ops_in {Q : Exit → Act → World → Prop} (hlo : ¬ LetsOut Q) (hnd : ∀ (i : Nat) (o : Oper), ops[i]? = some o → ∀ c, o.op ≠ .defer c) : ∀ (L : List Nat) (a : Act) (w : World), wpOps P ops Q L a w → wpOpsIn (Fence.wide.inRound l) n P ops Q L a w
  | [], a, w, h => h
  | i :: rest, a, w, h => by
    unfold wpOps at h
    unfold wpOpsIn
    cases ho : ops[i]? with
    | none => rw [ho] at h; exact ops_in hlo hnd rest a w h
    | some o =>
      rw [ho] at h
      dsimp only at h ⊢
      split at h
      · next hw =>
        rw [if_pos hw]
        rcases h with h | ⟨_, h⟩
        · exact oper_in (hnd i o ho) (fun a w h => ops_in hlo hnd rest a w h) h
        · exact absurd h hlo
      · next hw =>
        rw [if_neg hw]
        exact ⟨fun f _ => trivial, ops_in hlo hnd rest _ w h⟩
theorem wpIn_region_k {id : Nat} {a : Act} {w : World} {Q : Exit → Act → World → Prop} (hm : P.follows .mixedOrders = true) (hnd : (ops.toList.all fun o => match o.op with | .defer _ => false | _ => true) = true) (S : World → Prop) (k : Nat) (hS : S w.drew)
    (h : S w.drew → wpAnyK P .any ops (OnlyN Q) S k ops.size (Array.replicate ops.size false) a w.drew) : (Code.region id ops true).wpIn (Fence.wide.inRound l) n P Q a w := by
  have hnd' : ∀ (i : Nat) (o : Oper), ops[i]? = some o → ∀ c, o.op ≠ .defer c := fun i o ho c hc => by
    have h1 := List.all_eq_true.1 hnd o (by rw [← Array.getElem?_toList] at ho; exact List.mem_of_getElem? ho)
    rw [hc] at h1; cases h1
  have hr : (Code.region id ops true).wpIn (Fence.wide.inRound l) n P (OnlyN Q) a w := wpIn_region_draw fun t => by
    simp only [Region.schedule, hm, Bool.true_or, if_true]
    exact ops_in onlyN_shut hnd' _ _ _ (wpAny_sound ops.size t _ a _ (wpAny_of_k _ _ _ _ (h hS)))
  exact wpIn_mono hr fun e a w h => by cases e <;> first | exact h | exact h.elim
end
end
section
set_option maxRecDepth 100000
open Go.RowKit Go.Shelf Cal
/-- blocks of cells stay -/
structure CellsKept (A C : World) : Prop where
  size : A.heap.size ≤ C.heap.size
  same : ∀ (x : Nat) (o : Obj), A.heap[x]? = some o → o.isCells = true → C.heap[x]? = some o
theorem CellsKept.of {A C : World} {B : Nat} {row : Option Nat} (hg : A.grownBy C row) (hr : ∀ r, row = some r → B ≤ r ∧ ∃ o : Obj, A.heap[r]? = some o ∧ o.isCells = false) : CellsKept A C :=
  ⟨hg.size, fun x o hx hc => (grownBy_keeps_cells hg (fun r e => (hr r e).2) hx hc).trans hx⟩
theorem Vec.kept {α : Type} {A C : World} {S : Nat → Prop} {k : Nat} {enc : α → List Value} {v : Value} {L : List α} (h : Vec A S k enc v L) (hk : CellsKept A C) : Vec C S k enc v L := by
  obtain ⟨a, cap, h1, h2, h3⟩ := h
  refine ⟨a, cap, h1, h2, fun h0 => ?_⟩
  obtain ⟨b, off, h4, h5, h6, h7⟩ := h3 h0
  refine ⟨b, off, h4, h5, Nat.lt_of_lt_of_le h6 hk.size, fun j x hj i u hu => ?_⟩
  have hc := h7 j x hj i u hu
  obtain ⟨o, ho, hoc⟩ := cells_of_cell hc
  exact (World.cell?_of_block (w := A) (a := ⟨b, off + j * k + i, none⟩) ((hk.same _ _ ho hoc).trans ho.symm)).trans hc
/-- records that are the call's own: their row, the rows of their values; all behind block z -/
structure RecsIn (z : Nat) (v : Value) (C : List RV) (wr : World) : Prop where
  own : wr.ownsRow (z + 1) 48 3 v C.length (C.flatMap encRV)
  vals : ∀ x ∈ C, Vec wr (fun b => z < b ∧ some b ≠ v.ownBlock) 1 encS (.slice x.a x.n x.c) x.vals
theorem RecsIn.same {A C : World} {z : Nat} {v : Value} {L : List RV} (h : RecsIn z v L A) (hz : A.heap.size ≤ C.heap.size) (hs : ∀ (x : Nat) (o : Obj), z < x → A.heap[x]? = some o → o.isCells = true → C.heap[x]? = some o) : RecsIn z v L C := by
  refine ⟨⟨h.own.1, ?_⟩, fun x hx => ?_⟩
  · rcases h.own.2 with h0 | ⟨g, cap, cur, hv, hg, hh, rest⟩
    · exact .inl h0
    · exact .inr ⟨g, cap, cur, hv, hg, hs _ _ (by omega) hh rfl, rest⟩
  · obtain ⟨a, cap, h1, h2, h3⟩ := h.vals x hx
    refine ⟨a, cap, h1, h2, fun h0 => ?_⟩
    obtain ⟨b, off, h4, h5, h6, h7⟩ := h3 h0
    refine ⟨b, off, h4, h5, Nat.lt_of_lt_of_le h6 hz, fun j y hj i u hu => ?_⟩
    have hc := h7 j y hj i u hu
    obtain ⟨o, ho, hoc⟩ := cells_of_cell hc
    exact (World.cell?_of_block (w := A) (a := ⟨b, off + j * 1 + i, none⟩) ((hs _ _ h5.1 ho hoc).trans ho.symm)).trans hc
theorem RecsIn.kept {A C : World} {z : Nat} {v : Value} {L : List RV} (h : RecsIn z v L A) (hk : CellsKept A C) : RecsIn z v L C := h.same hk.size fun x o _ hx ho => hk.same x o hx ho
theorem RecsIn.below {A C : World} {z : Nat} {v : Value} {L : List RV} (h : RecsIn z v L A) (hb : Below A.heap.size A C) : RecsIn z v L C := h.same hb.size fun x o _ hx _ => blk_below hb (lt_of_blk hx) hx
theorem RecsIn.far {A : World} {z : Nat} {v : Value} {L : List RV} (h : RecsIn z v L A) {a : Addr} {u : Value} (ha : a.block ≤ z) : RecsIn z v L (A.setCell a u) :=
  h.same (by simp [World.setCell]) fun x o hx ho _ => blk_far ho (by omega)
theorem RecsIn.vec {w A : World} {z : Nat} {v : Value} {L : List RV} (h : RecsIn z v L A) (hz : w.heap.size ≤ z) : RecsVec A (fun b => w.heap.size ≤ b) v (L.map pR) :=
  ⟨L, Vec.owns (enc := encRV) (S := fun b => w.heap.size ≤ b) (fun _ => rfl) h.own (fun b hb _ => by show w.heap.size ≤ b; omega), rfl, fun x hx => (h.vals x hx).move (Nat.le_refl _) fun b _ hb => ⟨rfl, by omega⟩⟩
theorem RecsIn.nil (A : World) (z : Nat) : RecsIn z (.slice none 0 0) [] A := ⟨⟨by simp, .inl ⟨rfl, rfl⟩⟩, fun x h => by simp at h⟩
/-- the schema, the text, the results as they were at first; the records' cell, the number's -/
structure RdCells (b k : Nat) (vf vt vn vs : Value) (t : List UInt8) (lv : Value) (at' : Nat) (W : World) : Prop where
  s : W.heap[b]? = some (.cells #[vf, vt, vn, vs] 33 (0, 0))
  t : W.heap[b + 1]? = some (.cells #[strV t] 9 (0, 0))
  r1 : W.heap[b + 1 + 1]? = some (.cells #[.slice none 0 0] 58 (0, 0))
  r2 : W.heap[b + 1 + 1 + 1]? = some (.cells #[.int .i64 0] 3 (0, 0))
  r3 : W.heap[b + 1 + 1 + 1 + 1]? = some (.cells #[.int .i64 0] 38 (0, 0))
  l : W.heap[k]? = some (.cells #[lv] 58 (0, 0))
  n : W.heap[k + 1]? = some (.cells #[.int .i64 at'] 3 (0, 0))
theorem RdCells.same {b k : Nat} {vf vt vn vs : Value} {t : List UInt8} {lv : Value} {at' : Nat} {W W' : World} (h : RdCells b k vf vt vn vs t lv at' W) (hs : ∀ x o, (x ≤ b + 1 + 1 + 1 + 1 ∨ x = k ∨ x = k + 1) → W.heap[x]? = some o → o.isCells = true → W'.heap[x]? = some o) : RdCells b k vf vt vn vs t lv at' W' :=
  ⟨hs _ _ (.inl (by omega)) h.s rfl, hs _ _ (.inl (by omega)) h.t rfl, hs _ _ (.inl (by omega)) h.r1 rfl, hs _ _ (.inl (by omega)) h.r2 rfl, hs _ _ (.inl (by omega)) h.r3 rfl, hs _ _ (.inr (.inl rfl)) h.l rfl, hs _ _ (.inr (.inr rfl)) h.n rfl⟩
/-- what stands between two rounds, or when the loop is left -/
def IRead (w : World) (b k : Nat) (vf vt vn vs : Value) (s : SchemaL) (t : List UInt8) : Option Code → List (List UInt8 × List UInt8) → World → Prop
  | none, pre, W => ∃ (lv : Value) (C : List RV) (at' : Nat), RdCells b k vf vt vn vs t lv at' W ∧ RecsIn (k + 2) lv C W ∧ Below w.heap.size w W ∧ k + 2 < W.heap.size ∧ C.length ≤ 64 ∧ at' ≤ t.length ∧ ∀ q, rowsL t = pre ++ q → readA s t.length [] 0 (rowsL t) = readA s t.length (C.map pR) at' q
  | some c, _, W => c = .ret ∧ ∃ (lv : Value) (C : List RV) (m : Nat) (er : Int), W.heap[b + 1 + 1]? = some (.cells #[lv] 58 (0, 0)) ∧ W.heap[b + 1 + 1 + 1]? = some (.cells #[.int .i64 m] 3 (0, 0)) ∧ W.heap[b + 1 + 1 + 1 + 1]? = some (.cells #[.int .i64 er] 38 (0, 0)) ∧ RecsIn (k + 2) lv C W ∧ Below w.heap.size w W ∧ readA s t.length [] 0 (rowsL t) = (C.map pR, m, er)
theorem IRead.own {w : World} {b k B : Nat} {vf vt vn vs : Value} {s : SchemaL} {t : List UInt8} (hB : w.heap.size ≤ B) (j : Option Code) : OwnFrom B (IRead w b k vf vt vn vs s t j) := by
  cases j with
  | none =>
    rintro p A C row ⟨lv, L, at', h1, h2, h3, h4, h5⟩ hg hr
    have hk := CellsKept.of hg hr
    have hb := ownFrom_below (β := Unit) (Nat.le_refl _) hB () A C row h3 hg hr
    exact ⟨lv, L, at', h1.same fun x o _ hx hc => hk.same x o hx hc, h2.kept hk, hb, Nat.lt_of_lt_of_le h4 hk.size, h5⟩
  | some c =>
    rintro p A C row ⟨hc, lv, L, m, er, h1, h2, h3, h4, h5, h6⟩ hg hr
    have hk := CellsKept.of hg hr
    have hb := ownFrom_below (β := Unit) (Nat.le_refl _) hB () A C row h5 hg hr
    exact ⟨hc, lv, L, m, er, hk.same _ _ h1 rfl, hk.same _ _ h2 rfl, hk.same _ _ h3 rfl, h4.kept hk, hb, h6⟩
theorem IRead.box {w : World} {b k : Nat} {vf vt vn vs : Value} {s : SchemaL} {t : List UInt8} (hb : b + 1 + 1 + 1 + 1 < k) (hw : w.heap.size ≤ k) (j : Option Code) (p : List (List UInt8 × List UInt8)) (A : World) (v : Value) (h : IRead w b k vf vt vn vs s t j p A) : IRead w b k vf vt vn vs s t j p (A.setCell ⟨k + 2, 0, none⟩ v) := by
  cases j with
  | none =>
    obtain ⟨lv, L, at', h1, h2, h3, h4, h5⟩ := h
    exact ⟨lv, L, at', h1.same fun x o hx ho _ => blk_far ho (by show x ≠ k + 2; omega), h2.far (Nat.le_refl _), h3.setCell (p := ⟨k + 2, 0, none⟩) (by show w.heap.size ≤ k + 2; omega) _, by simpa [World.setCell] using h4, h5⟩
  | some c =>
    obtain ⟨hc, lv, L, m, er, h1, h2, h3, h4, h5, h6⟩ := h
    exact ⟨hc, lv, L, m, er, blk_far h1 (by show b + 1 + 1 ≠ k + 2; omega), blk_far h2 (by show b + 1 + 1 + 1 ≠ k + 2; omega), blk_far h3 (by show b + 1 + 1 + 1 + 1 ≠ k + 2; omega), h4.far (Nat.le_refl _), h5.setCell (p := ⟨k + 2, 0, none⟩) (by show w.heap.size ≤ k + 2; omega) _, h6⟩
/-- the results laid -/
theorem read_out {w W : World} {b k : Nat} {vf vt vn vs : Value} {t : List UInt8} {lv : Value} {at' : Nat} {C : List RV} (h : RdCells b k vf vt vn vs t lv at' W) (hr : RecsIn (k + 2) lv C W) (hb : Below w.heap.size w W) (hw : w.heap.size ≤ b) (hk : b + 1 + 1 + 1 + 1 < k) (m er : Int) :
    let F := ((W.setCell ⟨b + 1 + 1, 0, none⟩ lv).setCell ⟨b + 1 + 1 + 1, 0, none⟩ (.int .i64 m)).setCell ⟨b + 1 + 1 + 1 + 1, 0, none⟩ (.int .i64 er)
    F.heap[b + 1 + 1]? = some (.cells #[lv] 58 (0, 0)) ∧ F.heap[b + 1 + 1 + 1]? = some (.cells #[.int .i64 m] 3 (0, 0)) ∧ F.heap[b + 1 + 1 + 1 + 1]? = some (.cells #[.int .i64 er] 38 (0, 0)) ∧ RecsIn (k + 2) lv C F ∧ Below w.heap.size w F := by
  have n1 : b + 1 + 1 ≠ b + 1 + 1 + 1 := by omega
  have n2 : b + 1 + 1 ≠ b + 1 + 1 + 1 + 1 := by omega
  have n3 : b + 1 + 1 + 1 ≠ b + 1 + 1 + 1 + 1 := by omega
  refine ⟨blk_far (a := ⟨b + 1 + 1 + 1 + 1, 0, none⟩) (blk_far (a := ⟨b + 1 + 1 + 1, 0, none⟩) (blk_set (i := 0) (v := lv) h.r1) n1) n2,
    blk_far (a := ⟨b + 1 + 1 + 1 + 1, 0, none⟩) (blk_set (i := 0) (v := .int .i64 m) (blk_far (a := ⟨b + 1 + 1, 0, none⟩) h.r2 n1.symm)) n3,
    blk_set (i := 0) (v := .int .i64 er) (blk_far (a := ⟨b + 1 + 1 + 1, 0, none⟩) (blk_far (a := ⟨b + 1 + 1, 0, none⟩) h.r3 n2.symm) n3.symm), ?_, ?_⟩
  · exact ((hr.far (a := ⟨b + 1 + 1, 0, none⟩) (by show b + 1 + 1 ≤ k + 2; omega)).far (a := ⟨b + 1 + 1 + 1, 0, none⟩) (by show b + 1 + 1 + 1 ≤ k + 2; omega)).far (a := ⟨b + 1 + 1 + 1 + 1, 0, none⟩) (by show b + 1 + 1 + 1 + 1 ≤ k + 2; omega)
  · exact ((hb.setCell (p := ⟨b + 1 + 1, 0, none⟩) (by show w.heap.size ≤ b + 1 + 1; omega) _).setCell (p := ⟨b + 1 + 1 + 1, 0, none⟩) (by show w.heap.size ≤ b + 1 + 1 + 1; omega) _).setCell (p := ⟨b + 1 + 1 + 1 + 1, 0, none⟩) (by show w.heap.size ≤ b + 1 + 1 + 1 + 1; omega) _
end
section
set_option maxRecDepth 100000
open Go.RowKit Go.Shelf Cal
attribute [local go_sem] Oper.semAt_some toList_mk mk_size str_append
def ReadPost (p : List RecL × Nat × Int) (w : World) (e : Ending) (w' : World) : Prop :=
  ∃ v, e = .returned (.tuple #[v, .int .i64 p.2.1, .int .i64 p.2.2]) ∧ RecsVec w' (fun b => w.heap.size ≤ b) v p.1 ∧ Below w.heap.size w w'
theorem rowsA_short : ∀ (t p : List UInt8) (x : List UInt8 × List UInt8), x ∈ rowsA p t → x.1.length ≤ p.length + t.length ∧ x.2.length ≤ t.length
  | [], p, x, h => by cases h
  | c :: t, p, x, h => by
    rw [rowsA] at h
    split at h
    · rcases List.mem_cons.1 h with rfl | h1
      · exact ⟨by simp, by simp⟩
      · have := rowsA_short t [] x h1
        simp at this ⊢; omega
    · have := rowsA_short t (p ++ [c]) x h
      simp at this ⊢; omega
theorem cell_grown {A C : World} {x i : Nat} {row : Option Nat} (hg : A.grownBy C row) (hl : x < A.heap.size) (hn : row ≠ some x) : C.cell? ⟨x, i, none⟩ = A.cell? ⟨x, i, none⟩ :=
  World.cell?_of_block (w := A) (a := ⟨x, i, none⟩) (hg.block x hl (fun e => hn e.symm))
theorem wpIn_world {F : Fence} {n : Nat} {P : Program} {c : Code} {Q : Exit → Act → World → Prop} {a : Act} {W : World} (h : ∀ w', w' = W → c.wpIn F n P Q a w') : c.wpIn F n P Q a W := h W rfl
theorem takeN_full {s : SchemaL} {l : List RecL} {row : List UInt8} (h : ¬ l.length < 64) : l.length ≤ 64 → (takeN s l row).2 ≠ 0 := by
  intro h2
  have h64 : l.length = 64 := by omega
  unfold takeN
  split
  · decide
  · split
    · split
      · split
        · first | decide | (rw [if_pos h64]; decide)
        · next hne => exact hne
      · decide
    · decide
theorem RdCells.below' {b k : Nat} {vf vt vn vs : Value} {t : List UInt8} {lv : Value} {at' : Nat} {W W' : World} (h : RdCells b k vf vt vn vs t lv at' W) (hb : Below W.heap.size W W') : RdCells b k vf vt vn vs t lv at' W' :=
  h.same fun x o _ hx _ => blk_below hb (lt_of_blk hx) hx
theorem keepsRow_below {x B : Nat} {W W' : World} (hb : Below W.heap.size W W') (hx : x < W.heap.size) (hg : Tryz.laysM145_ren.g 1 < B) (hB : B ≤ W.heap.size) : KeepsRow x W W' :=
  ⟨hb.block x hx, fun m hm => (hb.cell (p := ⟨_, 0, none⟩) (Nat.lt_of_lt_of_le hg hB)).trans hm⟩
theorem IRead.drew {w : World} {b k : Nat} {vf vt vn vs : Value} {s : SchemaL} {t : List UInt8} {j : Option Code} {p : List (List UInt8 × List UInt8)} {A : World} (h : IRead w b k vf vt vn vs s t j p A) : IRead w b k vf vt vn vs s t j p A.drew := by
  cases j with
  | none =>
    obtain ⟨lv, L, at', h1, h2, h3, h4, h5⟩ := h
    exact ⟨lv, L, at', h1.same fun x o _ hx _ => hx, h2.same (Nat.le_refl _) fun x o _ hx _ => hx, h3.drew, h4, h5⟩
  | some c =>
    obtain ⟨hc, lv, L, m, er, h1, h2, h3, h4, h5, h6⟩ := h
    exact ⟨hc, lv, L, m, er, h1, h2, h3, h4.same (Nat.le_refl _) fun x o _ hx _ => hx, h5.drew, h6⟩
set_option maxHeartbeats 16000000 in
theorem precread_any (S : Nat → Prop) (vf vt vn vs : Value) (s : SchemaL) (t : List UInt8) (w : World) (hvr : VarsAt w) (hdb : DbAt w) (h : SchemaAt w S vf vt vn vs s) (hc : checkS s = 0) (ht : t.length ≤ 50000) :
    Calls Tryz.prog 24 #[.agg #[vf, vt, vn, vs], strV t] w (ReadPost (freadN s t) w) := by
  have hrd : freadN s t = readA s t.length [] 0 (rowsL t) := by unfold freadN; rw [if_pos hc]
  obtain ⟨P, hP⟩ : ∃ P, readA s t.length [] 0 (rowsL t) = P := ⟨_, rfl⟩
  rw [hrd, hP]
  have HP := Lib.hid hP
  have HS := Lib.hid h; have HC := Lib.hid hc; have HVr := Lib.hid hvr; have HDb := Lib.hid hdb
  have hshort := fun x hx => rowsA_short t [] x hx
  have HSh := Lib.hid hshort
  clear h hc hvr hdb hrd hP hshort
  refine (callsIn_wide (n := 6)).1 ?_
  refine callsIn_of_wp_marks Tryz.func24 rfl trivial ?_ rfl
  simp only [Tryz.ntmps24, List.size_toArray, List.length_cons, List.length_nil, Nat.reduceAdd, Nat.reduceSub, Array.replicate_succ, Array.replicate_zero, List.push_toArray, List.append_toArray, List.nil_append, List.cons_append]
  gi_wp2
  refine ⟨trivial, callsIn_world fun W hW => ?_⟩
  have hb0 : Below w.heap.size w W := by rw [hW]; exact (((((Below.refl w.heap.size w).alloc (Nat.le_refl _) _).alloc (by simp) _).alloc (by simp; omega) _).alloc (by simp; omega) _).alloc (by simp; omega) _
  have h0 : W.heap[w.heap.size]? = some (.cells #[vf, vt, vn, vs] 33 (0, 0)) := by rw [hW]; exact blk_old (blk_old (blk_old (blk_old (blk_new rfl))))
  have h1 : W.heap[w.heap.size + 1]? = some (.cells #[strV t] 9 (0, 0)) := by rw [hW]; exact blk_old (blk_old (blk_old (blk_new (by simp))))
  have h2 : W.heap[w.heap.size + 1 + 1]? = some (.cells #[.slice none 0 0] 58 (0, 0)) := by rw [hW]; exact blk_old (blk_old (blk_new (by simp)))
  have h3 : W.heap[w.heap.size + 1 + 1 + 1]? = some (.cells #[.int .i64 0] 3 (0, 0)) := by rw [hW]; exact blk_old (blk_new (by simp))
  have h4 : W.heap[w.heap.size + 1 + 1 + 1 + 1]? = some (.cells #[.int .i64 0] 38 (0, 0)) := by rw [hW]; exact blk_new (by simp)
  clear hW
  refine (callsIn_wide.2 (scheck_any S vf vt vn vs s W (HS.out.below hb0))).mono ?_
  rw [HC.out]
  rintro e w1 ⟨rfl, hb⟩
  have h0' := blk_below hb (lt_of_blk h0) h0; have h1' := blk_below hb (lt_of_blk h1) h1; have h2' := blk_below hb (lt_of_blk h2) h2; have h3' := blk_below hb (lt_of_blk h3) h3; have h4' := blk_below hb (lt_of_blk h4) h4
  have HB1 := Lib.hid (hb0.trans (hb.mono hb0.size))
  have HM1 := Lib.hid (HVr.out.m.old HB1.out)
  have hd : RdAt0 w.heap.size vf vt vn vs t w1 := ⟨h0', h1', h2', h3', h4'⟩
  have HD := Lib.hid hd
  have c1 : ((w1.alloc (.cells #[.slice none 0 0] 58)).alloc (.cells #[.int .i64 0] 3)).cell? ⟨w.heap.size + 1, 0, none⟩ = some (strV t) := cell1R (blk_old (blk_old h1'))
  have dz : ((0 : Int) != 0) = false := rfl
  clear hb hb0 h0 h1 h2 h3 h4 h0' h1' h2' h3' h4' hd
  gi_wp2
  refine ⟨trivial, callsIn_world fun W2 hW2 => ?_⟩
  have hb2 : Below w1.heap.size w1 W2 := by rw [hW2]; exact ((Below.refl w1.heap.size w1).alloc (Nat.le_refl _) _).alloc (by simp) _
  have hl2 : W2.heap[w1.heap.size]? = some (.cells #[.slice none 0 0] 58 (0, 0)) := by rw [hW2]; exact blk_old (blk_new rfl)
  have hn2 : W2.heap[w1.heap.size + 1]? = some (.cells #[.int .i64 0] 3 (0, 0)) := by rw [hW2]; exact blk_new (by simp)
  have z2 : W2.heap.size = w1.heap.size + 2 := by rw [hW2]; simp
  clear hW2 c1
  refine (callsIn_wide.2 (rows_any t W2)).mono ?_
  rintro e w3 ⟨rfl, hw3⟩
  have hb3 : Below w1.heap.size w1 w3 := by rw [hw3]; exact hb2.alloc hb2.size _
  have hd3 : RdCells w.heap.size w1.heap.size vf vt vn vs t (.slice none 0 0) 0 w3 := by
    have h1 := (HD.out.below hb2)
    rw [hw3]
    exact ⟨blk_old h1.s, blk_old h1.t, blk_old h1.r1, blk_old h1.r2, blk_old h1.r3, blk_old hl2, blk_old hn2⟩
  have hx3 : w3.heap[w1.heap.size + 2]? = some (.cells #[strV t] 9 (0, 0)) := by rw [hw3]; exact blk_new z2.symm
  have HB3 := Lib.hid (HB1.out.trans (hb3.mono HB1.out.size)); have HM3 := Lib.hid (HM1.out.old hb3); have HD3 := Lib.hid hd3; have HX3 := Lib.hid hx3
  rw [z2]
  have zk : w.heap.size + 1 + 1 + 1 + 1 < w1.heap.size := lt_of_blk HD.out.r3
  clear hb2 hl2 hn2 hb3 hd3 hx3 hw3 z2
  gi_wp2
  refine wpIn_range_box rfl (by omega) (gf := 113) (lb := #[.pointer (some ⟨w1.heap.size + 2, 0, none⟩)]) rfl trivial (enters_of Tryz.func113 (by kernel_rfl) rfl)
    (rows1_box 5 (by decide) (w1.heap.size + 2) t w3 (by omega) HM3.out HX3.out (by have := HM1.out.lt; omega)) (lt_of_blk HX3.out)
    KeepsRow.trans (KeepsRow.put (lt_of_blk HX3.out) HM3.out.lt) (fun _ => rfl)
    (IRead w w.heap.size w1.heap.size vf vt vn vs s t) (IRead.own (Nat.le_trans HB3.out.size (Nat.le_refl _))) (IRead.box (by omega) (by omega)) ⟨_, [], 0, HD3.out, RecsIn.nil _ _, HB3.out, lt_of_blk HX3.out, by simp, by omega, fun q hq => by rw [hq]; rfl⟩
    (fun x => { tmps := #[.agg #[vf, vt, vn, vs], strV t, .pointer (some ⟨w.heap.size, 0, none⟩), .pointer (some ⟨w.heap.size + 1, 0, none⟩), .pointer (some ⟨w.heap.size + 1 + 1, 0, none⟩), .pointer (some ⟨w.heap.size + 1 + 1 + 1, 0, none⟩), .pointer (some ⟨w.heap.size + 1 + 1 + 1 + 1, 0, none⟩), .int .i64 0, .pointer (some ⟨w1.heap.size, 0, none⟩), .pointer (some ⟨w1.heap.size + 1, 0, none⟩), strV x.1, strV x.2, undef, undef, .agg #[vf, vt, vn, vs], .int .i64 0, .int .i64 0, .bool false, undef, strV t, .func (.func 113) #[] #[.pointer (some ⟨w1.heap.size + 2, 0, none⟩)], strV x.1, strV x.2, undef, undef, undef, undef, undef, undef, undef, undef, undef, undef, undef, undef, undef, undef, undef, undef, undef, undef, undef, undef, undef, undef, undef, undef, undef, undef, undef, undef, undef, undef, undef, undef, undef, undef, undef, undef, undef, undef, undef, undef], defers := [] }) ?assign ?body ?done ?stop
  case assign =>
    intro l x W K hK
    dsimp only [encsR]
    gi_wp2
    exact hK
  case body =>
    rintro l pre ⟨row, rest⟩ W ⟨lv, C, at', h1, h2, h3, h4, h5, h6, h7⟩ hpre
    obtain ⟨al, cl_, rfl⟩ := own_slice h2.own
    obtain ⟨q, hq⟩ := hpre
    have hq' : rowsL t = pre ++ (row, rest) :: q := by rw [← hq]; simp
    have heq := h7 ((row, rest) :: q) hq'
    have hmem : (row, rest) ∈ rowsL t := by rw [hq']; simp
    have hsh := HSh.out _ hmem
    have hrow : row.length ≤ t.length := by simpa using hsh.1
    have hrest : rest.length ≤ t.length := by simpa using hsh.2
    have HEq := Lib.hid heq; have HQ := Lib.hid hq'; have H1 := Lib.hid h1; have H2 := Lib.hid h2; have H3 := Lib.hid h3
    have mixed : Tryz.prog.follows .mixedOrders = true := by kernel_rfl
    have n1 : w.heap.size + 1 + 1 ≠ w.heap.size + 1 + 1 + 1 := by omega
    have n2 : w.heap.size + 1 + 1 ≠ w.heap.size + 1 + 1 + 1 + 1 := by omega
    have n3 : w.heap.size + 1 + 1 + 1 ≠ w.heap.size + 1 + 1 + 1 + 1 := by omega
    clear h1 h2 h3 h7 hq hq' heq hmem hsh
    dsimp only
    gi_wp2
    refine ⟨trivial, (CallsIn.inRound l (callsIn_wide.2 (prefix_any row [101, 110, 100, 32] W (by omega) (by decide)))).mono ?_⟩
    rintro e W2 ⟨rfl, hb⟩
    have HK2 := Lib.hid (keeps_below hb)
    have H1b := Lib.hid (H1.out.below' hb); have H2b := Lib.hid (H2.out.below hb); have H3b := Lib.hid (H3.out.trans (hb.mono H3.out.size))
    have h4b : w1.heap.size + 2 < W2.heap.size := Nat.lt_of_lt_of_le h4 hb.size
    have HKx := Lib.hid (keepsRow_below (x := w1.heap.size + 2) hb h4 HM1.out.lt (by have := HM1.out.lt; omega))
    clear hb H1 H2 H3 h4
    obtain ⟨E, hE⟩ : ∃ E, prefB row [101, 110, 100, 32] = E := ⟨_, rfl⟩
    have hEe : isEnd row = E := hE
    rw [hE]
    have cl := cell1R H1b.out.l
    cases E
    · have heq := HEq.out
      rw [readA, hEe, if_neg (by simp)] at heq
      have HEq2 := Lib.hid heq
      obtain ⟨s0, s1, s2, s3⟩ := cellsS H1b.out.s
      clear HEq heq hE hEe
      gi_wp2
      have htk := rtake_any S (fun b => w.heap.size ≤ b) vf vt vn vs (.slice al C.length cl_) s (C.map pR) row W2 (HS.out.below H3b.out) HC.out (H2b.out.vec (by omega)) (by simp; omega) (HVr.out.old H3b.out) (HDb.out.old H3b.out) (by omega)
      unfold RecParsed at htk
      obtain ⟨⟨r1, er⟩, hp⟩ : ∃ p, takeN s (C.map pR) row = p := ⟨_, rfl⟩
      have hlim : C.length < 64 ∨ er ≠ 0 := by
        by_cases h64 : C.length < 64
        · exact .inl h64
        · refine .inr fun he => ?_
          have := takeN_full (s := s) (l := C.map pR) (row := row) (by rw [List.length_map]; omega) (by rw [List.length_map]; omega)
          rw [hp] at this
          exact this he
      have heq := HEq2.out
      rw [hp] at htk heq
      dsimp only at htk heq
      have HEq3 := Lib.hid heq
      clear HEq2 heq hp
      refine ⟨trivial, (CallsIn.inRound l (callsIn_wide.2 htk)).mono ?_⟩
      rintro e W3 ⟨_, rfl, ⟨sv, rfl, hv⟩, hb⟩
      obtain ⟨av, cv, rfl⟩ := hv.slice
      have HK3 := Lib.hid (HK2.out.trans (keeps_below hb))
      have H1 := Lib.hid (H1b.out.below' hb); have H2 := Lib.hid (H2b.out.below hb); have H3 := Lib.hid (H3b.out.trans (hb.mono H3b.out.size))
      have HKy := Lib.hid (HKx.out.trans (keepsRow_below (x := w1.heap.size + 2) hb h4b HM1.out.lt (by have := HM1.out.lt; omega)))
      have HVv := Lib.hid hv
      have z23 := hb.size
      have HOff := Lib.hid (show ∀ g, (Value.slice al C.length cl_).ownBlock = some g → w1.heap.size + 2 < g ∧ g < W2.heap.size from fun g e => by
        rcases H2b.out.own.2 with ⟨h0, _⟩ | ⟨g', cap, cur, hv, hg, hh, _⟩
        · rw [h0] at e; simp [Value.ownBlock] at e
        · rw [hv] at e
          have : g' = g := by simpa [Value.ownBlock] using e
          subst this
          exact ⟨by omega, lt_of_blk hh⟩)
      clear hb htk H1b H2b H3b HK2 HKx s0 s1 s2 s3 cl hv
      by_cases he : er = 0
      · subst he
        have hC : C.length < 64 := by rcases hlim with h | h; exact h; exact absurd rfl h
        have hres := HEq3.out
        rw [if_pos rfl] at hres
        have HRes := Lib.hid hres
        have dz : ((0 : Int) != 0) = false := rfl
        clear hres HEq3 hlim
        gi_wp2
        refine wpIn_world (fun V hV => ?_)
        have hbA : Below W3.heap.size W3 V := by rw [hV]; exact (Below.refl _ _).alloc (Nat.le_refl _) _
        have hx : V.heap[W3.heap.size]? = some (.cells #[.int .i64 r1.id, .int .i64 r1.ver, .slice av r1.vals.length cv] 48 (0, 0)) := by rw [hV]; exact blk_new rfl
        have H1a := Lib.hid (H1.out.below' hbA); have H2a := Lib.hid (H2.out.below hbA); have H3a := Lib.hid (H3.out.trans (hbA.mono H3.out.size))
        have HK4 := Lib.hid (HK3.out.trans (keeps_below hbA))
        have z3k : w1.heap.size + 2 < W3.heap.size := by omega
        have HKz := Lib.hid (HKy.out.trans (keepsRow_below (x := w1.heap.size + 2) hbA z3k HM1.out.lt (by have := HM1.out.lt; omega)))
        have HVx := Lib.hid (HVv.out.below hbA)
        have cl := cell1R H1a.out.l; have ct := cell1R H1a.out.t
        obtain ⟨x0, x1, x2⟩ := cells3 hx
        have lk := lt_of_blk H1a.out.l; have lx := lt_of_blk hx; have lt' := lt_of_blk H1a.out.t
        have hsub : IntKind.i64.wrap ((t.length : Int) - (rest.length : Int)) = ((t.length - rest.length : Nat) : Int) := by rw [IntKind.wrap_i64]; omega
        obtain ⟨m, hm⟩ : ∃ m, t.length - rest.length = m := ⟨_, rfl⟩
        rw [hm] at hsub
        have hmt : m ≤ t.length := by omega
        have HRs := Lib.hid (show readA s t.length [] 0 (rowsL t) = readA s t.length (C.map pR ++ [r1]) m q by rw [← hm]; exact HRes.out)
        clear hbA hV H1 H2 H3 HK3 HKy HVv hx
        have bD : Below V.heap.size V V.drew := (Below.refl _ _).drew
        have clD : V.drew.cell? ⟨w1.heap.size, 0, none⟩ = some (.slice al C.length cl_) := cl
        have bB := bD.alloc bD.size (.cells #[.int .i64 r1.id, .int .i64 r1.ver, .slice av r1.vals.length cv] 48)
        have clB := (bB.cell (p := ⟨w1.heap.size, 0, none⟩) lk).trans cl
        refine wpIn_region_k (by kernel_rfl) (by kernel_rfl) (fun w' => w'.cell? ⟨W3.heap.size, 0, none⟩ = some (.int .i64 r1.id) ∧ w'.cell? ⟨W3.heap.size, 1, none⟩ = some (.int .i64 r1.ver) ∧ w'.cell? ⟨W3.heap.size, 2, none⟩ = some (.slice av r1.vals.length cv) ∧ w'.cell? ⟨w.heap.size + 1, 0, none⟩ = some (strV t)) 10 (⟨x0, x1, x2, ct⟩) (fun hHeld => ?_)
        refine tK 1 (h := ?_)
        try simp only [List.getElem_toArray, List.getElem_cons_zero, List.getElem_cons_succ, Act.put, List.setIfInBounds_toArray, List.set_cons_zero, List.set_cons_succ]
        refine tK 4 (h := ?_)
        try simp only [List.getElem_toArray, List.getElem_cons_zero, List.getElem_cons_succ, Act.put, List.setIfInBounds_toArray, List.set_cons_zero, List.set_cons_succ]
        refine tK 5 (h := ?_)
        try simp only [List.getElem_toArray, List.getElem_cons_zero, List.getElem_cons_succ, Act.put, List.setIfInBounds_toArray, List.set_cons_zero, List.set_cons_succ]
        refine tK 6 (h := ?_)
        try simp only [List.getElem_toArray, List.getElem_cons_zero, List.getElem_cons_succ, Act.put, List.setIfInBounds_toArray, List.set_cons_zero, List.set_cons_succ]
        refine tK 7 (h := ?_)
        try simp only [List.getElem_toArray, List.getElem_cons_zero, List.getElem_cons_succ, Act.put, List.setIfInBounds_toArray, List.set_cons_zero, List.set_cons_succ]
        refine tK 8 (h := ?_)
        try simp only [List.getElem_toArray, List.getElem_cons_zero, List.getElem_cons_succ, Act.put, List.setIfInBounds_toArray, List.set_cons_zero, List.set_cons_succ]
        refine wpAnyK_ready (rs := [0, 2]) (by kernel_rfl) (by simp) ?_
        refine AllReadyK.cons rfl (fun K hK => ?_) (AllReadyK.cons rfl (fun K hK => ?_) AllReadyK.nil)
        focus
          go_simp
          refine shutK hK (⟨(bD.cell (p := ⟨W3.heap.size, 0, none⟩) lx).trans x0, (bD.cell (p := ⟨W3.heap.size, 1, none⟩) lx).trans x1, (bD.cell (p := ⟨W3.heap.size, 2, none⟩) lx).trans x2, (bD.cell (p := ⟨w.heap.size + 1, 0, none⟩) lt').trans ct⟩) (fun hHeld => ?_)
          clear hK K
          try simp only [List.getElem_toArray, List.getElem_cons_zero, List.getElem_cons_succ, Act.put, List.setIfInBounds_toArray, List.set_cons_zero, List.set_cons_succ]
          refine wpAnyK_ready (rs := [2]) (by kernel_rfl) (by simp) ?_
          refine AllReadyK.cons rfl (fun K hK => ?_) AllReadyK.nil
          go_simp
          skip
          refine shutK hK (⟨(bB.cell (p := ⟨W3.heap.size, 0, none⟩) lx).trans x0, (bB.cell (p := ⟨W3.heap.size, 1, none⟩) lx).trans x1, (bB.cell (p := ⟨W3.heap.size, 2, none⟩) lx).trans x2, (bB.cell (p := ⟨w.heap.size + 1, 0, none⟩) lt').trans ct⟩) (fun hHeld => ?_)
          clear hK K
          try simp only [List.getElem_toArray, List.getElem_cons_zero, List.getElem_cons_succ, Act.put, List.setIfInBounds_toArray, List.set_cons_zero, List.set_cons_succ]
        rotate_left 1
        focus
          go_simp
          refine shutK hK (⟨(bB.cell (p := ⟨W3.heap.size, 0, none⟩) lx).trans x0, (bB.cell (p := ⟨W3.heap.size, 1, none⟩) lx).trans x1, (bB.cell (p := ⟨W3.heap.size, 2, none⟩) lx).trans x2, (bB.cell (p := ⟨w.heap.size + 1, 0, none⟩) lt').trans ct⟩) (fun hHeld => ?_)
          clear hK K
          try simp only [List.getElem_toArray, List.getElem_cons_zero, List.getElem_cons_succ, Act.put, List.setIfInBounds_toArray, List.set_cons_zero, List.set_cons_succ]
          refine wpAnyK_ready (rs := [0]) (by kernel_rfl) (by simp) ?_
          refine AllReadyK.cons rfl (fun K hK => ?_) AllReadyK.nil
          go_simp
          skip
          refine shutK hK (⟨(bB.cell (p := ⟨W3.heap.size, 0, none⟩) lx).trans x0, (bB.cell (p := ⟨W3.heap.size, 1, none⟩) lx).trans x1, (bB.cell (p := ⟨W3.heap.size, 2, none⟩) lx).trans x2, (bB.cell (p := ⟨w.heap.size + 1, 0, none⟩) lt').trans ct⟩) (fun hHeld => ?_)
          clear hK K
          try simp only [List.getElem_toArray, List.getElem_cons_zero, List.getElem_cons_succ, Act.put, List.setIfInBounds_toArray, List.set_cons_zero, List.set_cons_succ]
        all_goals
          have HOw := Lib.hid ((H2a.out.below bB).own)
          have HRd := Lib.hid (show Reads (V.drew.alloc (.cells #[.int .i64 r1.id, .int .i64 r1.ver, .slice av r1.vals.length cv] 48)) 3 (.slice (some ⟨V.heap.size, 0, none⟩) 1 1) 1 ([(⟨r1.id, r1.ver, av, r1.vals.length, cv, r1.vals⟩ : RV)].flatMap encRV) from reads_block (size := 3) (xs := [(⟨r1.id, r1.ver, av, r1.vals.length, cv, r1.vals⟩ : RV)].flatMap encRV) (t := 48) (fr := (0, 0)) (blk_new rfl) rfl)
          refine wpAnyK_ready (rs := [3]) (by kernel_rfl) (by simp) ?_
          refine AllReadyK.cons rfl (fun K hK => ?_) AllReadyK.nil
          refine wp_append_reads (.tmp 52) (.tmp 54) 58 (by rfl) (w1.heap.size + 2 + 1) 48 (.agg #[.int .i64 0, .int .i64 0, .slice none 0 0]) 3 40 Tryz.underlying58 infoR rfl (by decide) (.slice al C.length cl_) C.length (C.flatMap encRV) (by rfl) HOw.out _ 1 _ (by rfl) HRd.out (fun u hu => one_encRV (⟨r1.id, r1.ver, av, r1.vals.length, cv, r1.vals⟩ : RV) u (by simpa using hu)) (by unfold maxLen; omega) (by omega) (by simp; omega) ?_; intro v' w' ho' hg hat; have HG := Lib.hid hg; have HO2 := Lib.hid ho'; have HAt := Lib.hid hat
          refine shutK hK (⟨(cell_grown (x := W3.heap.size) (i := 0) hg (by have := bB.size; simp; omega) (fun e => (by have h1 := HOff.out _ e; omega))).trans ((bB.cell (p := ⟨W3.heap.size, 0, none⟩) lx).trans x0), (cell_grown (x := W3.heap.size) (i := 1) hg (by have := bB.size; simp; omega) (fun e => (by have h1 := HOff.out _ e; omega))).trans ((bB.cell (p := ⟨W3.heap.size, 1, none⟩) lx).trans x1), (cell_grown (x := W3.heap.size) (i := 2) hg (by have := bB.size; simp; omega) (fun e => (by have h1 := HOff.out _ e; omega))).trans ((bB.cell (p := ⟨W3.heap.size, 2, none⟩) lx).trans x2), (cell_grown (x := w.heap.size + 1) (i := 0) hg (by have := bB.size; simp; omega) (fun e => (by have h1 := HOff.out _ e; omega))).trans ((bB.cell (p := ⟨w.heap.size + 1, 0, none⟩) lt').trans ct)⟩) (fun hHeld => ?_)
          clear hK K
          try simp only [List.getElem_toArray, List.getElem_cons_zero, List.getElem_cons_succ, Act.put, List.setIfInBounds_toArray, List.set_cons_zero, List.set_cons_succ]
          obtain ⟨a2, c2, rfl⟩ := own_slice ho'
          have zV2 : (V.drew.alloc (.cells #[.int .i64 r1.id, .int .i64 r1.ver, .slice av r1.vals.length cv] 48)).heap.size = V.heap.size + 1 := World.size_alloc V.drew _
          have zV3 : (V.alloc (.cells #[.int .i64 r1.id, .int .i64 r1.ver, .slice av r1.vals.length cv] 48)).drew.heap.size = V.heap.size + 1 := World.size_alloc V _
          have grow : ∀ x o, x < V.heap.size → (∀ g, (Value.slice al C.length cl_).ownBlock = some g → g ≠ x) → V.heap[x]? = some o → w'.heap[x]? = some o := fun x o hx hn ho => (hg.block x (by omega) (fun e => hn x e.symm rfl)).trans (blk_old (w := V.drew) ho)
          have gk : ∀ x, x ≤ w1.heap.size + 2 → ∀ g, (Value.slice al C.length cl_).ownBlock = some g → g ≠ x := fun x hx g e => by have := HOff.out g e; omega
          have Q1 : RdCells w.heap.size w1.heap.size vf vt vn vs t (.slice al C.length cl_) at' w' := H1a.out.same fun x o hx ho _ => grow x o (lt_of_blk ho) (gk x (by omega)) ho
          have ck := cell1R Q1.l; have cn := cell1R Q1.n
          have fk := frozen_of_row _ _ 0 _ _ Q1.l; have fn := frozen_of_row _ _ 0 _ _ Q1.n
          have HQ1 := Lib.hid Q1; have HGr := Lib.hid grow
          clear Q1 ho' hg hat grow gk
          refine wpAnyK_ready (rs := [9]) (by kernel_rfl) (by simp) ?_
          refine AllReadyK.cons rfl (fun K hK => ?_) AllReadyK.nil
          go_simp
          refine shutK hK (⟨(cell_far (by show W3.heap.size ≠ w1.heap.size; omega)).trans hHeld.1, (cell_far (by show W3.heap.size ≠ w1.heap.size; omega)).trans hHeld.2.1, (cell_far (by show W3.heap.size ≠ w1.heap.size; omega)).trans hHeld.2.2.1, (cell_far (by show w.heap.size + 1 ≠ w1.heap.size; omega)).trans hHeld.2.2.2⟩) (fun hHeld => ?_)
          clear hK K
          try simp only [List.getElem_toArray, List.getElem_cons_zero, List.getElem_cons_succ, Act.put, List.setIfInBounds_toArray, List.set_cons_zero, List.set_cons_succ]
          refine wpAnyK_ready (rs := [10]) (by kernel_rfl) (by simp) ?_
          refine AllReadyK.cons rfl (fun K hK => ?_) AllReadyK.nil
          go_simp
          refine shutK_off hK (by decide) ?_
          clear hK K
          try simp only [List.getElem_toArray, List.getElem_cons_zero, List.getElem_cons_succ, Act.put, List.setIfInBounds_toArray, List.set_cons_zero, List.set_cons_succ]
          refine wpAnyK_done (by kernel_rfl) ?_ _
          dsimp only [OnlyN]
          gi_wp2
          have hw2 := HG.out.size
          have hcellsG : ∀ (j : Nat) (o : Obj), (Value.slice al C.length cl_).ownBlock = some j → (V.drew.alloc (.cells #[.int .i64 r1.id, .int .i64 r1.ver, .slice av r1.vals.length cv] 48)).heap[j]? = some o → o.isCells = true := fun j o e ho => by
            rcases HOw.out.2 with ⟨h0, _⟩ | ⟨g', cap, cur, hv, hg', hh, _⟩
            · rw [h0] at e; simp [Value.ownBlock] at e
            · rw [hv] at e
              have : g' = j := by simpa [Value.ownBlock] using e
              subst this
              rw [hh] at ho; cases ho; rfl
          have KO : KeepsOthers W ((w'.setCell ⟨w1.heap.size, 0, none⟩ (.slice a2 (C.length + 1) c2)).setCell ⟨w1.heap.size + 1, 0, none⟩ (.int .i64 m)) :=
            ((((HK4.out.trans (KeepsOthers.drew V)).trans (KeepsOthers.alloc V.drew _)).trans (KeepsOthers.of_grownBy HG.out hcellsG)).trans (KeepsOthers.setCell _ _ _)).trans (KeepsOthers.setCell _ _ _)
          have hk2 : w1.heap.size + 2 < V.heap.size := by omega
          have KR : KeepsRow (w1.heap.size + 2) W ((w'.setCell ⟨w1.heap.size, 0, none⟩ (.slice a2 (C.length + 1) c2)).setCell ⟨w1.heap.size + 1, 0, none⟩ (.int .i64 m)) := by
            refine KeepsRow.trans HKz.out ⟨?_, fun mm hm => ?_⟩
            · obtain ⟨o, ho⟩ : ∃ o, V.heap[w1.heap.size + 2]? = some o := ⟨_, Array.getElem?_eq_getElem hk2⟩
              rw [ho]
              exact blk_far (blk_far (HGr.out _ _ hk2 (fun g e => by have := HOff.out g e; omega) ho) (by show w1.heap.size + 2 ≠ w1.heap.size; omega)) (by show w1.heap.size + 2 ≠ w1.heap.size + 1; omega)
            · have hgl := HM1.out.lt
              obtain ⟨o, ho⟩ : ∃ o, V.heap[Tryz.laysM145_ren.g 1]? = some o := ⟨_, Array.getElem?_eq_getElem (by omega)⟩
              have h9 := blk_far (a := ⟨w1.heap.size + 1, 0, none⟩) (v := .int .i64 m) (blk_far (a := ⟨w1.heap.size, 0, none⟩) (v := .slice a2 (C.length + 1) c2) (HGr.out _ _ (by omega) (fun g e => by have := HOff.out g e; omega) ho) (by show _ ≠ w1.heap.size; omega)) (by show _ ≠ w1.heap.size + 1; omega)
              exact (World.cell?_of_block (w := V) (a := ⟨Tryz.laysM145_ren.g 1, 0, none⟩) (h9.trans ho.symm)).trans hm
          have hbw : Below w.heap.size w w' := ((H3a.out.trans (bB.mono H3a.out.size)).grown HG.out (by have := H3a.out.size; omega) (fun g e => by have := HOff.out g e; omega))
          have hrecs : RecsIn (w1.heap.size + 2) (.slice a2 (C.length + 1) c2) (C ++ [(⟨r1.id, r1.ver, av, r1.vals.length, cv, r1.vals⟩ : RV)]) w' := by
            have hown' : ∀ b, b < V.heap.size → (some b ≠ (Value.slice al C.length cl_).ownBlock) → some b ≠ (Value.slice a2 (C.length + 1) c2).ownBlock := fun b hb hn => by
              rcases HAt.out with h | h | h
              · rw [h]; simp
              · rw [← h]; exact hn
              · rw [h]; simp; omega
            refine ⟨by rw [List.length_append, List.flatMap_append]; exact HO2.out, fun x hx => ?_⟩
            rcases List.mem_append.1 hx with hx | hx
            · exact (H2a.out.vals x hx).move (by omega) fun b hb hs => ⟨by
                obtain ⟨o, ho⟩ : ∃ o, V.heap[b]? = some o := ⟨_, Array.getElem?_eq_getElem hb⟩
                rw [ho]; exact HGr.out b o hb (fun g e eg => hs.2 (by rw [← eg, e])) ho, hs.1, hown' b hb hs.2⟩
            · simp at hx; subst hx
              exact HVx.out.move (by omega) fun b hb hs => by
                have hs' : W2.heap.size ≤ b := hs
                have hne : some b ≠ (Value.slice al C.length cl_).ownBlock := fun e => by have := HOff.out b e.symm; omega
                obtain ⟨o, ho⟩ : ∃ o, V.heap[b]? = some o := ⟨_, Array.getElem?_eq_getElem hb⟩
                exact ⟨by rw [ho]; exact HGr.out b o hb (fun g e eg => hne (by rw [← eg, e])) ho, by omega, hown' b hb hne⟩
          refine ⟨none, rfl, KO, fun _ => KR, .slice a2 (C.length + 1) c2, C ++ [(⟨r1.id, r1.ver, av, r1.vals.length, cv, r1.vals⟩ : RV)], m, ?_, ?_, ?_, ?_, by simp; omega, hmt, ?_⟩
          · exact ⟨blk_far (blk_far HQ1.out.s (by show w.heap.size ≠ w1.heap.size; omega)) (by show w.heap.size ≠ w1.heap.size + 1; omega), blk_far (blk_far HQ1.out.t (by show w.heap.size + 1 ≠ w1.heap.size; omega)) (by show w.heap.size + 1 ≠ w1.heap.size + 1; omega), blk_far (blk_far HQ1.out.r1 (by show w.heap.size + 1 + 1 ≠ w1.heap.size; omega)) (by show w.heap.size + 1 + 1 ≠ w1.heap.size + 1; omega), blk_far (blk_far HQ1.out.r2 (by show w.heap.size + 1 + 1 + 1 ≠ w1.heap.size; omega)) (by show w.heap.size + 1 + 1 + 1 ≠ w1.heap.size + 1; omega), blk_far (blk_far HQ1.out.r3 (by show w.heap.size + 1 + 1 + 1 + 1 ≠ w1.heap.size; omega)) (by show w.heap.size + 1 + 1 + 1 + 1 ≠ w1.heap.size + 1; omega),
              blk_far (blk_set (i := 0) (v := .slice a2 (C.length + 1) c2) HQ1.out.l) (by show w1.heap.size ≠ w1.heap.size + 1; omega), blk_set (i := 0) (v := .int .i64 m) (blk_far HQ1.out.n (by show w1.heap.size + 1 ≠ w1.heap.size; omega))⟩
          · exact (hrecs.far (a := ⟨w1.heap.size, 0, none⟩) (by show w1.heap.size ≤ w1.heap.size + 2; omega)).far (a := ⟨w1.heap.size + 1, 0, none⟩) (by show w1.heap.size + 1 ≤ w1.heap.size + 2; omega)
          · exact (hbw.setCell (p := ⟨w1.heap.size, 0, none⟩) (by show w.heap.size ≤ w1.heap.size; omega) _).setCell (p := ⟨w1.heap.size + 1, 0, none⟩) (by show w.heap.size ≤ w1.heap.size + 1; omega) _
          · simp [World.setCell]; omega
          · intro q' hq'
            have hqq : q' = q := by
              have h9 := HQ.out
              rw [hq', List.append_assoc] at h9
              simpa using List.append_cancel_left h9
            rw [hqq, List.map_append]
            exact HRs.out
      · have dne : (er != 0) = true := by simpa using he
        have hres := HEq3.out
        rw [if_neg he] at hres
        have cl3 := cell1R H1.out.l; have cn3 := cell1R H1.out.n; have cr1 := cell1R H1.out.r1; have cr2 := cell1R H1.out.r2; have cr3 := cell1R H1.out.r3
        have hbA : Below W3.heap.size W3 (W3.alloc (.cells #[.int .i64 r1.id, .int .i64 r1.ver, .slice av r1.vals.length cv] 48)) := (Below.refl _ _).alloc (Nat.le_refl _) _
        have H1a := Lib.hid (H1.out.below' hbA); have H2a := Lib.hid (H2.out.below hbA); have H3a := Lib.hid (H3.out.trans (hbA.mono H3.out.size))
        have HK4 := Lib.hid (HK3.out.trans (keeps_below hbA))
        clear hbA HEq3 he hlim
        obtain ⟨g1, g2, g3, g4, g5⟩ := read_out H1a.out H2a.out H3a.out (Nat.le_refl _) zk (at' : Int) er
        have hI : IRead w w.heap.size w1.heap.size vf vt vn vs s t (some .ret) (pre ++ [(row, rest)]) _ := ⟨rfl, _, C, _, _, g1, g2, g3, g4, g5, hres⟩
        have HI := Lib.hid hI
        clear hI g1 g2 g3 g4 g5 cl3 cn3 cr1 cr2 cr3
        have cl3 := cell1R H1a.out.l; have cn3 := cell1R H1a.out.n; have cr1 := cell1R H1a.out.r1; have cr2 := cell1R H1a.out.r2; have cr3 := cell1R H1a.out.r3
        have fr1 := frozen_of_row _ _ 0 _ _ H1a.out.r1; have fr2 := frozen_of_row _ _ 0 _ _ H1a.out.r2; have fr3 := frozen_of_row _ _ 0 _ _ H1a.out.r3
        gi_wp2
        gi_region_with_o (fail)
        all_goals gi_wp2
        all_goals exact ⟨some .ret, rfl, ((((HK4.out).trans (KeepsOthers.setCell _ _ _)).trans (KeepsOthers.setCell _ _ _)).trans (KeepsOthers.setCell _ _ _)).trans (KeepsOthers.drew _), (fun h => nomatch h), IRead.drew HI.out⟩
    · have hit := fun w hw => itoa_any C.length (by omega) w hw
      have heq := HEq.out
      rw [readA, hEe, if_pos rfl, List.length_map] at heq
      unfold endR endS at heq
      obtain ⟨d, hd⟩ : ∃ d, Lib.decDigits C.length = d := ⟨_, rfl⟩
      have hdl : d.length ≤ 7 := by rw [← hd]; exact dec_most (k := 7) (by decide) (by omega)
      rw [hd] at hit heq
      have HIt := Lib.hid hit; have HEq2 := Lib.hid heq
      clear HEq heq hE hEe hit hd
      gi_wp2
      refine ⟨trivial, (CallsIn.inRound l (callsIn_wide.2 (HIt.out W2 (HVr.out.old H3b.out)))).mono ?_⟩
      rintro e W3 ⟨rfl, hb⟩
      have HK3 := Lib.hid (HK2.out.trans (keeps_below hb))
      have H1 := Lib.hid (H1b.out.below' hb); have H2 := Lib.hid (H2b.out.below hb); have H3 := Lib.hid (H3b.out.trans (hb.mono H3b.out.size))
      have cl3 := cell1R H1.out.l; have cn3 := cell1R H1.out.n; have ct3 := cell1R H1.out.t; have cr1 := cell1R H1.out.r1; have cr2 := cell1R H1.out.r2; have cr3 := cell1R H1.out.r3
      have fr1 := frozen_of_row _ _ 0 _ _ H1.out.r1; have fr2 := frozen_of_row _ _ 0 _ _ H1.out.r2; have fr3 := frozen_of_row _ _ 0 _ _ H1.out.r3
      have hn1 : ¬ 9223372036854775807 < 4 + d.length := by omega
      clear hb cl H1b H2b H3b HK2
      by_cases hrw : row = [101, 110, 100, 32] ++ d
      · by_cases hre : rest = []
        · have hres := HEq2.out
          rw [if_pos ⟨hrw, hre⟩] at hres
          have d1 : (row == 101 :: 110 :: 100 :: 32 :: d) = true := by simp [hrw]
          have d2 : (rest == []) = true := by simp [hre]
          have d3 : rest.isEmpty = true := by simp [hre]
          clear HEq2 hrw hre
          obtain ⟨g1, g2, g3, g4, g5⟩ := read_out H1.out H2.out H3.out (Nat.le_refl _) zk (t.length : Int) 0
          have hI : IRead w w.heap.size w1.heap.size vf vt vn vs s t (some .ret) (pre ++ [(row, rest)]) _ := ⟨rfl, _, C, _, _, g1, g2, g3, g4, g5, hres⟩
          have HI := Lib.hid hI
          clear hI g1 g2 g3 g4 g5
          gi_wp2
          gi_region_with_o (fail)
          all_goals gi_wp2
          all_goals exact ⟨some .ret, rfl, ((((HK3.out).trans (KeepsOthers.setCell _ _ _)).trans (KeepsOthers.setCell _ _ _)).trans (KeepsOthers.setCell _ _ _)).trans (KeepsOthers.drew _), (fun h => nomatch h), IRead.drew HI.out⟩
        · have hres := HEq2.out
          rw [if_neg (fun h => hre h.2)] at hres
          have d1 : (rest == []) = false := by simpa using hre
          have d2 : rest.isEmpty = false := by simpa using hre
          have d3 : (row == 101 :: 110 :: 100 :: 32 :: d) = true := by simp [hrw]
          clear HEq2 hre hrw
          obtain ⟨g1, g2, g3, g4, g5⟩ := read_out H1.out H2.out H3.out (Nat.le_refl _) zk (at' : Int) 14
          have hI : IRead w w.heap.size w1.heap.size vf vt vn vs s t (some .ret) (pre ++ [(row, rest)]) _ := ⟨rfl, _, C, _, _, g1, g2, g3, g4, g5, hres⟩
          have HI := Lib.hid hI
          clear hI g1 g2 g3 g4 g5
          gi_wp2
          gi_region_with_o (fail)
          all_goals gi_wp2
          all_goals exact ⟨some .ret, rfl, ((((HK3.out).trans (KeepsOthers.setCell _ _ _)).trans (KeepsOthers.setCell _ _ _)).trans (KeepsOthers.setCell _ _ _)).trans (KeepsOthers.drew _), (fun h => nomatch h), IRead.drew HI.out⟩
      · have hres := HEq2.out
        rw [if_neg (fun h => hrw h.1)] at hres
        have d1 : (row == 101 :: 110 :: 100 :: 32 :: d) = false := by simpa using hrw
        clear HEq2 hrw
        obtain ⟨g1, g2, g3, g4, g5⟩ := read_out H1.out H2.out H3.out (Nat.le_refl _) zk (at' : Int) 14
        have hI : IRead w w.heap.size w1.heap.size vf vt vn vs s t (some .ret) (pre ++ [(row, rest)]) _ := ⟨rfl, _, C, _, _, g1, g2, g3, g4, g5, hres⟩
        have HI := Lib.hid hI
        clear hI g1 g2 g3 g4 g5
        gi_wp2
        gi_region_with_o (fail)
        all_goals gi_wp2
        all_goals exact ⟨some .ret, rfl, ((((HK3.out).trans (KeepsOthers.setCell _ _ _)).trans (KeepsOthers.setCell _ _ _)).trans (KeepsOthers.setCell _ _ _)).trans (KeepsOthers.drew _), (fun h => nomatch h), IRead.drew HI.out⟩
  case done =>
    rintro D W hD ⟨lv, C, at', h1, h2, h3, h4, h5, h6, h7⟩ hK
    obtain ⟨al, cl_, rfl⟩ := own_slice h2.own
    have heq : readA s t.length [] 0 (rowsL t) = (C.map pR, at', 15) := h7 [] (by simp)
    have hPe : P = (C.map pR, at', 15) := by rw [← HP.out]; exact heq
    have cl := cell1R h1.l; have cn := cell1R h1.n; have cr1 := cell1R h1.r1; have cr2 := cell1R h1.r2; have cr3 := cell1R h1.r3
    have fr1 := frozen_of_row _ _ 0 _ _ h1.r1; have fr2 := frozen_of_row _ _ 0 _ _ h1.r2; have fr3 := frozen_of_row _ _ 0 _ _ h1.r3
    have mixed : Tryz.prog.follows .mixedOrders = true := by kernel_rfl
    have n1 : w.heap.size + 1 + 1 ≠ w.heap.size + 1 + 1 + 1 := by omega
    have n2 : w.heap.size + 1 + 1 ≠ w.heap.size + 1 + 1 + 1 + 1 := by omega
    have n3 : w.heap.size + 1 + 1 + 1 ≠ w.heap.size + 1 + 1 + 1 + 1 := by omega
    have hPh := Lib.hid hPe; have H1 := Lib.hid h1; have H2 := Lib.hid h2; have H3 := Lib.hid h3; have HK := Lib.hid hK
    clear heq h7 h1 h2 h3 hK
    gi_wp2
    gi_region_with_o (fail)
    all_goals gi_wp2
    all_goals
      obtain ⟨g1, g2, g3, g4, g5⟩ := read_out H1.out H2.out H3.out (Nat.le_refl _) zk (at' : Int) 15
      obtain ⟨F, hF⟩ : ∃ F, ((W.setCell ⟨w.heap.size + 1 + 1, 0, none⟩ (.slice al C.length cl_)).setCell ⟨w.heap.size + 1 + 1 + 1, 0, none⟩ (.int .i64 (at' : Int))).setCell ⟨w.heap.size + 1 + 1 + 1 + 1, 0, none⟩ (.int .i64 15) = F := ⟨_, rfl⟩
      have hD2 := lt_of_blk HX3.out
      have hKF : F.heap[D]? = some (.deferred (some [])) := by rw [← hF]; exact blk_far (blk_far (blk_far HK.out (by show D ≠ w.heap.size + 1 + 1; omega)) (by show D ≠ w.heap.size + 1 + 1 + 1; omega)) (by show D ≠ w.heap.size + 1 + 1 + 1 + 1; omega)
      rw [hF] at g1 g2 g3 g4 g5 ⊢
      have hne : ∀ x, x < w1.heap.size → x ≠ D := fun x hx => by have := lt_of_blk HX3.out; omega
      have d1 : ∀ x, x < w1.heap.size → (F.drew.putObj D (.deferred none)).heap[x]? = F.heap[x]? := fun x hx => World.putObj_heap_other (hne x hx)
      have c1 : (F.drew.putObj D (.deferred none)).cell? ⟨w.heap.size + 1 + 1, 0, none⟩ = some (.slice al C.length cl_) := cell1R ((d1 _ (by omega)).trans g1)
      have c2 : (F.drew.putObj D (.deferred none)).cell? ⟨w.heap.size + 1 + 1 + 1, 0, none⟩ = some (.int .i64 at') := cell1R ((d1 _ (by omega)).trans g2)
      have c3 : (F.drew.putObj D (.deferred none)).cell? ⟨w.heap.size + 1 + 1 + 1 + 1, 0, none⟩ = some (.int .i64 15) := cell1R ((d1 _ (by omega)).trans g3)
      have hKd : F.drew.heap[D]? = some (.deferred (some [])) := hKF
      have hbD : Below w.heap.size w (F.drew.putObj D (.deferred none)) := g5.drew.trans (belowK_b (w := w) (Nat.le_refl _) F.drew D _ _ (by have := lt_of_blk HX3.out; omega) hKd rfl rfl)
      have hkD : CellsKept F (F.drew.putObj D (.deferred none)) := ⟨by simp, fun x o hx ho => by
        by_cases hxD : x = D
        · subst hxD; rw [hKF] at hx; cases hx; cases ho
        · exact (World.putObj_heap_other hxD).trans hx⟩
      refine ⟨by simp, .inl ⟨_, _, rfl, run_takeDeferred hKd, ?_⟩⟩
      refine ⟨.tuple #[.slice al C.length cl_, .int .i64 at', .int .i64 15], ?_, ⟨.slice al C.length cl_, by rw [hPh.out], by rw [hPh.out]; exact (g4.kept hkD).vec (by omega), hbD⟩⟩
      simp [results, Tryz.f24, go_sem, c1, c2, c3]
  case stop =>
    rintro D c pre W hD hpre ⟨rfl, lv, C, m, er, g1, g2, g3, hrc, hB, heq⟩ hK
    gi_wp2
    have hne : ∀ x, x < w1.heap.size → x ≠ D := fun x hx => by have := lt_of_blk HX3.out; omega
    have d1 : ∀ x, x < w1.heap.size → (W.putObj D (.deferred none)).heap[x]? = W.heap[x]? := fun x hx => World.putObj_heap_other (hne x hx)
    have c1 : (W.putObj D (.deferred none)).cell? ⟨w.heap.size + 1 + 1, 0, none⟩ = some lv := cell1R ((d1 _ (by omega)).trans g1)
    have c2 : (W.putObj D (.deferred none)).cell? ⟨w.heap.size + 1 + 1 + 1, 0, none⟩ = some (.int .i64 m) := cell1R ((d1 _ (by omega)).trans g2)
    have c3 : (W.putObj D (.deferred none)).cell? ⟨w.heap.size + 1 + 1 + 1 + 1, 0, none⟩ = some (.int .i64 er) := cell1R ((d1 _ (by omega)).trans g3)
    have hbD : Below w.heap.size w (W.putObj D (.deferred none)) := hB.trans (belowK_b (w := w) (Nat.le_refl _) W D _ _ (by have := lt_of_blk HX3.out; omega) hK rfl rfl)
    have hkD : CellsKept W (W.putObj D (.deferred none)) := ⟨by simp, fun x o hx ho => by
      by_cases hxD : x = D
      · subst hxD; rw [hK] at hx; cases hx; cases ho
      · exact (World.putObj_heap_other hxD).trans hx⟩
    refine ⟨by simp, .inl ⟨_, _, rfl, run_takeDeferred hK, ?_⟩⟩
    have hPe : P = (C.map pR, m, er) := by rw [← HP.out]; exact heq
    refine ⟨.tuple #[lv, .int .i64 m, .int .i64 er], ?_, ⟨lv, by rw [hPe], by rw [hPe]; exact (hrc.kept hkD).vec (by omega), hbD⟩⟩
    simp [results, Tryz.f24, go_sem, c1, c2, c3]
end
section
set_option maxRecDepth 100000
open Go.RowKit Cal
attribute [local go_sem] toList_mk mk_size str_append
theorem rsameD_any (S T : Nat → Prop) (va vb : Value) (A B : List (List UInt8)) (w : World) (hA : Vec w S 1 encS va A) (hB : Vec w T 1 encS vb B) (hn : A.length ≤ 1000000) (hm : B.length ≤ 1000000) :
    Calls Tryz.prog 78 #[va, vb] w fun e w' => e = .returned (.bool (decide (A = B))) ∧ Below w.heap.size w w' := by
  have h := rsame_any S T va vb A B w hA hB hn hm
  rw [show (A == B) = decide (A = B) by by_cases h : A = B <;> simp [h]] at h
  exact h
set_option maxHeartbeats 4000000 in
theorem rrsame_any (S T : Nat → Prop) (u v : Value) (a b : RecL) (w : World) (hu : Vec w S 1 encS u a.vals) (hv : Vec w T 1 encS v b.vals) (hn : a.vals.length ≤ 1000000) (hm : b.vals.length ≤ 1000000) :
    Calls Tryz.prog 34 #[.agg #[.int .i64 a.id, .int .i64 a.ver, u], .agg #[.int .i64 b.id, .int .i64 b.ver, v]] w fun e w' => e = .returned (.bool (sameR a b)) ∧ Below w.heap.size w w' := by
  obtain ⟨ua, uc, rfl⟩ := hu.slice
  obtain ⟨va, vc, rfl⟩ := hv.slice
  obtain ⟨i1, n1, A⟩ := a
  obtain ⟨i2, n2, B⟩ := b
  dsimp only at hu hv hn hm ⊢
  have HU := Lib.hid hu; have HV := Lib.hid hv
  clear hu hv
  have hq : (i1 == i2) = decide (i1 = i2) := beq_dec i1 i2
  have hq2 : (n1 == n2) = decide (n1 = n2) := beq_dec n1 n2
  cases h1 : decide (i1 = i2)
  · have e : sameR ⟨i1, n1, A⟩ ⟨i2, n2, B⟩ = false := by unfold sameR; dsimp only; rw [h1]; rfl
    rw [e]
    rw [h1] at hq
    go_enter Tryz.func34, Tryz.ntmps34
    go_wp2_with fail
    go_ret
    exact ⟨rfl, ((Below.refl w.heap.size w).alloc (Nat.le_refl _) _).alloc (by simp) _⟩
  · rw [h1] at hq
    cases h2 : decide (n1 = n2)
    · have e : sameR ⟨i1, n1, A⟩ ⟨i2, n2, B⟩ = false := by unfold sameR; dsimp only; rw [h1, h2]; rfl
      rw [e]
      rw [h2] at hq2
      go_enter Tryz.func34, Tryz.ntmps34
      go_wp2_with fail
      go_ret
      exact ⟨rfl, ((Below.refl w.heap.size w).alloc (Nat.le_refl _) _).alloc (by simp) _⟩
    · rw [h2] at hq2
      have e : sameR ⟨i1, n1, A⟩ ⟨i2, n2, B⟩ = decide (A = B) := by unfold sameR; dsimp only; rw [h1, h2]; rfl
      rw [e]
      go_enter Tryz.func34, Tryz.ntmps34
      go_wp2_with fail
      refine wp_calls_world (fun W hW => ?_)
      have hb0 : Below w.heap.size w W := by rw [hW]; exact ((Below.refl w.heap.size w).alloc (Nat.le_refl _) _).alloc (by simp) _
      clear hW
      refine (rsameD_any S T _ _ A B W (HU.out.below hb0) (HV.out.below hb0) hn hm).mono ?_
      rintro e w1 ⟨rfl, hb⟩
      go_wp2_with fail
      go_ret
      exact ⟨rfl, hb0.trans (hb.mono hb0.size)⟩

/-- two lists of records are the same -/
def sameRs (A B : List RecL) : Bool := decide (A.length = B.length) && (List.range A.length).all fun i => sameR (A.getD i noRec) (B.getD i noRec)
theorem sameRs_self (A : List RecL) : sameRs A A = true := by
  unfold sameRs
  rw [decide_eq_true rfl, Bool.true_and, List.all_eq_true]
  intro i _
  exact sameR_self _ _ rfl rfl rfl
set_option maxHeartbeats 4000000 in
theorem rsameall_any (S T : Nat → Prop) (u v : Value) (A B : List RecL) (w : World) (hu : RecsVec w S u A) (hv : RecsVec w T v B) (hn : A.length ≤ 1000000) (hm : ∀ r ∈ A, r.vals.length ≤ 1000000) (hm2 : ∀ r ∈ B, r.vals.length ≤ 1000000) :
    Calls Tryz.prog 25 #[u, v] w fun e w' => e = .returned (.bool (sameRs A B)) ∧ Below w.heap.size w w' := by
  obtain ⟨aa, ca, rfl⟩ := hu.slice
  obtain ⟨ab, cb, rfl⟩ := hv.slice
  have HU := Lib.hid hu; have HV := Lib.hid hv; have HM := Lib.hid hm; have HM2 := Lib.hid hm2
  clear hu hv hm hm2
  by_cases hl : A.length = B.length
  · have hne : ((A.length : Int) != (B.length : Int)) = false := by rw [hl]; simp
    have hne2 : (A.length != B.length) = false := by rw [hl]; simp
    have hfin : ∀ n : Bool, sameRs A B = n → Ending.returned (.bool n) = .returned (.bool (sameRs A B)) := fun n h => by rw [h]
    have HF := Lib.hid hfin; have HL := Lib.hid hl
    clear hfin hl
    go_enter Tryz.func25, Tryz.ntmps25
    go_wp2_with fail
    clear hne hne2
    go_loopw [5] (fun i wr => ∃ k : Nat, k ≤ A.length ∧ i = .int .i64 k ∧ Hid (Below w.heap.size w wr) ∧ Hid (∀ j, j < k → sameR (A.getD j noRec) (B.getD j noRec) = true)) (fun i _ => A.length - (intOf i).toNat)
    case atStart => exact ⟨0, by omega, rfl, Lib.hid (Below.refl _ _), Lib.hid fun j hj => by omega⟩
    case round =>
      obtain ⟨k, hk, rfl, HW, HE⟩ := hrel
      by_cases hlt : k < A.length
      · have hq : decide ((k : Int) < A.length) = true := by simp; omega
        have hi1 : (k : Int) < (A.length : Int) := by omega
        have hi2 : (k : Int) < (B.length : Int) := by rw [← HL.out]; omega
        have hlt2 : k < B.length := by rw [← HL.out]; exact hlt
        obtain ⟨b1, o1, id1, ver1, a1, n1, c1, vals1, e1, lb1, x0, x1, x2, hA, hva⟩ := (HU.out.below HW.out).at k hlt
        obtain ⟨b2, o2, id2, ver2, a2, n2, c2, vals2, e2, lb2, y0, y1, y2, hB, hvb⟩ := (HV.out.below HW.out).at k hlt2
        cases e1; cases e2
        have hm1 := HM.out A[k] (List.getElem_mem hlt); have hm2 := HM2.out B[k] (List.getElem_mem hlt2)
        have hgA : A.getD k noRec = ⟨id1, ver1, vals1⟩ := by rw [getD_at _ _ hlt]; exact hA
        have hgB : B.getD k noRec = ⟨id2, ver2, vals2⟩ := by rw [getD_at _ _ hlt2]; exact hB
        rw [hA] at hm1; rw [hB] at hm2
        have hcall := fun w h1 h2 => rrsame_any S T (.slice a1 n1 c1) (.slice a2 n2 c2) ⟨id1, ver1, vals1⟩ ⟨id2, ver2, vals2⟩ w h1 h2 hm1 hm2
        obtain ⟨q, hqq⟩ : ∃ q, sameR ⟨id1, ver1, vals1⟩ ⟨id2, ver2, vals2⟩ = q := ⟨_, rfl⟩
        have hqe : sameR (A.getD k noRec) (B.getD k noRec) = q := by rw [hgA, hgB]; exact hqq
        rw [hqq] at hcall
        have HC := Lib.hid hcall; have HQ := Lib.hid hqe; have HVa := Lib.hid hva; have HVb := Lib.hid hvb
        have bD : Below wr.heap.size wr wr.drew := (Below.refl _ _).drew
        clear hm1 hm2 hgA hgB hcall hqq hqe hA hB hva hvb
        cases q
        · go_wp2_with fail
          refine wp_region_noPanic ?_
          refine wp_region_held_drew (S := (fun w' => w'.cell? ⟨b1, o1 + k * 3, none⟩ = some (.int .i64 id1) ∧ w'.cell? ⟨b1, o1 + k * 3 + 1, none⟩ = some (.int .i64 ver1) ∧ w'.cell? ⟨b1, o1 + k * 3 + 2, none⟩ = some (.slice a1 n1 c1) ∧ w'.cell? ⟨b2, o2 + k * 3, none⟩ = some (.int .i64 id2) ∧ w'.cell? ⟨b2, o2 + k * 3 + 1, none⟩ = some (.int .i64 ver2) ∧ w'.cell? ⟨b2, o2 + k * 3 + 2, none⟩ = some (.slice a2 n2 c2))) (by kernel_rfl) (⟨x0, x1, x2, y0, y1, y2⟩) (fun hHeld => ?_)
          refine tH 0 (h := ?_)
          try simp only [List.getElem_toArray, List.getElem_cons_zero, List.getElem_cons_succ, Act.put, List.setIfInBounds_toArray, List.set_cons_zero, List.set_cons_succ]
          refine tH 1 (h := ?_)
          try simp only [List.getElem_toArray, List.getElem_cons_zero, List.getElem_cons_succ, Act.put, List.setIfInBounds_toArray, List.set_cons_zero, List.set_cons_succ]
          refine tH 2 (h := ?_)
          try simp only [List.getElem_toArray, List.getElem_cons_zero, List.getElem_cons_succ, Act.put, List.setIfInBounds_toArray, List.set_cons_zero, List.set_cons_succ]
          refine tH 3 (h := ?_)
          try simp only [List.getElem_toArray, List.getElem_cons_zero, List.getElem_cons_succ, Act.put, List.setIfInBounds_toArray, List.set_cons_zero, List.set_cons_succ]
          refine tH 4 (h := ?_)
          try simp only [List.getElem_toArray, List.getElem_cons_zero, List.getElem_cons_succ, Act.put, List.setIfInBounds_toArray, List.set_cons_zero, List.set_cons_succ]
          refine tH 5 (h := ?_)
          try simp only [List.getElem_toArray, List.getElem_cons_zero, List.getElem_cons_succ, Act.put, List.setIfInBounds_toArray, List.set_cons_zero, List.set_cons_succ]
          refine tH 6 (h := ?_)
          try simp only [List.getElem_toArray, List.getElem_cons_zero, List.getElem_cons_succ, Act.put, List.setIfInBounds_toArray, List.set_cons_zero, List.set_cons_succ]
          refine tH 7 (h := ?_)
          try simp only [List.getElem_toArray, List.getElem_cons_zero, List.getElem_cons_succ, Act.put, List.setIfInBounds_toArray, List.set_cons_zero, List.set_cons_succ]
          refine wpAnyH_ready (rs := [8]) (by kernel_rfl) (by simp) ?_
          refine AllReadyH.cons rfl (fun K hK => ?_) AllReadyH.nil
          go_simp
          refine (HC.out _ (HVa.out.below bD) (HVb.out.below bD)).mono ?_; rintro e w2 ⟨rfl, hb⟩; have b2' := bD.trans (hb.mono bD.size); clear hb
          refine hK.out _ _ (⟨(b2'.cell (p := ⟨b1, o1 + k * 3, none⟩) lb1).trans x0, (b2'.cell (p := ⟨b1, o1 + k * 3 + 1, none⟩) lb1).trans x1, (b2'.cell (p := ⟨b1, o1 + k * 3 + 2, none⟩) lb1).trans x2, (b2'.cell (p := ⟨b2, o2 + k * 3, none⟩) lb2).trans y0, (b2'.cell (p := ⟨b2, o2 + k * 3 + 1, none⟩) lb2).trans y1, (b2'.cell (p := ⟨b2, o2 + k * 3 + 2, none⟩) lb2).trans y2⟩) (fun hHeld => ?_)
          clear hK K
          try simp only [List.getElem_toArray, List.getElem_cons_zero, List.getElem_cons_succ, Act.put, List.setIfInBounds_toArray, List.set_cons_zero, List.set_cons_succ]
          refine tH 9 (h := ?_)
          try simp only [List.getElem_toArray, List.getElem_cons_zero, List.getElem_cons_succ, Act.put, List.setIfInBounds_toArray, List.set_cons_zero, List.set_cons_succ]
          refine wpAnyH_done (by kernel_rfl) ?_ _
          refine NoPanic.normal ?_
          have HB2 := Lib.hid (HW.out.trans (b2'.mono HW.out.size))
          clear b2' bD hHeld x0 x1 x2 y0 y1 y2
          go_wp2_with fail
          go_ret
          refine ⟨HF.out false ?_, HB2.out⟩
          unfold sameRs
          have : ((List.range A.length).all fun i => sameR (A.getD i noRec) (B.getD i noRec)) = false := by
            rw [List.all_eq_false]
            exact ⟨k, List.mem_range.2 hlt, by rw [HQ.out]; simp⟩
          rw [this, Bool.and_false]
        · go_wp2_with fail
          refine wp_region_noPanic ?_
          refine wp_region_held_drew (S := (fun w' => w'.cell? ⟨b1, o1 + k * 3, none⟩ = some (.int .i64 id1) ∧ w'.cell? ⟨b1, o1 + k * 3 + 1, none⟩ = some (.int .i64 ver1) ∧ w'.cell? ⟨b1, o1 + k * 3 + 2, none⟩ = some (.slice a1 n1 c1) ∧ w'.cell? ⟨b2, o2 + k * 3, none⟩ = some (.int .i64 id2) ∧ w'.cell? ⟨b2, o2 + k * 3 + 1, none⟩ = some (.int .i64 ver2) ∧ w'.cell? ⟨b2, o2 + k * 3 + 2, none⟩ = some (.slice a2 n2 c2))) (by kernel_rfl) (⟨x0, x1, x2, y0, y1, y2⟩) (fun hHeld => ?_)
          refine tH 0 (h := ?_)
          try simp only [List.getElem_toArray, List.getElem_cons_zero, List.getElem_cons_succ, Act.put, List.setIfInBounds_toArray, List.set_cons_zero, List.set_cons_succ]
          refine tH 1 (h := ?_)
          try simp only [List.getElem_toArray, List.getElem_cons_zero, List.getElem_cons_succ, Act.put, List.setIfInBounds_toArray, List.set_cons_zero, List.set_cons_succ]
          refine tH 2 (h := ?_)
          try simp only [List.getElem_toArray, List.getElem_cons_zero, List.getElem_cons_succ, Act.put, List.setIfInBounds_toArray, List.set_cons_zero, List.set_cons_succ]
          refine tH 3 (h := ?_)
          try simp only [List.getElem_toArray, List.getElem_cons_zero, List.getElem_cons_succ, Act.put, List.setIfInBounds_toArray, List.set_cons_zero, List.set_cons_succ]
          refine tH 4 (h := ?_)
          try simp only [List.getElem_toArray, List.getElem_cons_zero, List.getElem_cons_succ, Act.put, List.setIfInBounds_toArray, List.set_cons_zero, List.set_cons_succ]
          refine tH 5 (h := ?_)
          try simp only [List.getElem_toArray, List.getElem_cons_zero, List.getElem_cons_succ, Act.put, List.setIfInBounds_toArray, List.set_cons_zero, List.set_cons_succ]
          refine tH 6 (h := ?_)
          try simp only [List.getElem_toArray, List.getElem_cons_zero, List.getElem_cons_succ, Act.put, List.setIfInBounds_toArray, List.set_cons_zero, List.set_cons_succ]
          refine tH 7 (h := ?_)
          try simp only [List.getElem_toArray, List.getElem_cons_zero, List.getElem_cons_succ, Act.put, List.setIfInBounds_toArray, List.set_cons_zero, List.set_cons_succ]
          refine wpAnyH_ready (rs := [8]) (by kernel_rfl) (by simp) ?_
          refine AllReadyH.cons rfl (fun K hK => ?_) AllReadyH.nil
          go_simp
          refine (HC.out _ (HVa.out.below bD) (HVb.out.below bD)).mono ?_; rintro e w2 ⟨rfl, hb⟩; have b2' := bD.trans (hb.mono bD.size); clear hb
          refine hK.out _ _ (⟨(b2'.cell (p := ⟨b1, o1 + k * 3, none⟩) lb1).trans x0, (b2'.cell (p := ⟨b1, o1 + k * 3 + 1, none⟩) lb1).trans x1, (b2'.cell (p := ⟨b1, o1 + k * 3 + 2, none⟩) lb1).trans x2, (b2'.cell (p := ⟨b2, o2 + k * 3, none⟩) lb2).trans y0, (b2'.cell (p := ⟨b2, o2 + k * 3 + 1, none⟩) lb2).trans y1, (b2'.cell (p := ⟨b2, o2 + k * 3 + 2, none⟩) lb2).trans y2⟩) (fun hHeld => ?_)
          clear hK K
          try simp only [List.getElem_toArray, List.getElem_cons_zero, List.getElem_cons_succ, Act.put, List.setIfInBounds_toArray, List.set_cons_zero, List.set_cons_succ]
          refine tH 9 (h := ?_)
          try simp only [List.getElem_toArray, List.getElem_cons_zero, List.getElem_cons_succ, Act.put, List.setIfInBounds_toArray, List.set_cons_zero, List.set_cons_succ]
          refine wpAnyH_done (by kernel_rfl) ?_ _
          refine NoPanic.normal ?_
          have HB2 := Lib.hid (HW.out.trans (b2'.mono HW.out.size))
          have HT := Lib.hid (show ∀ j, j < k + 1 → sameR (A.getD j noRec) (B.getD j noRec) = true from fun j hj => by
            by_cases e : j = k
            · subst e; exact HQ.out
            · exact HE.out j (by omega))
          clear b2' bD hHeld x0 x1 x2 y0 y1 y2
          go_wp2_with fail
          go_roundw
          case rel => exact ⟨k + 1, by omega, by go_num, HB2, HT⟩
          case measure => simp [intOf]; omega
      · have hq : decide ((k : Int) < A.length) = false := by simp; omega
        have hkk : k = A.length := by omega
        have HKK := Lib.hid hkk
        clear hkk
        go_wp2_with fail
        go_ret
        refine ⟨HF.out true ?_, HW.out⟩
        unfold sameRs
        rw [decide_eq_true HL.out, Bool.true_and, List.all_eq_true]
        intro j hj
        exact HE.out j (by rw [HKK.out]; exact List.mem_range.1 hj)
  · have hne : ((A.length : Int) != (B.length : Int)) = true := by simp; omega
    have hne2 : (A.length != B.length) = true := by simp; omega
    have hs : sameRs A B = false := by unfold sameRs; rw [decide_eq_false hl, Bool.false_and]
    rw [hs]
    clear hl hs
    go_enter Tryz.func25, Tryz.ntmps25
    go_wp2_with fail
    go_ret
    exact ⟨rfl, Below.refl _ _⟩
end
section
set_option maxRecDepth 100000
open Go.RowKit Cal
attribute [local go_sem] toList_mk mk_size bytes_append
theorem file_len {s : SchemaL} {R : List RecL} (h : allN s R = 0) (h5 : s.fields.length ≤ 5) : (fileR R).length ≤ 50000 := by
  obtain ⟨hc, hl64, _⟩ := allN_ok h
  have h1 := follows_len h h5 R.length
  rw [List.take_length] at h1
  have h2 : (Lib.decDigits R.length).length ≤ 7 := dec_most (k := 7) (by decide) (by omega)
  have h3 : fileR R = rowsT (R.map rowR) ++ ([101, 110, 100, 32] ++ Lib.decDigits R.length ++ [10]) := by unfold fileR; rw [rowsT_append, rowsT_one]; rfl
  rw [h3]
  simp only [List.length_append, List.length_cons, List.length_nil]
  omega
end
end Go.Proofs.YtoeplomdcannlaaGreatDoor
