/- Parts of one proof: NameF, AddrA, AddrB, AddrC, MakeS, MakeT, AddrD, AddrE, DateDig, MakeW, SchA, SchB, SchC, SchD, SchE, SchK, Dress, DeckPlain, MakeU, MakeV, MakeX. -/
import Derived.Test.YtaoebplnbcimlaaGreatDoorPartBe2
import Derived.Maps.AppendAt
import Derived.Laws.AppendOwnNone
import Derived.Deep.DeepCutAuto
set_option linter.unusedSimpArgs false
set_option linter.unusedVariables false
namespace Go.Proofs.YtaoebplnbcimlaaGreatDoor
section
set_option maxRecDepth 100000
open Go.RowKit
attribute [local go_sem] toList_mk mk_size
theorem join_mem (L : List (List UInt8)) : ∀ b ∈ joinL L, b = 32 ∨ ∃ t ∈ L, b ∈ t := by
  induction L with
  | nil => intro b hb; simp [joinL] at hb
  | cons t L ih =>
    intro b hb
    by_cases hL : L = []
    · subst hL; exact .inr ⟨t, by simp, by simpa [joinL] using hb⟩
    · rw [join_cons_ne _ _ hL] at hb
      rcases List.mem_append.1 hb with hb | hb
      · rcases List.mem_append.1 hb with hb | hb
        · exact .inr ⟨t, by simp, hb⟩
        · simp at hb; exact .inl hb
      · rcases ih b hb with h | ⟨x, hx, h⟩
        · exact .inl h
        · exact .inr ⟨x, List.mem_cons_of_mem _ hx, h⟩
theorem fold_ok (l : List UInt8) : ∀ b ∈ foldL l, okB b = true := by
  intro b hb
  rcases join_mem _ b hb with h | ⟨t, ht, hbt⟩
  · subst h; rfl
  · rcases toksA_mem _ [] t ht b hbt with h | h
    · simp at h
    · exact (raw_ok l).1 b h.1
theorem fold_ascii (l : List UInt8) : ascii (foldL l) := fun b hb => okB_lt (fold_ok l b hb)
theorem foldV_len {l : List UInt8} (h : foldV l = true) : l.length ≤ 64 := by
  unfold foldV at h; simp at h; exact h.2
theorem own_below {w w' : World} {B e size n : Nat} {v : Value} {xs : List Value} (h : w.ownsRow B e size v n xs) (hb : Below w.heap.size w w') : w'.ownsRow B e size v n xs := by
  refine ⟨h.1, ?_⟩
  rcases h.2 with h0 | ⟨g, cap, cur, hv, hg, hh, rest⟩
  · exact .inl h0
  · exact .inr ⟨g, cap, cur, hv, hg, (hb.block g (lt_of_blk hh)).trans hh, rest⟩
theorem TL_get {T : List (List UInt8)} (h : ∀ t ∈ T, t.length ≤ 64) (k : Nat) (hk : k < T.length) : (T.getD k []).length ≤ 64 := by
  rw [List.getD, List.getElem?_eq_getElem hk]; exact h _ (List.getElem_mem hk)
/-- a row of texts that the call owns, beside what lay in w4 -/
def OwnAt (w4 : World) (v : Value) (L : List (List UInt8)) (wr : World) : Prop :=
  wr.ownsRow w4.heap.size 9 1 v L.length (L.flatMap encS) ∧ Below w4.heap.size w4 wr
theorem OwnAt.below {w4 wr w' : World} {v : Value} {L : List (List UInt8)} (h : OwnAt w4 v L wr) (hb : Below wr.heap.size wr w') : OwnAt w4 v L w' :=
  ⟨own_below h.1 hb, h.2.trans (hb.mono h.2.size)⟩
theorem OwnAt.start (w4 : World) : OwnAt w4 (.slice none 0 0) [] w4 := ⟨⟨rfl, .inl ⟨rfl, rfl⟩⟩, Below.refl _ _⟩
theorem flat_snoc (L : List (List UInt8)) (y : List UInt8) : (L ++ [y]).flatMap encS = L.flatMap encS ++ [strV y] := by simp
set_option maxHeartbeats 4000000 in
theorem norm_yes (S : Nat → Prop) (vt vn vs : Value) (r : RulesL) (s : ByteArray) (w : World) (h : RulesAt w S vt vn vs r) (hc : checkR r = 0) (hv : foldV s.data.toList = true) :
    Calls Tryz.prog 273 #[.agg #[vt, vn, vs], .string s] w fun e w' => e = .returned (pairV (nameN r s.data.toList)) ∧ Below w.heap.size w w' := by
  have hs : s.size ≤ 64 := by
    have := foldV_len hv
    have h2 : s.data.toList.length = s.size := by simp
    omega
  obtain ⟨⟨k1, k2, k3⟩, g1, g2, g3, g4⟩ := check_zero hc
  have G2 := Lib.hid g2
  have HR := Lib.hid h.any
  have HC := Lib.hid hc; have HV := Lib.hid hv
  clear h hc hv g1 g2 g3 g4
  have hfin : nameN r s.data.toList = (if 6 < (nameToks r (toks (foldL s.data.toList))).length ∨ 64 < (joinL (nameToks r (toks (foldL s.data.toList)))).length then ([], 1) else (joinL (nameToks r (toks (foldL s.data.toList))), 0)) := by
    unfold nameN; rw [if_pos HC.out, if_pos HV.out]
  have HF := Lib.hid hfin; clear hfin
  go_enter Tryz.func273, Tryz.ntmps273
  go_wp2_with fail
  refine (rcheck_any Any1 vt vn vs r _ (HR.out.below ((Below.refl _ _).alloc (Nat.le_refl _) _))).mono ?_
  rw [HC.out]
  rintro e w1 ⟨rfl, hb1⟩
  have X1 : w1.heap[w.heap.size]? = some (.cells #[vt, vn, vs] 41 (0, 0)) := blk_below hb1 (by simp) (blk_new rfl)
  have HX1 := Lib.hid X1
  have HB1 := Lib.hid (((Below.refl w.heap.size w).alloc (Nat.le_refl _) _).trans (hb1.mono (by simp)))
  clear X1 hb1
  go_wp2_with fail
  refine (fold_yes s _ (by omega) HV.out).mono ?_
  rintro e w2 ⟨rfl, hb2⟩
  have HX2 := Lib.hid (blk_below hb2 (lt_of_blk HX1.out) HX1.out)
  have HB2 := Lib.hid (HB1.out.trans (hb2.mono HB1.out.size))
  clear hb2 HX1 HB1
  go_wp2_with fail
  have hfl : (foldL s.data.toList).length ≤ 64 := by
    have := fold_len s.data.toList
    have h2 : s.data.toList.length = s.size := by simp
    omega
  obtain ⟨fl, hfl'⟩ : ∃ fl, foldL s.data.toList = fl := ⟨_, rfl⟩
  have hasc : ascii fl := hfl' ▸ fold_ascii _
  have HA := Lib.hid hasc
  rw [hfl'] at hfl HF ⊢
  clear hasc hfl'
  refine (tokens_any fl _ HA.out (by omega)).mono ?_
  rintro e w4 ⟨A, rfl, hA, ho, hb4⟩
  have HX4 := Lib.hid (blk_below hb4 (lt_of_blk HX2.out) HX2.out)
  have HB4 := Lib.hid (HB2.out.trans (hb4.mono HB2.out.size))
  have hV := Vec.owns (S := Any1) (k := 1) (enc := encS) (fun _ => rfl) ho (fun _ _ _ => trivial)
  have htl : ∀ t ∈ toks fl, t.length ≤ 64 := fun t ht => by have := toks_le fl [] t ht; simp at this; omega
  have htn : (toks fl).length ≤ 65 := by have := (toksA_len fl []).2.1; unfold toks; omega
  obtain ⟨T, hT⟩ : ∃ T, toks fl = T := ⟨_, rfl⟩
  rw [hT] at hV htl htn HF ⊢
  have HV4 := Lib.hid hV; have HTL := Lib.hid htl
  clear hb4 HX2 HB2 ho hV hT htl hA
  go_wp2_with fail
  go_loopw [9, 29] (fun v i wr => ∃ k : Nat, k ≤ T.length ∧ i = .int .i64 k ∧ OwnAt w4 v (nameToks r (T.take k)) wr) (fun _ i _ => T.length - (intOf i).toNat)
  case atStart => exact ⟨0, by omega, rfl, OwnAt.start w4⟩
  case round =>
    obtain ⟨k, hk, rfl, ho⟩ := hrel
    by_cases hlt : k < T.length
    · have hq : decide ((k : Int) < T.length) = true := by simp; omega
      have hi : (k : Int) < (T.length : Int) := by omega
      obtain ⟨b, off, e1, _, hb, hcx⟩ := vec_cell1 HV4.out (by omega)
      cases e1
      have htk : T.take (k + 1) = T.take k ++ [T.getD k []] := by
        rw [List.take_succ_eq_append_getElem hlt, List.getD, List.getElem?_eq_getElem hlt]; rfl
      have hxl : (T.getD k []).length ≤ 64 := TL_get HTL.out k hlt
      have hcx' := hcx k hlt
      obtain ⟨x, hx⟩ : ∃ x, T.getD k [] = x := ⟨_, rfl⟩
      rw [hx] at htk hxl hcx'
      have c1 : wr.cell? ⟨A, k, none⟩ = some (strV x) := by
        have := (ho.2.cell (p := ⟨A, 0 + k, none⟩) hb).trans hcx'
        simpa using this
      have HT := Lib.hid htk; have HO := Lib.hid ho
      have hnl := nameToks_len r (T.take k)
      have hnl2 : (nameToks r (T.take k)).length < 1099511627776 := by have := List.length_take_le k T; omega
      clear hx htk hcx hcx' ho hnl
      go_wp2_with fail
      refine (letters_any (mkS x) _ (by rw [show (mkS x).size = x.length from mk_size x]; omega)).mono ?_
      rw [show (mkS x).data.toList = x by simp [mkS]]
      rintro e w5 ⟨rfl, hb5⟩
      have HO5 := Lib.hid (HO.out.below hb5)
      have hX5 := blk_below (HO5.out.2) (lt_of_blk HX4.out) HX4.out
      clear HO hb5
      have HNT := Lib.hid (show normTok r x = if (lettersL x).isEmpty || hasB r.titles (lettersL x) then [] else [canonL r.nicks (lettersL x)] from rfl)
      have hyl := letters_len x
      obtain ⟨y, hy⟩ : ∃ y, lettersL x = y := ⟨_, rfl⟩
      rw [hy] at HNT hyl ⊢
      clear hy
      have HX5 := Lib.hid hX5
      obtain ⟨p0, p1, p2⟩ := cells3 hX5
      clear hX5
      by_cases hye : y = []
      · have e1 : (y == []) = true := by simpa using hye
        have e2 : y.isEmpty = true := by simpa using hye
        have HN := Lib.hid (show normTok r x = [] by rw [HNT.out, e2]; rfl)
        clear hye HNT
        go_wp2_with fail
        go_roundw
        case rel => exact ⟨k + 1, by omega, by go_num, by rw [HT.out, nameToks_snoc, HN.out, List.append_nil]; exact HO5.out⟩
        case measure => simp [intOf]; omega
      · have e1 : (y == []) = false := by simpa using hye
        have e2 : y.isEmpty = false := by simpa using hye
        rw [e2, Bool.false_or] at HNT
        clear hye
        go_wp2_with fail
        refine (dropped_any Any1 vt vn vs r.titles y _ (HR.out.1.below (HB4.out.trans (HO5.out.2.mono HB4.out.size))) (by omega)).mono ?_
        rintro e w6 ⟨rfl, hb6⟩
        have HO6 := Lib.hid (HO5.out.below hb6)
        have hX6 := blk_below hb6 (lt_of_blk HX5.out) HX5.out
        clear p0 p1 p2 HX5 hb6 HO5
        obtain ⟨p0, p1, p2⟩ := cells3 hX6
        have HX6 := Lib.hid hX6; clear hX6
        cases hd : hasB r.titles y
        · have HN := Lib.hid (show normTok r x = [canonL r.nicks y] by rw [HNT.out, hd]; rfl)
          clear hd HNT
          go_wp2_with fail
          refine (canonical_any Any1 vt vn vs r.nicks y _ (HR.out.2.1.below (HB4.out.trans (HO6.out.2.mono HB4.out.size))) (by omega)).mono ?_
          rintro e w7 ⟨rfl, hb7⟩
          have HO7 := Lib.hid (HO6.out.below hb7)
          clear p0 p1 p2 HX6 hb7 HO6
          obtain ⟨z, hz⟩ : ∃ z, canonL r.nicks y = z := ⟨_, rfl⟩
          rw [hz] at HN ⊢
          clear hz
          have hbz : w4.heap.size ≤ w7.heap.size := HO7.out.2.size
          go_wp2_with (at_builtin; refine wpList_append_new rfl _ _ 27 rfl w4.heap.size 9 1 16 (.string ⟨#[]⟩) Tryz.underlying27 infoS rfl (by decide) (by decide) _ _ _ rfl HO7.out.1 #[strV z] 1 rfl rfl (by simp [Value.oneCell']) hnl2 hbz ?_; intro v2 w8 ho8 hw8)
          go_roundw
          case rel => exact ⟨k + 1, by omega, by go_num, by rw [HT.out, nameToks_snoc, HN.out]; exact ⟨by rw [List.length_append, flat_snoc]; exact ho8, hw8 _ HO7.out.2⟩⟩
          case measure => simp [intOf]; omega
        · have HN := Lib.hid (show normTok r x = [] by rw [HNT.out, hd]; rfl)
          clear hd HNT
          go_wp2_with fail
          go_roundw
          case rel => exact ⟨k + 1, by omega, by go_num, by rw [HT.out, nameToks_snoc, HN.out, List.append_nil]; exact HO6.out⟩
          case measure => simp [intOf]; omega
    · have hq : decide ((k : Int) < T.length) = false := by simp; omega
      rw [List.take_of_length_le (by omega)] at ho
      have HV5 := Lib.hid (Vec.owns (S := Any1) (k := 1) (enc := encS) (fun _ => rfl) ho.1 (fun _ _ _ => trivial))
      have HW := Lib.hid (HB4.out.trans (ho.2.mono HB4.out.size))
      have hnl := nameToks_len r T
      have hjl := join_le (nameToks r T) (nameToks_le G2.out HTL.out)
      clear ho
      obtain ⟨N, hN⟩ : ∃ N, nameToks r T = N := ⟨_, rfl⟩
      rw [hN] at HV5 hnl hjl HF
      clear hN
      have hjb : (joinL N).length ≤ 1000000 := by
        have : N.length * 65 ≤ 65 * 65 := Nat.mul_le_mul_right 65 (by omega)
        omega
      clear hjl
      obtain ⟨av, cv, rfl⟩ := HV5.out.slice
      go_wp2_with fail
      refine (join_any Any1 _ N _ HV5.out (by omega) (by omega)).mono ?_
      rintro e w9 ⟨rfl, hb9⟩
      have HW9 := Lib.hid (HW.out.trans (hb9.mono HW.out.size)); clear hb9
      obtain ⟨J, hJ⟩ : ∃ J, joinL N = J := ⟨_, rfl⟩
      rw [hJ] at HF hjb ⊢
      clear hJ
      by_cases g1 : 6 < N.length
      · have d1 : decide ((6 : Int) < N.length) = true := by simp; omega
        rw [if_pos (.inl g1)] at HF
        go_wp2_with fail
        go_ret2
        exact ⟨by rw [HF.out]; rfl, HW9.out⟩
      · have d1 : decide ((6 : Int) < N.length) = false := by simp; omega
        by_cases g2 : 64 < J.length
        · have d2 : decide ((64 : Int) < J.length) = true := by simp; omega
          rw [if_pos (.inr g2)] at HF
          go_wp2_with fail
          go_ret2
          exact ⟨by rw [HF.out]; rfl, HW9.out⟩
        · have d2 : decide ((64 : Int) < J.length) = false := by simp; omega
          rw [if_neg (by omega)] at HF
          go_wp2_with fail
          go_ret2
          exact ⟨by rw [HF.out]; rfl, HW9.out⟩
set_option maxHeartbeats 1000000 in
theorem norm_no (S : Nat → Prop) (vt vn vs : Value) (r : RulesL) (s : ByteArray) (w : World) (h : RulesAt w S vt vn vs r) (hs : s.size ≤ 9223372036854775000) (hc : checkR r = 0) (hv : foldV s.data.toList = false) :
    Calls Tryz.prog 273 #[.agg #[vt, vn, vs], .string s] w fun e w' => e = .returned (pairV (nameN r s.data.toList)) ∧ Below w.heap.size w w' := by
  have HR := Lib.hid h.any
  have HC := Lib.hid hc; have HV := Lib.hid hv
  clear h hc hv
  have HF := Lib.hid (show nameN r s.data.toList = ([], 3) by unfold nameN; rw [if_pos HC.out, if_neg (by rw [HV.out]; simp)])
  go_enter Tryz.func273, Tryz.ntmps273
  go_wp2_with fail
  refine (rcheck_any Any1 vt vn vs r _ (HR.out.below ((Below.refl _ _).alloc (Nat.le_refl _) _))).mono ?_
  rw [HC.out]
  rintro e w1 ⟨rfl, hb1⟩
  have HB1 := Lib.hid (((Below.refl w.heap.size w).alloc (Nat.le_refl _) _).trans (hb1.mono (by simp)))
  clear hb1
  go_wp2_with fail
  refine (fold_no s _ hs HV.out).mono ?_
  rintro e w2 ⟨rfl, hb2⟩
  have HB2 := Lib.hid (HB1.out.trans (hb2.mono HB1.out.size))
  clear hb2 HB1
  go_wp2_with fail
  go_ret2
  exact ⟨by rw [HF.out]; rfl, HB2.out⟩
set_option maxHeartbeats 1000000 in
theorem norm_bad (S : Nat → Prop) (vt vn vs : Value) (r : RulesL) (s : ByteArray) (w : World) (h : RulesAt w S vt vn vs r) (hc : checkR r ≠ 0) :
    Calls Tryz.prog 273 #[.agg #[vt, vn, vs], .string s] w fun e w' => e = .returned (pairV (nameN r s.data.toList)) ∧ Below w.heap.size w w' := by
  have HR := Lib.hid h.any
  have HF := Lib.hid (show nameN r s.data.toList = ([], checkR r) by unfold nameN; rw [if_neg hc])
  have hne : (checkR r != 0) = true := by simpa using hc
  clear h hc
  go_enter Tryz.func273, Tryz.ntmps273
  go_wp2_with fail
  refine (rcheck_any Any1 vt vn vs r _ (HR.out.below ((Below.refl _ _).alloc (Nat.le_refl _) _))).mono ?_
  obtain ⟨c, hcc⟩ : ∃ c, checkR r = c := ⟨_, rfl⟩
  rw [hcc] at hne HF ⊢
  clear hcc
  rintro e w1 ⟨rfl, hb1⟩
  have HB1 := Lib.hid (((Below.refl w.heap.size w).alloc (Nat.le_refl _) _).trans (hb1.mono (by simp)))
  clear hb1
  go_wp2_with fail
  go_ret2
  exact ⟨by rw [HF.out]; rfl, HB1.out⟩
theorem norm_any (S : Nat → Prop) (vt vn vs : Value) (r : RulesL) (s : ByteArray) (w : World) (h : RulesAt w S vt vn vs r) (hs : s.size ≤ 9223372036854775000) :
    Calls Tryz.prog 273 #[.agg #[vt, vn, vs], .string s] w fun e w' => e = .returned (pairV (nameN r s.data.toList)) ∧ Below w.heap.size w w' := by
  by_cases hc : checkR r = 0
  · cases hv : foldV s.data.toList with
    | true => exact norm_yes S vt vn vs r s w h hc hv
    | false => exact norm_no S vt vn vs r s w h hs hc hv
  · exact norm_bad S vt vn vs r s w h hc
/-- is a text its own normal form -/
def isOwn (p : List UInt8 × Int) (l : List UInt8) : Bool := bif p.2 == 0 then p.1 == l else false
set_option maxHeartbeats 1000000 in
theorem normal_any (S : Nat → Prop) (vt vn vs : Value) (r : RulesL) (s : ByteArray) (w : World) (h : RulesAt w S vt vn vs r) (hs : s.size ≤ 9223372036854775000) :
    Calls Tryz.prog 274 #[.agg #[vt, vn, vs], .string s] w fun e w' => e = .returned (.bool (isOwn (nameN r s.data.toList) s.data.toList)) ∧ Below w.heap.size w w' := by
  have HR := Lib.hid h.any; clear h
  have HS := Lib.hid (Lib.toList_data s)
  go_enter Tryz.func274, Tryz.ntmps274
  go_wp2_with fail
  refine (norm_any Any1 vt vn vs r s _ (HR.out.below ((Below.refl _ _).alloc (Nat.le_refl _) _)) hs).mono ?_
  obtain ⟨p, hp⟩ : ∃ p, nameN r s.data.toList = p := ⟨_, rfl⟩
  rw [hp]
  have HP := Lib.hid hp; clear hp
  obtain ⟨pl, pe⟩ := p
  unfold pairV
  rintro e w1 ⟨rfl, hb1⟩
  have HB1 := Lib.hid (((Below.refl w.heap.size w).alloc (Nat.le_refl _) _).trans (hb1.mono (by simp)))
  clear hb1
  cases he : (pe == 0)
  all_goals
    go_wp2_with fail
    go_ret
    refine ⟨ret_bool ?_, HB1.out⟩
    rw [HP.out]
    simp [isOwn, he, HS.out]
end
section
set_option maxRecDepth 100000
open Go.RowKit
attribute [local go_sem] toList_mk mk_size
def numB : List UInt8 → Bool
  | c :: _ => isDgt c
  | [] => false
@[local go_sem] theorem get_zero (c : UInt8) (l : List UInt8) (h : 0 < (⟨(c :: l).toArray⟩ : ByteArray).size) : (⟨(c :: l).toArray⟩ : ByteArray)[0]'h = c := rfl
set_option maxHeartbeats 400000 in
theorem numeral_any (l : List UInt8) (w : World) :
    Calls Tryz.prog 232 #[strV l] w fun e w' => e = .returned (.bool (numB l)) ∧ w = w' := by
  cases l with
  | nil =>
    go_enter Tryz.func232, Tryz.ntmps232
    go_wp2
    go_ret
    exact ⟨rfl, rfl⟩
  | cons c l =>
    have HD := Lib.hid (dig_iff c)
    go_enter Tryz.func232, Tryz.ntmps232
    go_wp2
    all_goals
      go_ret
      exact ⟨ret_bool (by rw [show numB (c :: l) = isDgt c from rfl, HD.out]; simp; try omega), rfl⟩
/-- a number without the noughts ahead of it -/
def shortL (l : List UInt8) : List UInt8 := if numB (l.dropWhile (· == 48)) = true then l.dropWhile (· == 48) else 48 :: l.dropWhile (· == 48)
@[local go_sem] theorem nought_append (b : List UInt8) : (⟨#[48]⟩ : ByteArray) ++ ⟨b.toArray⟩ = ⟨(48 :: b).toArray⟩ := by
  apply ByteArray.ext; simp
theorem dropWhile_len (p : UInt8 → Bool) (l : List UInt8) : (l.dropWhile p).length ≤ l.length := by
  induction l with
  | nil => simp
  | cons c l ih => rw [List.dropWhile_cons]; split <;> simp; omega
theorem short_len (l : List UInt8) : (shortL l).length ≤ l.length + 1 := by
  have := dropWhile_len (· == 48) l
  unfold shortL; split <;> simp <;> omega
set_option maxHeartbeats 400000 in
theorem short_any (l : List UInt8) (w : World) (hl : l.length ≤ 1000000) :
    Calls Tryz.prog 300 #[strV l] w fun e w' => e = .returned (strV (shortL l)) ∧ w = w' := by
  have ht := Tryz.strings_TrimLeft_one (mkS l) 48 (by decide) w
  rw [show (mkS l).data.toList = l by simp [mkS]] at ht
  have HT := Lib.hid ht; clear ht
  have hfin : shortL l = if numB (Lib.trimLeftB l 48) = true then Lib.trimLeftB l 48 else 48 :: Lib.trimLeftB l 48 := rfl
  have hlen : (Lib.trimLeftB l 48).length ≤ l.length := dropWhile_len _ l
  obtain ⟨r, hr⟩ : ∃ r, Lib.trimLeftB l 48 = r := ⟨_, rfl⟩
  rw [hr] at HT hfin hlen
  have HF := Lib.hid hfin; clear hfin hr
  go_enter Tryz.func300, Tryz.ntmps300
  go_wp2_with fail
  refine HT.out.mono ?_
  rintro e w1 ⟨rfl, hw⟩
  subst hw
  go_wp2_with fail
  refine (numeral_any r _).mono ?_
  rintro e w1 ⟨rfl, rfl⟩
  cases hn : numB r
  · rw [if_neg (by rw [hn]; simp)] at HF
    have hsz : ¬ (9223372036854775807 : Int) < ((r.length + 1 : Nat) : Int) := by omega
    go_wp2_with fail
    go_ret
    exact ⟨by rw [HF.out]; rfl, rfl⟩
  · rw [if_pos hn] at HF
    go_wp2_with fail
    go_ret
    exact ⟨by rw [HF.out]; rfl, rfl⟩
end
section
set_option maxRecDepth 100000
open Go.RowKit
attribute [local go_sem] toList_mk mk_size
/-- append(s, x), with word of where the new slice lies -/
theorem wpList_append_newat {P : Program} {w : World} {ops : Array Oper} {rest : List Oper} {o : Oper} {a : Act} {Q : Exit → Act → World → Prop} (hgd : o.guard = none) (s x : Operand) (t : TypeId)
    (ho : o.op = .call { callee := .builtin .append, args := #[s, x], argTypes := #[t, t] })
    (base : Nat) (e : TypeId) (size bytes : Nat) (z : Value) (ht : P.underlying t = some (.slice e)) (hinfo : (P.info? e).map (fun i => (i.zero, i.size, i.bytes)) = some (some z, size, bytes))
    (hzs : z.cells.size = size) (hsz : 0 < size) (hby : bytes ≤ 128)
    (v : Value) (n : Nat) (xs : List Value) (hs : a.eval s = v) (hown : w.ownsRow base e size v n xs)
    (cs : Array Value) (c : Nat) (hx : a.eval x = .slice (some ⟨w.heap.size, 0, none⟩) 1 c) (hcs : cs.size = size) (h1 : ∀ u ∈ cs.toList, u.oneCell' = true)
    (hn : n < 1099511627776) (hbase : base ≤ w.heap.size)
    (h : ∀ v' w', w'.ownsRow base e size v' (n + 1) (xs ++ cs.toList) → (w.alloc (.cells cs e)).grownBy w' v.ownBlock → (v'.ownBlock = v.ownBlock ∨ v'.ownBlock = some (w.heap.size + 1)) → (∀ W, Below base W w → Below base W w') → wpList P ops Q rest (a.put o.dst v') w') :
    wpList P ops Q (o :: rest) a (w.alloc (.cells cs e)) := by
  obtain ⟨i, hi, hz, h2, h3⟩ := info_parts hinfo
  refine wpList_append_own_at _ hgd s x t ho base e i z size bytes ht hi hz h2 h3 hzs hsz v n xs hs (hown.alloc _) ⟨w.heap.size, 0, none⟩ 1 c cs.toList hx (by simp [hcs]) ?_ h1 (size_le_maxLen (by omega)) ?_ (by simp; omega) ?_
  · intro j u hu
    have : (⟨w.heap.size, 0, none⟩ : Addr).add j = ⟨w.heap.size, j, none⟩ := by unfold Addr.add; split <;> simp_all
    rw [this, cell_of_row _ _ _ _ _ _ (heap_alloc_new w _)]
    simpa using hu
  · exact Nat.le_trans (Nat.mul_le_mul (Nat.le_of_lt_succ (by omega : n + 1 < 1099511627776 + 1)) hby) (by decide)
  · intro v' w' ho' hg _ hat
    refine h v' w' ho' hg (by simpa using hat) fun W hW => (hW.alloc hbase _).grown hg (by simp; omega) ?_
    intro k hk
    exact (hown.lt k hk).1
/-- two rows of texts that the call owns, each by itself -/
def TwoAt (w : World) (u v : Value) (Y N : List (List UInt8)) (wr : World) : Prop :=
  wr.ownsRow w.heap.size 9 1 u Y.length (Y.flatMap encS) ∧ wr.ownsRow w.heap.size 9 1 v N.length (N.flatMap encS) ∧ (∀ g, u.ownBlock = some g → v.ownBlock ≠ some g) ∧ Below w.heap.size w wr
theorem TwoAt.below {w wr w' : World} {u v : Value} {Y N : List (List UInt8)} (h : TwoAt w u v Y N wr) (hb : Below wr.heap.size wr w') : TwoAt w u v Y N w' :=
  ⟨own_below h.1 hb, own_below h.2.1 hb, h.2.2.1, h.2.2.2.trans (hb.mono h.2.2.2.size)⟩
theorem TwoAt.swap {w wr : World} {u v : Value} {Y N : List (List UInt8)} (h : TwoAt w u v Y N wr) : TwoAt w v u N Y wr :=
  ⟨h.2.1, h.1, fun g hv hu => h.2.2.1 g hu hv, h.2.2.2⟩
theorem own_kept {w w' : World} {B e size n : Nat} {v : Value} {xs : List Value} {row : Option Nat} (h : w.ownsRow B e size v n xs) (hg : w.grownBy w' row) (hr : ∀ g, v.ownBlock = some g → row ≠ some g) : w'.ownsRow B e size v n xs := by
  refine ⟨h.1, ?_⟩
  rcases h.2 with h0 | ⟨g, cap, cur, hv, hg', hh, rest⟩
  · exact .inl h0
  · exact .inr ⟨g, cap, cur, hv, hg', (hg.block g (lt_of_blk hh) (fun e => hr g (by rw [hv]; rfl) e.symm)).trans hh, rest⟩
theorem TwoAt.put {w wr w2 : World} {u v u2 : Value} {Y N : List (List UInt8)} {y : List UInt8} (h : TwoAt w u v Y N wr) (ho : w2.ownsRow w.heap.size 9 1 u2 (Y.length + 1) (Y.flatMap encS ++ [strV y]))
    (hg : (wr.alloc (.cells #[strV y] 9)).grownBy w2 u.ownBlock) (hat : u2.ownBlock = u.ownBlock ∨ u2.ownBlock = some (wr.heap.size + 1)) (hw : ∀ W, Below w.heap.size W wr → Below w.heap.size W w2) : TwoAt w u2 v (Y ++ [y]) N w2 := by
  obtain ⟨h1, h2, h3, h4⟩ := h
  refine ⟨by rw [List.length_append, flat_snoc]; exact ho, own_kept (h2.alloc _) hg (fun g hv hu => h3 g hu hv), fun g hu hv => ?_, hw _ h4⟩
  rcases hat with hat | hat
  · exact h3 g (by rw [← hat]; exact hu) hv
  · rw [hat] at hu
    have := (h2.lt g hv).2
    injection hu with hu
    omega
theorem TwoAt.start (w : World) : TwoAt w (.slice none 0 0) (.slice none 0 0) [] [] w := ⟨⟨rfl, .inl ⟨rfl, rfl⟩⟩, ⟨rfl, .inl ⟨rfl, rfl⟩⟩, (fun g h => by simp [Value.ownBlock] at h), Below.refl _ _⟩
def PartPost (L : List (List UInt8)) (w : World) (e : Ending) (w' : World) : Prop := ∃ u v, e = .returned (.tuple #[u, v]) ∧ TwoAt w u v (L.filter numB) (L.filter fun x => !numB x) w'
theorem filter_snoc_yes {p : List UInt8 → Bool} (L : List (List UInt8)) (x : List UInt8) (h : p x = true) : (L ++ [x]).filter p = L.filter p ++ [x] := by simp [h]
theorem filter_snoc_no {p : List UInt8 → Bool} (L : List (List UInt8)) (x : List UInt8) (h : p x = false) : (L ++ [x]).filter p = L.filter p := by simp [h]
theorem take_snocT (T : List (List UInt8)) (k : Nat) (h : k < T.length) : T.take (k + 1) = T.take k ++ [T.getD k []] := by
  rw [List.take_succ_eq_append_getElem h, List.getD, List.getElem?_eq_getElem h]; rfl
set_option maxHeartbeats 2000000 in
theorem part_any (S : Nat → Prop) (v : Value) (L : List (List UInt8)) (w : World) (h : Vec w S 1 encS v L) (hn : L.length ≤ 1000000) :
    Calls Tryz.prog 231 #[v, .func (.func 232) #[] #[]] w (PartPost L w) := by
  obtain ⟨a, cap, rfl⟩ := h.slice
  have HV := Lib.hid h; clear h
  go_enter Tryz.func231, Tryz.ntmps231
  go_wp2_with fail
  go_loopw [4, 5, 10] (fun y n i wr => ∃ k : Nat, k ≤ L.length ∧ i = .int .i64 k ∧ TwoAt w y n ((L.take k).filter numB) ((L.take k).filter fun x => !numB x) wr) (fun _ _ i _ => L.length - (intOf i).toNat)
  case atStart => exact ⟨0, by omega, rfl, TwoAt.start w⟩
  case round =>
    obtain ⟨k, hk, rfl, ho⟩ := hrel
    have HO := Lib.hid ho; clear ho
    by_cases hlt : k < L.length
    · have hq : decide ((k : Int) < L.length) = true := by simp; omega
      have hi : (k : Int) < (L.length : Int) := by omega
      obtain ⟨b, off, rfl, _, hb, hcx⟩ := vec_cell1 HV.out (by omega)
      have htk := take_snocT L k hlt
      have hcx' := hcx k hlt
      obtain ⟨x, hx⟩ : ∃ x, L.getD k [] = x := ⟨_, rfl⟩
      rw [hx] at htk hcx'
      have c1 : wr.cell? ⟨b, off + k, none⟩ = some (strV x) := (HO.out.2.2.2.cell (p := ⟨b, off + k, none⟩) hb).trans hcx'
      have HT := Lib.hid htk
      have l1 : ((L.take k).filter numB).length < 1099511627776 := by have := List.length_filter_le numB (L.take k); have := List.length_take_le k L; omega
      have l2 : ((L.take k).filter fun x => !numB x).length < 1099511627776 := by have := List.length_filter_le (fun x => !numB x) (L.take k); have := List.length_take_le k L; omega
      have hbz : w.heap.size ≤ wr.heap.size := HO.out.2.2.2.size
      clear hx htk hcx hcx'
      go_wp2_with fail
      refine (numeral_any x _).mono ?_
      rintro e w1 ⟨rfl, rfl⟩
      cases hd : numB x
      · have F1 := Lib.hid (filter_snoc_no (p := numB) (L.take k) x hd)
        have F2 := Lib.hid (filter_snoc_yes (p := fun x => !numB x) (L.take k) x (by simp [hd]))
        clear hd
        go_wp2_with (at_builtin; refine wpList_append_newat rfl _ _ 27 rfl w.heap.size 9 1 16 (.string ⟨#[]⟩) Tryz.underlying27 infoS rfl (by decide) (by decide) _ _ _ rfl HO.out.2.1 #[strV x] 1 rfl rfl (by simp [Value.oneCell']) l2 hbz ?_; intro v2 w8 ho8 hg8 hat8 hw8)
        go_roundw
        case rel => exact ⟨k + 1, by omega, by go_num, by rw [HT.out, F1.out, F2.out]; exact (HO.out.swap.put ho8 hg8 hat8 hw8).swap⟩
        case measure => simp [intOf]; omega
      · have F1 := Lib.hid (filter_snoc_yes (p := numB) (L.take k) x hd)
        have F2 := Lib.hid (filter_snoc_no (p := fun x => !numB x) (L.take k) x (by simp [hd]))
        clear hd
        go_wp2_with (at_builtin; refine wpList_append_newat rfl _ _ 27 rfl w.heap.size 9 1 16 (.string ⟨#[]⟩) Tryz.underlying27 infoS rfl (by decide) (by decide) _ _ _ rfl HO.out.1 #[strV x] 1 rfl rfl (by simp [Value.oneCell']) l1 hbz ?_; intro v2 w8 ho8 hg8 hat8 hw8)
        go_roundw
        case rel => exact ⟨k + 1, by omega, by go_num, by rw [HT.out, F1.out, F2.out]; exact HO.out.put ho8 hg8 hat8 hw8⟩
        case measure => simp [intOf]; omega
    · have hq : decide ((k : Int) < L.length) = false := by simp; omega
      rw [List.take_of_length_le (by omega)] at HO
      go_wp2_with fail
      go_ret2
      exact ⟨_, _, rfl, HO.out⟩
end
section
set_option maxRecDepth 100000
open Go.RowKit
attribute [local go_sem] toList_mk mk_size
theorem idxP_any (p : P2 → Bool) (g : Nat) (lb : Array Value) (eg : ∀ args w, (callFunc g args).run Tryz.prog w = .ok (.enter g args) w) (S : Nat → Prop) (v : Value) (L : List P2) (w : World) (h : Vec w S 2 encP v L) (hn : L.length ≤ 1000000) (hp : PredBelow Tryz.prog g lb (fun x => .agg (encP x).toArray) p w) :
    Calls Tryz.prog 213 #[v, .func (.func g) #[] lb] w fun e w' => e = .returned (.int .i64 (Lib.idxBy (fun _ (y : P2) => p y) L default)) ∧ Below w.heap.size w w' := by
  obtain ⟨a, cap, rfl, hcap, h0⟩ := h
  by_cases hz : L = []
  · subst hz
    exact (idxP_nil a cap _ w).mono fun e w' ⟨he, hw⟩ => ⟨he, by rw [← hw]; exact Below.refl _ _⟩
  · obtain ⟨b, off, rfl, _, hb, hc⟩ := h0 (List.length_pos_iff.2 hz)
    have hcon := AnyQ.slices_IndexFunc Tryz.laysIP 2 Tryz.isAgg151 Tryz.sizeOf151 encP (fun _ => rfl) p g lb eg b off L.length cap L w hp (Nat.le_refl _) (by omega) hb (fun j hj i u hi => by
        have e : L[j]? = some L[j]! := by rw [List.getElem?_eq_getElem hj, getElem!_pos L j hj]
        exact hc j _ e i u hi)
    rw [List.take_of_length_le (Nat.le_refl _)] at hcon
    exact hcon
theorem pred_addr (s : List UInt8) (B : Nat) (w : World) (hB : B < w.heap.size) (hcell : w.cell? ⟨B, 0, none⟩ = some (strV s)) :
    PredBelow Tryz.prog 299 #[.pointer (some ⟨B, 0, none⟩)] (fun x => .agg (encP x).toArray) (fun x => x.1 == s) w := fun W x hb => by
  have hc : W.cell? ⟨B, 0, none⟩ = some (strV s) := (hb.cell (p := ⟨B, 0, none⟩) hB).trans hcell
  have hBW : B < W.heap.size := Nat.lt_of_lt_of_le hB hb.size
  have hne : B ≠ W.heap.size := by omega
  have HBb := Lib.hid hb; clear hb hcell
  show Calls Tryz.prog 299 #[.agg #[strV x.1, strV x.2], .pointer (some ⟨B, 0, none⟩)] W _
  go_enter Tryz.func299, Tryz.ntmps299
  go_wp2
  go_ret
  exact ⟨rfl, HBb.out.alloc HBb.out.size _⟩
/-- a block that holds just these texts -/
def RowB (w : World) (A : Nat) (L : List (List UInt8)) : Prop := w.heap[A]? = some (.cells (L.flatMap encS).toArray 9 (0, 0))
theorem own_block {w : World} {B A n : Nat} {L : List (List UInt8)} (h : w.ownsRow B 9 1 (.slice (some ⟨A, 0, none⟩) n n) n (L.flatMap encS)) : B ≤ A ∧ RowB w A L := by
  rcases h.2 with ⟨h0, _⟩ | ⟨g, cap, cur, hv, hg, hh, hn, hc, hsz, ht⟩
  · cases h0
  · cases hv
    refine ⟨hg, ?_⟩
    rw [List.take_of_length_le (by simp [hsz])] at ht
    unfold RowB
    rw [hh, ← ht]
theorem flat_len1 (L : List (List UInt8)) : (L.flatMap encS).length = L.length := by rw [flat_len (k := 1) (fun _ => rfl)]; omega
theorem flat_get1 (L : List (List UInt8)) (j : Nat) (hj : j < L.length) : (L.flatMap encS)[j]? = some (strV (L.getD j [])) := by
  have := flat_get (k := 1) (enc := encS) (fun _ => rfl) L j L[j] (List.getElem?_eq_getElem hj) 0 (by omega)
  rw [List.getD, List.getElem?_eq_getElem hj]
  simpa using this
theorem RowB.cell {w : World} {A : Nat} {L : List (List UInt8)} (h : RowB w A L) (j : Nat) (hj : j < L.length) : w.cell? ⟨A, j, none⟩ = some (strV (L.getD j [])) := by
  rw [cell_of_row _ _ _ _ _ _ h, List.getElem?_toArray]
  exact flat_get1 L j hj
theorem RowB.vec {w : World} {A : Nat} {L : List (List UInt8)} (h : RowB w A L) (cap : Nat) (hc : L.length ≤ cap) : Vec w Any1 1 encS (.slice (some ⟨A, 0, none⟩) L.length cap) L :=
  ⟨_, cap, rfl, hc, fun _ => ⟨A, 0, rfl, trivial, lt_of_blk h, fun j x hj i u hu => by
    have hj' : j < L.length := (List.getElem?_eq_some_iff.1 hj).1
    have hi : i = 0 := by
      cases i with
      | zero => rfl
      | succ i => simp [encS] at hu
    subst hi
    have := h.cell j hj'
    rw [List.getD, hj] at this
    simp [encS] at hu
    subst hu
    simpa using this⟩⟩
theorem flat_set (L : List (List UInt8)) (k : Nat) (y : List UInt8) : (L.set k y).flatMap encS = (L.flatMap encS).set k (strV y) := by
  induction L generalizing k with
  | nil => rfl
  | cons x L ih =>
    cases k with
    | zero => rfl
    | succ k => rw [List.set_cons_succ, List.flatMap_cons, List.flatMap_cons, ih]; rfl
theorem RowB.set {w : World} {A : Nat} {L : List (List UInt8)} (h : RowB w A L) (k : Nat) (y : List UInt8) : RowB (w.setCell ⟨A, k, none⟩ (strV y)) A (L.set k y) := by
  have := blk_set (i := k) (v := strV y) h
  unfold RowB
  rw [this, flat_set]
  simp
/-- what becomes of a token of an address -/
def addrTok (r : RulesL) (x : List UInt8) : List UInt8 := if numB x = true then shortL x else canonL r.streets x
def midL (f : List UInt8 → List UInt8) (T : List (List UInt8)) (k : Nat) : List (List UInt8) := (T.take k).map f ++ T.drop k
theorem mid_len (f : List UInt8 → List UInt8) (T : List (List UInt8)) (k : Nat) (hk : k ≤ T.length) : (midL f T k).length = T.length := by
  unfold midL; simp; omega
theorem mid_get (f : List UInt8 → List UInt8) (T : List (List UInt8)) (k : Nat) (hk : k < T.length) : (midL f T k).getD k [] = T.getD k [] := by
  unfold midL
  rw [List.getD, List.getElem?_append_right (by simp; omega), List.getElem?_drop, List.getD]
  congr 2
  simp; omega
theorem mid_set (f : List UInt8 → List UInt8) (T : List (List UInt8)) (k : Nat) (hk : k < T.length) (y : List UInt8) (hy : f (T.getD k []) = y) : (midL f T k).set k y = midL f T (k + 1) := by
  unfold midL
  have e : T.drop k = T.getD k [] :: T.drop (k + 1) := by
    rw [List.getD, List.getElem?_eq_getElem hk]; exact List.drop_eq_getElem_cons hk
  rw [take_snocT T k hk, e, List.set_append_right _ _ (by simp; omega)]
  have : k - ((T.take k).map f).length = 0 := by simp; omega
  rw [this, List.set_cons_zero, List.map_append, List.append_assoc, ← hy]
  rfl
theorem mid_same (f : List UInt8 → List UInt8) (T : List (List UInt8)) (k : Nat) (hk : k < T.length) (hy : f (T.getD k []) = T.getD k []) : midL f T k = midL f T (k + 1) := by
  unfold midL
  have e : T.drop k = T.getD k [] :: T.drop (k + 1) := by
    rw [List.getD, List.getElem?_eq_getElem hk]; exact List.drop_eq_getElem_cons hk
  rw [take_snocT T k hk, e, List.map_append, List.append_assoc, List.map_cons, List.map_nil, hy]
  rfl
end
section
set_option maxRecDepth 100000
open Go.RowKit
attribute [local go_sem] toList_mk mk_size
@[local go_sem] theorem str_append (a b : List UInt8) : (⟨a.toArray⟩ : ByteArray) ++ ⟨b.toArray⟩ = ⟨(a ++ b).toArray⟩ := by
  apply ByteArray.ext; simp
def SomeBool (D : Nat) (w : World) (e : Ending) (w' : World) : Prop := ∃ b : Bool, e = .returned (.bool b) ∧ Moved D w w'
def SomeText (D N : Nat) (w : World) (e : Ending) (w' : World) : Prop := ∃ l : List UInt8, e = .returned (strV l) ∧ l.length ≤ N ∧ Moved D w w'
set_option maxHeartbeats 400000 in
theorem one_any (D : Nat) (w : World) (k : Int) (h : DeckAt w D) (hk : 1 ≤ k) (hk2 : k ≤ 1000000000) :
    Calls Tryz.prog 48 #[.pointer (some ⟨D, 0, none⟩), .int .i64 k] w (SomeBool D w) := by
  go_enter Tryz.func48, Tryz.ntmps48
  go_wp2_with fail
  refine (next_any D _ k h hk hk2).mono ?_
  rintro e w1 ⟨r, rfl, h0, h1, h2⟩
  have H2 := Lib.hid h2; clear h2
  go_wp2_with fail
  go_ret
  exact ⟨_, rfl, H2.out⟩
theorem Vec.moved {α : Type} {D : Nat} {w w' : World} {k : Nat} {enc : α → List Value} {v : Value} {L : List α} (h : Vec w (fun b => b ≠ D) k enc v L) (m : Moved D w w') : Vec w' (fun b => b ≠ D) k enc v L :=
  h.move m.size fun b hb hD => ⟨m.grown.block b hb (by simp; omega), hD⟩
/-- one of some texts -/
def PickPost (D : Nat) (L : List (List UInt8)) (w : World) (e : Ending) (w' : World) : Prop := ∃ l : List UInt8, e = .returned (strV l) ∧ l ∈ L ∧ Moved D w w'
set_option maxHeartbeats 400000 in
theorem pick_any (D : Nat) (w : World) (v : Value) (L : List (List UInt8)) (h : DeckAt w D) (hV : Vec w (fun b => b ≠ D) 1 encS v L) (h1 : 1 ≤ L.length) (h2 : L.length ≤ 1000) :
    Calls Tryz.prog 117 #[.pointer (some ⟨D, 0, none⟩), v] w (PickPost D L w) := by
  obtain ⟨a, cap, rfl⟩ := hV.slice
  have HV := Lib.hid hV
  clear hV
  go_enter Tryz.func117, Tryz.ntmps117
  go_wp2_with fail
  refine (next_any D _ _ h (by omega) (by omega)).mono ?_
  rintro e w1 ⟨r, rfl, r0, r1, mv⟩
  have MV := Lib.hid mv; clear mv
  obtain ⟨r, rfl⟩ := Int.eq_ofNat_of_zero_le r0
  obtain ⟨b, off, rfl, _, hb, hc⟩ := vec_cell1 (HV.out.moved MV.out) (by omega)
  have hr : r < L.length := by omega
  have hc1 := hc r hr
  have hmem : L.getD r [] ∈ L := by rw [List.getD, List.getElem?_eq_getElem hr]; exact List.getElem_mem hr
  obtain ⟨x, hx⟩ : ∃ x, L.getD r [] = x := ⟨_, rfl⟩
  rw [hx] at hc1 hmem
  have HMem := Lib.hid hmem
  clear hc hmem hx
  go_wp2_with fail
  go_ret
  exact ⟨x, rfl, HMem.out, MV.out⟩
end
section
set_option maxRecDepth 100000
open Go.RowKit
attribute [local go_sem] toList_mk mk_size str_append
theorem one_byte (w : World) (a : UInt8) : (convert 183 9 (.slice (some ⟨w.heap.size, 0, none⟩) 1 1)).run Tryz.prog (w.alloc (.cells #[.int .u8 a.toNat] 5)) = .ok (strV [a]) (w.alloc (.cells #[.int .u8 a.toNat] 5)) := by
  have ho : (w.alloc (.cells (([a] : List UInt8).map byteV).toArray 5)).ownsRow 0 5 1 (.slice (some ⟨w.heap.size, 0, none⟩) 1 1) 1 (([a] : List UInt8).map byteV) :=
    ⟨by simp, .inr ⟨_, _, _, rfl, Nat.zero_le _, blk_new rfl, Nat.le_refl _, size_le_maxLen (by omega), by simp, by simp⟩⟩
  exact run_convert_owned [a] ho Tryz.underlying183 Tryz.underlying5 Tryz.underlying9
end
section
set_option maxRecDepth 100000
open Go.RowKit
attribute [local go_sem] toList_mk mk_size
/-- numbers behind the other tokens -/
def order2 (T : List (List UInt8)) : List (List UInt8) := (T.filter fun x => !numB x) ++ T.filter numB
def addrN (r : RulesL) (l : List UInt8) : List UInt8 × Int :=
  if checkR r = 0 then (if foldV l = true then (if 6 < (toks (foldL l)).length ∨ 64 < (joinL (order2 ((toks (foldL l)).map (addrTok r)))).length then ([], 1) else (joinL (order2 ((toks (foldL l)).map (addrTok r))), 0)) else ([], 3)) else ([], checkR r)
theorem addrTok_len {r : RulesL} (h : pairsB r.streets = true) (x : List UInt8) (hx : x.length ≤ 64) : (addrTok r x).length ≤ 65 := by
  unfold addrTok
  split
  · have := short_len x; omega
  · have := canon_len h x hx; omega
theorem order2_len (T : List (List UInt8)) : (order2 T).length ≤ 2 * T.length := by
  unfold order2
  have h1 := List.length_filter_le numB T
  have h2 := List.length_filter_le (fun x => !numB x) T
  simp; omega
theorem order2_mem {T : List (List UInt8)} {t : List UInt8} (h : t ∈ order2 T) : t ∈ T := by
  unfold order2 at h
  rcases List.mem_append.1 h with h | h
  · exact (List.mem_filter.1 h).1
  · exact (List.mem_filter.1 h).1
/-- what the loop of Normalise holds -/
def AddrAt (w2 : World) (A : Nat) (M : List (List UInt8)) (wr : World) : Prop := RowB wr A M ∧ Below w2.heap.size w2 wr ∧ w2.heap.size ≤ A
theorem AddrAt.below {w2 wr w' : World} {A : Nat} {M : List (List UInt8)} (h : AddrAt w2 A M wr) (hb : Below wr.heap.size wr w') : AddrAt w2 A M w' :=
  ⟨blk_below hb (lt_of_blk h.1) h.1, h.2.1.trans (hb.mono h.2.1.size), h.2.2⟩
theorem AddrAt.set {w2 wr : World} {A : Nat} {M : List (List UInt8)} (h : AddrAt w2 A M wr) (k : Nat) (y : List UInt8) : AddrAt w2 A (M.set k y) (wr.setCell ⟨A, k, none⟩ (strV y)) :=
  ⟨h.1.set k y, h.2.1.setCell h.2.2 _, h.2.2⟩
set_option maxHeartbeats 4000000 in
theorem addr_yes (S : Nat → Prop) (vt vn vs : Value) (r : RulesL) (s : ByteArray) (w : World) (h : RulesAt w S vt vn vs r) (hc : checkR r = 0) (hv : foldV s.data.toList = true) :
    Calls Tryz.prog 285 #[.agg #[vt, vn, vs], .string s] w fun e w' => e = .returned (pairV (addrN r s.data.toList)) ∧ Below w.heap.size w w' := by
  have hs : s.size ≤ 64 := by
    have := foldV_len hv
    have h2 : s.data.toList.length = s.size := by simp
    omega
  obtain ⟨⟨k1, k2, k3⟩, g1, g2, g3, g4⟩ := check_zero hc
  have G3 := Lib.hid g3
  obtain ⟨avs, cvs, rfl⟩ := h.2.2.slice
  have HR := Lib.hid h.any
  have HC := Lib.hid hc; have HV := Lib.hid hv
  clear h hc hv g1 g2 g3 g4
  have hfin : addrN r s.data.toList = (if 6 < (toks (foldL s.data.toList)).length ∨ 64 < (joinL (order2 ((toks (foldL s.data.toList)).map (addrTok r)))).length then ([], 1) else (joinL (order2 ((toks (foldL s.data.toList)).map (addrTok r))), 0)) := by
    unfold addrN; rw [if_pos HC.out, if_pos HV.out]
  have HF := Lib.hid hfin; clear hfin
  go_enter Tryz.func285, Tryz.ntmps285
  go_wp2_with fail
  refine (rcheck_any Any1 vt vn _ r _ (HR.out.below ((Below.refl _ _).alloc (Nat.le_refl _) _))).mono ?_
  rw [HC.out]
  rintro e w1 ⟨rfl, hb1⟩
  have X1 : w1.heap[w.heap.size]? = some (.cells #[vt, vn, .slice avs r.streets.length cvs] 41 (0, 0)) := blk_below hb1 (by simp) (blk_new rfl)
  have HX1 := Lib.hid X1
  have HB1 := Lib.hid (((Below.refl w.heap.size w).alloc (Nat.le_refl _) _).trans (hb1.mono (by simp)))
  clear X1 hb1
  go_wp2_with fail
  refine (fold_yes s _ (by omega) HV.out).mono ?_
  rintro e w2 ⟨rfl, hb2⟩
  have HX2 := Lib.hid (blk_below hb2 (lt_of_blk HX1.out) HX1.out)
  have HB2 := Lib.hid (HB1.out.trans (hb2.mono HB1.out.size))
  clear hb2 HX1 HB1
  go_wp2_with fail
  have hfl : (foldL s.data.toList).length ≤ 64 := by
    have := fold_len s.data.toList
    have h2 : s.data.toList.length = s.size := by simp
    omega
  obtain ⟨fl, hfl'⟩ : ∃ fl, foldL s.data.toList = fl := ⟨_, rfl⟩
  have hasc : ascii fl := hfl' ▸ fold_ascii _
  have HA := Lib.hid hasc
  rw [hfl'] at hfl HF ⊢
  clear hasc hfl'
  refine (tokens_any fl _ HA.out (by omega)).mono ?_
  rintro e w4 ⟨A, rfl, hA, ho, hb4⟩
  have hrow := (own_block ho).2
  have htl : ∀ t ∈ toks fl, t.length ≤ 64 := fun t ht => by have := toks_le fl [] t ht; simp at this; omega
  have htn : (toks fl).length ≤ 65 := by have := (toksA_len fl []).2.1; unfold toks; omega
  obtain ⟨T, hT⟩ : ∃ T, toks fl = T := ⟨_, rfl⟩
  rw [hT] at hrow htl htn HF ⊢
  have HAt := Lib.hid (show AddrAt w2 A T w4 from ⟨hrow, hb4, hA⟩); have HTL := Lib.hid htl
  have zX2 := lt_of_blk HX2.out
  clear hb4 ho hrow hT htl hA
  go_wp2_with fail
  go_loopw [33] (fun i wr => ∃ k : Nat, k ≤ T.length ∧ i = .int .i64 k ∧ AddrAt w2 A (midL (addrTok r) T k) wr) (fun i _ => T.length - (intOf i).toNat)
  case atStart => exact ⟨0, by omega, rfl, by simpa [midL] using HAt.out⟩
  case round =>
    obtain ⟨k, hk, rfl, ho⟩ := hrel
    have HO := Lib.hid ho; clear ho
    by_cases hlt : k < T.length
    · have hq : decide ((k : Int) < T.length) = true := by simp; omega
      have hi : (k : Int) < (T.length : Int) := by omega
      have hml := mid_len (addrTok r) T k hk
      have c1 := HO.out.1.cell k (by omega)
      rw [mid_get _ _ _ hlt] at c1
      have hxl : (T.getD k []).length ≤ 64 := TL_get HTL.out k hlt
      have hset := mid_set (addrTok r) T k hlt
      have hsame := mid_same (addrTok r) T k hlt
      have hfx : addrTok r (T.getD k []) = if numB (T.getD k []) = true then shortL (T.getD k []) else canonL r.streets (T.getD k []) := rfl
      have hcf := canon_find r.streets (T.getD k [])
      obtain ⟨x, hx⟩ : ∃ x, T.getD k [] = x := ⟨_, rfl⟩
      rw [hx] at c1 hxl hset hsame hfx hcf
      have HSet := Lib.hid hset; have HSame := Lib.hid hsame; have HFx := Lib.hid hfx
      clear hx hset hsame hfx hml
      have hX := blk_below HO.out.2.1 zX2 HX2.out
      obtain ⟨p0, p1, p2⟩ := cells3 hX
      have zX := lt_of_blk hX
      have HX := Lib.hid hX; clear hX
      go_wp2_with fail
      have eg : ∀ args w, (callFunc 299 args).run Tryz.prog w = .ok (.enter 299 args) w := enters_of Tryz.func299 (by kernel_rfl) rfl
      have KI := idxP_any (fun y => y.1 == x) 299 #[.pointer (some ⟨wr.heap.size, 0, none⟩)] eg Any1 (.slice avs r.streets.length cvs) r.streets (wr.alloc (.cells #[strV x] 9)) (HR.out.2.2.below (HB2.out.trans (HO.out.2.1.mono HB2.out.size) |>.alloc (by have := HB2.out.size; have := HO.out.2.1.size; omega) _)) (by omega) (pred_addr x wr.heap.size _ (by simp) (by simp))
      change Calls _ _ _ _ fun e w' => e = .returned (.int .i64 (findI r.streets x)) ∧ Below (wr.alloc (.cells #[strV x] 9)).heap.size (wr.alloc (.cells #[strV x] 9)) w' at KI
      obtain ⟨n, hn⟩ : ∃ n, findI r.streets x = n := ⟨_, rfl⟩
      rw [hn] at KI hcf
      refine KI.mono ?_
      clear eg hn KI
      rintro e w5 ⟨rfl, hb5⟩
      have hal : Below wr.heap.size wr (wr.alloc (.cells #[strV x] 9)) := (Below.refl _ _).alloc (Nat.le_refl _) _
      have HO5 := Lib.hid ((HO.out.below hal).below hb5)
      have hX5 : w5.heap[w.heap.size]? = some (.cells #[vt, vn, .slice avs r.streets.length cvs] 41 (0, 0)) := blk_below hb5 (by simp; omega) (blk_old HX.out)
      have k0 : w5.cell? ⟨wr.heap.size, 0, none⟩ = some (strV x) := (hb5.cell (p := ⟨wr.heap.size, 0, none⟩) (by simp)).trans (by simp)
      clear p0 p1 p2 hal hb5 HO c1
      obtain ⟨p0, p1, p2⟩ := cells3 hX5
      have hAl := lt_of_blk HO5.out.1
      have hml := mid_len (addrTok r) T k hk
      have c5 : w5.cell? ⟨A, k, none⟩ = some (strV ((midL (addrTok r) T k).getD k [])) := HO5.out.1.cell k (by omega)
      have f5 : w5.frozen? ⟨A, k, none⟩ = false := frozen_of_row _ _ _ _ _ HO5.out.1
      generalize (midL (addrTok r) T k).getD k [] = old at c5
      clear hX5 HX hml
      go_wp2_with fail
      refine (numeral_any x _).mono ?_
      rintro e w6 ⟨rfl, rfl⟩
      cases hd : numB x
      · rw [hd, if_neg (by simp)] at HFx
        clear hd
        rcases hcf with ⟨h1, h2⟩ | ⟨j, hj, h1, h2⟩
        · rw [h2] at HFx
          have HS := Lib.hid (HSame.out HFx.out)
          clear h2 HSame HSet
          go_wp2_with fail
          go_roundw
          case rel => exact ⟨k + 1, by omega, by go_num, by rw [← HS.out]; exact HO5.out⟩
          case measure => simp [intOf]; omega
        · rw [← h2] at HFx
          have HS := Lib.hid (HSet.out _ HFx.out)
          subst h1
          obtain ⟨bs, offs, e1, _, hbs, hcs⟩ := vec_cell2 HR.out.2.2 (by omega)
          have hcs1 := hcs j hj 1 _ rfl
          subst e1
          have s1 : w5.cell? ⟨bs, offs + j * 2 + 1, none⟩ = some (strV (r.streets.getD j default).2) := ((HB2.out.trans (HO5.out.2.1.mono HB2.out.size)).cell (p := ⟨bs, offs + j * 2 + 1, none⟩) hbs).trans hcs1
          obtain ⟨y, hy⟩ : ∃ y, (r.streets.getD j default).2 = y := ⟨_, rfl⟩
          rw [hy] at s1 HS
          have hj' : (j : Int) < (r.streets.length : Int) := by omega
          clear hcs hcs1 hy h2 HSame HSet HFx
          go_wp2_with fail
          go_roundw
          case rel => exact ⟨k + 1, by omega, by go_num, by rw [← HS.out]; exact HO5.out.set k y⟩
          case measure => simp [intOf]; omega
      · rw [hd, if_pos rfl] at HFx
        have HS := Lib.hid (HSet.out _ HFx.out)
        clear hd HSame HSet hcf
        go_wp2_with fail
        refine (short_any x _ (by omega)).mono ?_
        rintro e w6 ⟨rfl, rfl⟩
        go_wp2_with fail
        go_roundw
        case rel => exact ⟨k + 1, by omega, by go_num, by rw [← HS.out]; exact HO5.out.set k _⟩
        case measure => simp [intOf]; omega
    · have hq : decide ((k : Int) < T.length) = false := by simp; omega
      obtain rfl : k = T.length := by omega
      have hm : midL (addrTok r) T T.length = T.map (addrTok r) := by unfold midL; simp
      rw [hm] at HO
      have hMl : (T.map (addrTok r)).length = T.length := by simp
      have hmem : ∀ t ∈ T.map (addrTok r), t.length ≤ 65 := by
        intro t ht
        obtain ⟨x, hx, rfl⟩ := List.mem_map.1 ht
        exact addrTok_len G3.out x (HTL.out x hx)
      obtain ⟨M, hM⟩ : ∃ M, T.map (addrTok r) = M := ⟨_, rfl⟩
      rw [hM] at HO hMl hmem HF
      have hjl := join_le (order2 M) (fun t ht => hmem t (order2_mem ht))
      have hol := order2_len M
      have HVM := Lib.hid (HO.out.1.vec T.length (by omega))
      rw [hMl] at HVM
      have HML := Lib.hid hMl
      have HWr := Lib.hid (HO.out.2.1.mono HB2.out.size)
      have HW := Lib.hid (HB2.out.trans (HO.out.2.1.mono HB2.out.size))
      have hjb : (joinL (order2 M)).length ≤ 1000000 := by
        have : (order2 M).length * 66 ≤ 130 * 66 := Nat.mul_le_mul_right 66 (by omega)
        omega
      have hol' : (order2 M).length ≤ 1000 := by omega
      have hM2 : M.length ≤ 100 := by omega
      clear hm hM hmem hjl hol hMl HO
      go_wp2_with fail
      refine (part_any Any1 _ M _ HVM.out (by omega)).mono ?_
      rintro e w6 ⟨u, v, rfl, h2⟩
      obtain ⟨o1, o2, o3, o4⟩ := h2
      obtain ⟨i0, hi0, hz0, hz1, hz2⟩ := info_parts infoS
      have hyl := List.length_filter_le numB M
      have hnl := List.length_filter_le (fun x => !numB x) M
      have hord : order2 M = (M.filter fun x => !numB x) ++ M.filter numB := rfl
      obtain ⟨Y, hY⟩ : ∃ Y, M.filter numB = Y := ⟨_, rfl⟩
      obtain ⟨N, hN⟩ : ∃ N, (M.filter fun x => !numB x) = N := ⟨_, rfl⟩
      rw [hY] at o1 hyl hord
      rw [hN] at o2 hnl hord
      have HW6 := Lib.hid (HW.out.trans (o4.mono HW.out.size))
      have hbz := o4.size
      have O2 := Lib.hid o2
      have HO4 := Lib.hid o4
      clear hY hN o3 o4 HW
      rcases o1 with ⟨o1l, ⟨rfl, h0⟩ | ⟨g, cap, cur, rfl, hg, hh, hn1, hc1, hsz, ht1⟩⟩
      · have hY0 : Y = [] := List.length_eq_zero_iff.1 h0
        subst hY0
        rw [List.append_nil] at hord
        have HV7 := Lib.hid (Vec.owns (S := Any1) (k := 1) (enc := encS) (fun _ => rfl) o2 (fun _ _ _ => trivial))
        clear o1l h0 o2
        rw [hord] at HF hjb hol'
        have HW7 := HW6
        go_wp2_with (at_builtin; refine wpList_append_own_none rfl _ _ 27 rfl _ 9 i0 1 Tryz.underlying27 hi0 _ _ _ rfl O2.out rfl ?_)
        refine (join_any Any1 _ N _ HV7.out (by omega) (by omega)).mono ?_
        rintro e w9 ⟨rfl, hb9⟩
        rw [← hord] at HF hjb ⊢
        clear hord hol'
        have HW9 := Lib.hid (HW7.out.trans (hb9.mono HW7.out.size)); clear hb9
        obtain ⟨J, hJ⟩ : ∃ J, joinL (order2 M) = J := ⟨_, rfl⟩
        rw [hJ] at HF hjb ⊢
        clear hJ
        by_cases g1 : 6 < T.length
        · have d1 : decide ((6 : Int) < T.length) = true := by simp; omega
          rw [if_pos (.inl g1)] at HF
          go_wp2_with fail
          go_ret2
          exact ⟨by rw [HF.out]; rfl, HW9.out⟩
        · have d1 : decide ((6 : Int) < T.length) = false := by simp; omega
          by_cases g2 : 64 < J.length
          · have d2 : decide ((64 : Int) < J.length) = true := by simp; omega
            rw [if_pos (.inr g2)] at HF
            go_wp2_with fail
            go_ret2
            exact ⟨by rw [HF.out]; rfl, HW9.out⟩
          · have d2 : decide ((64 : Int) < J.length) = false := by simp; omega
            rw [if_neg (by omega)] at HF
            go_wp2_with fail
            go_ret2
            exact ⟨by rw [HF.out]; rfl, HW9.out⟩
      · have hcells : ∀ j u, (Y.flatMap encS)[j]? = some u → w6.cell? ((⟨g, 0, none⟩ : Addr).add j) = some u := by
          intro j u hu
          have : (⟨g, 0, none⟩ : Addr).add j = ⟨g, j, none⟩ := by unfold Addr.add; split <;> simp_all
          rw [this, cell_of_row _ _ _ _ _ _ hh]
          rw [← ht1, List.getElem?_take] at hu
          split at hu
          · rw [← Array.getElem?_toList]; exact hu
          · cases hu
        have HCl := Lib.hid hcells
        have hone : ∀ u ∈ Y.flatMap encS, u.oneCell' = true := by
          intro u hu
          obtain ⟨y, _, hy⟩ := List.mem_flatMap.1 hu
          simp at hy; subst hy; rfl
        have HOne := Lib.hid hone
        have hYb : N.length + Y.length ≤ 1000 := by omega
        have hmx : N.length + Y.length ≤ maxLen := size_le_maxLen (by omega)
        have HMx := Lib.hid hmx
        clear o1l hg hh hn1 hc1 hsz ht1 hcells hone o2 hmx
        go_wp2_with (at_builtin; refine wpList_append_own _ rfl _ _ 27 rfl wr.heap.size 9 i0 (.string ⟨#[]⟩) 1 16 Tryz.underlying27 hi0 hz0 hz1 hz2 rfl (by decide) _ _ _ rfl O2.out ⟨g, 0, none⟩ Y.length cap (Y.flatMap encS) rfl (by rw [flat_len1]; omega) HCl.out HOne.out HMx.out (by omega) hbz ?_; intro v7 w7 ho7 hg7 _)
        rw [show N.length + Y.length = (N ++ Y).length by simp, ← List.flatMap_append, ← hord] at ho7
        have HV7 := Lib.hid (Vec.owns (S := Any1) (k := 1) (enc := encS) (fun _ => rfl) ho7 (fun _ _ _ => trivial))
        have hbw7 : Below wr.heap.size wr w7 := HO4.out.grown hg7 hbz (fun j hj => (O2.out.lt j hj).1)
        have HW7 := Lib.hid ((HB2.out.trans HWr.out).trans (hbw7.mono (HB2.out.trans HWr.out).size))
        clear ho7 hg7 hbw7 HCl HOne HMx
        refine (join_any Any1 _ (order2 M) _ HV7.out (by omega) (by omega)).mono ?_
        rintro e w9 ⟨rfl, hb9⟩
        clear hord hol'
        have HW9 := Lib.hid (HW7.out.trans (hb9.mono HW7.out.size)); clear hb9
        obtain ⟨J, hJ⟩ : ∃ J, joinL (order2 M) = J := ⟨_, rfl⟩
        rw [hJ] at HF hjb ⊢
        clear hJ
        by_cases g1 : 6 < T.length
        · have d1 : decide ((6 : Int) < T.length) = true := by simp; omega
          rw [if_pos (.inl g1)] at HF
          go_wp2_with fail
          go_ret2
          exact ⟨by rw [HF.out]; rfl, HW9.out⟩
        · have d1 : decide ((6 : Int) < T.length) = false := by simp; omega
          by_cases g2 : 64 < J.length
          · have d2 : decide ((64 : Int) < J.length) = true := by simp; omega
            rw [if_pos (.inr g2)] at HF
            go_wp2_with fail
            go_ret2
            exact ⟨by rw [HF.out]; rfl, HW9.out⟩
          · have d2 : decide ((64 : Int) < J.length) = false := by simp; omega
            rw [if_neg (by omega)] at HF
            go_wp2_with fail
            go_ret2
            exact ⟨by rw [HF.out]; rfl, HW9.out⟩
end
section
set_option maxRecDepth 100000
open Go.RowKit
attribute [local go_sem] toList_mk mk_size
set_option maxHeartbeats 1000000 in
theorem addr_no (S : Nat → Prop) (vt vn vs : Value) (r : RulesL) (s : ByteArray) (w : World) (h : RulesAt w S vt vn vs r) (hs : s.size ≤ 9223372036854775000) (hc : checkR r = 0) (hv : foldV s.data.toList = false) :
    Calls Tryz.prog 285 #[.agg #[vt, vn, vs], .string s] w fun e w' => e = .returned (pairV (addrN r s.data.toList)) ∧ Below w.heap.size w w' := by
  have HR := Lib.hid h.any
  have HC := Lib.hid hc; have HV := Lib.hid hv
  clear h hc hv
  have HF := Lib.hid (show addrN r s.data.toList = ([], 3) by unfold addrN; rw [if_pos HC.out, if_neg (by rw [HV.out]; simp)])
  go_enter Tryz.func285, Tryz.ntmps285
  go_wp2_with fail
  refine (rcheck_any Any1 vt vn vs r _ (HR.out.below ((Below.refl _ _).alloc (Nat.le_refl _) _))).mono ?_
  rw [HC.out]
  rintro e w1 ⟨rfl, hb1⟩
  have HB1 := Lib.hid (((Below.refl w.heap.size w).alloc (Nat.le_refl _) _).trans (hb1.mono (by simp)))
  clear hb1
  go_wp2_with fail
  refine (fold_no s _ hs HV.out).mono ?_
  rintro e w2 ⟨rfl, hb2⟩
  have HB2 := Lib.hid (HB1.out.trans (hb2.mono HB1.out.size))
  clear hb2 HB1
  go_wp2_with fail
  go_ret2
  exact ⟨by rw [HF.out]; rfl, HB2.out⟩
set_option maxHeartbeats 1000000 in
theorem addr_bad (S : Nat → Prop) (vt vn vs : Value) (r : RulesL) (s : ByteArray) (w : World) (h : RulesAt w S vt vn vs r) (hc : checkR r ≠ 0) :
    Calls Tryz.prog 285 #[.agg #[vt, vn, vs], .string s] w fun e w' => e = .returned (pairV (addrN r s.data.toList)) ∧ Below w.heap.size w w' := by
  have HR := Lib.hid h.any
  have HF := Lib.hid (show addrN r s.data.toList = ([], checkR r) by unfold addrN; rw [if_neg hc])
  have hne : (checkR r != 0) = true := by simpa using hc
  clear h hc
  go_enter Tryz.func285, Tryz.ntmps285
  go_wp2_with fail
  refine (rcheck_any Any1 vt vn vs r _ (HR.out.below ((Below.refl _ _).alloc (Nat.le_refl _) _))).mono ?_
  obtain ⟨c, hcc⟩ : ∃ c, checkR r = c := ⟨_, rfl⟩
  rw [hcc] at hne HF ⊢
  clear hcc
  rintro e w1 ⟨rfl, hb1⟩
  have HB1 := Lib.hid (((Below.refl w.heap.size w).alloc (Nat.le_refl _) _).trans (hb1.mono (by simp)))
  clear hb1
  go_wp2_with fail
  go_ret2
  exact ⟨by rw [HF.out]; rfl, HB1.out⟩
theorem addr_any (S : Nat → Prop) (vt vn vs : Value) (r : RulesL) (s : ByteArray) (w : World) (h : RulesAt w S vt vn vs r) (hs : s.size ≤ 9223372036854775000) :
    Calls Tryz.prog 285 #[.agg #[vt, vn, vs], .string s] w fun e w' => e = .returned (pairV (addrN r s.data.toList)) ∧ Below w.heap.size w w' := by
  by_cases hc : checkR r = 0
  · cases hv : foldV s.data.toList with
    | true => exact addr_yes S vt vn vs r s w h hc hv
    | false => exact addr_no S vt vn vs r s w h hs hc hv
  · exact addr_bad S vt vn vs r s w h hc
set_option maxHeartbeats 1000000 in
theorem anormal_any (S : Nat → Prop) (vt vn vs : Value) (r : RulesL) (s : ByteArray) (w : World) (h : RulesAt w S vt vn vs r) (hs : s.size ≤ 9223372036854775000) :
    Calls Tryz.prog 286 #[.agg #[vt, vn, vs], .string s] w fun e w' => e = .returned (.bool (isOwn (addrN r s.data.toList) s.data.toList)) ∧ Below w.heap.size w w' := by
  have HR := Lib.hid h.any; clear h
  have HS := Lib.hid (Lib.toList_data s)
  go_enter Tryz.func286, Tryz.ntmps286
  go_wp2_with fail
  refine (addr_any Any1 vt vn vs r s _ (HR.out.below ((Below.refl _ _).alloc (Nat.le_refl _) _)) hs).mono ?_
  obtain ⟨p, hp⟩ : ∃ p, addrN r s.data.toList = p := ⟨_, rfl⟩
  rw [hp]
  have HP := Lib.hid hp; clear hp
  obtain ⟨pl, pe⟩ := p
  unfold pairV
  rintro e w1 ⟨rfl, hb1⟩
  have HB1 := Lib.hid (((Below.refl w.heap.size w).alloc (Nat.le_refl _) _).trans (hb1.mono (by simp)))
  clear hb1
  cases he : (pe == 0)
  all_goals
    go_wp2_with fail
    go_ret
    refine ⟨ret_bool ?_, HB1.out⟩
    rw [HP.out]
    simp [isOwn, he, HS.out]
def codeN (l : List UInt8) : List UInt8 × Int :=
  if foldV l = true then (if 12 < (toks (foldL l)).flatten.length then ([], 1) else ((toks (foldL l)).flatten, 0)) else ([], 3)
theorem join_flat (L : List (List UInt8)) : Lib.join L [] = L.flatten := by
  induction L with
  | nil => rfl
  | cons a L ih =>
    rw [Lib.join_cons, List.flatten_cons]
    congr 1
    unfold Lib.joinTail
    simp
theorem flat_le (l : List UInt8) : ∀ p, (toksA p l).flatten.length ≤ p.length + l.length := by
  induction l with
  | nil => intro p; simp only [toksA]; split <;> simp
  | cons c l ih =>
    intro p
    by_cases hc : c = 32
    · subst hc
      by_cases hp : p = []
      · subst hp; rw [toksA_sp0]; have := ih []; simp at *; omega
      · rw [toksA_sp _ _ hp]; have := ih []; simp at *; omega
    · rw [toksA_ch _ _ _ hc]; have := ih (p ++ [c]); simp at *; omega
set_option maxHeartbeats 1000000 in
theorem code_any (s : ByteArray) (w : World) (hs : s.size ≤ 9223372036854775000) :
    Calls Tryz.prog 281 #[.string s] w fun e w' => e = .returned (pairV (codeN s.data.toList)) ∧ Below w.heap.size w w' := by
  cases hv : foldV s.data.toList
  · have HV := Lib.hid hv
    have HF := Lib.hid (show codeN s.data.toList = ([], 3) by unfold codeN; rw [if_neg (by rw [hv]; simp)])
    clear hv
    go_enter Tryz.func281, Tryz.ntmps281
    go_wp2_with fail
    refine (fold_no s _ hs HV.out).mono ?_
    rintro e w2 ⟨rfl, hb2⟩
    go_wp2_with fail
    go_ret2
    exact ⟨by rw [HF.out]; rfl, hb2⟩
  · have hs64 : s.size ≤ 64 := by
      have := foldV_len hv
      have h2 : s.data.toList.length = s.size := by simp
      omega
    have hfl : (foldL s.data.toList).length ≤ 64 := by
      have := fold_len s.data.toList
      have h2 : s.data.toList.length = s.size := by simp
      omega
    have HV := Lib.hid hv
    have hfin : codeN s.data.toList = (if 12 < (toks (foldL s.data.toList)).flatten.length then ([], 1) else ((toks (foldL s.data.toList)).flatten, 0)) := by
      unfold codeN; rw [if_pos hv]
    clear hv
    obtain ⟨fl, hfl'⟩ : ∃ fl, foldL s.data.toList = fl := ⟨_, rfl⟩
    have HA := Lib.hid (show ascii fl from hfl' ▸ fold_ascii _)
    rw [hfl'] at hfl hfin
    have HFl := Lib.hid hfl'
    have HF := Lib.hid hfin; clear hfin hfl'
    go_enter Tryz.func281, Tryz.ntmps281
    go_wp2_with fail
    refine (fold_yes s _ (by omega) HV.out).mono ?_
    rw [HFl.out]
    rintro e w2 ⟨rfl, hb2⟩
    have HB2 := Lib.hid hb2; clear hb2
    go_wp2_with fail
    refine (tokens_any fl _ HA.out (by omega)).mono ?_
    rintro e w4 ⟨A, rfl, hA, ho, hb4⟩
    have hrow := (own_block ho).2
    have HB4 := Lib.hid (HB2.out.trans (hb4.mono HB2.out.size))
    have htn : (toks fl).length ≤ 65 := by have := (toksA_len fl []).2.1; unfold toks; omega
    have hfle : (toks fl).flatten.length ≤ 64 := by have := flat_le fl []; simp at this; unfold toks; simp; omega
    obtain ⟨T, hT⟩ : ∃ T, toks fl = T := ⟨_, rfl⟩
    rw [hT] at hrow htn hfle HF ⊢
    have hjj : Lib.join ((T.map mkS).map (·.data.toList)) [] = T.flatten := by
      rw [List.map_map, ← join_flat]; congr 1; conv => rhs; rw [← List.map_id T]
      exact List.map_congr_left fun x _ => by simp [mkS]
    have hj := Tryz.strings_Join A 0 T.length (T.map mkS) ⟨#[]⟩ w4 (fun j x hx => by
        rw [List.getElem?_map] at hx
        obtain ⟨y, hy, rfl⟩ := Option.map_eq_some_iff.1 hx
        have hj' : j < T.length := (List.getElem?_eq_some_iff.1 hy).1
        have := hrow.cell j hj'
        rw [List.getD, hy] at this
        simpa [mkS] using this) (lt_of_blk hrow) (by simp; omega) (by simp) (by rw [show (⟨#[]⟩ : ByteArray).data.toList = [] from rfl, hjj]; omega)
    rw [show (⟨#[]⟩ : ByteArray).data.toList = [] from rfl, hjj, List.length_map] at hj
    have HJ := Lib.hid hj
    clear hb4 ho hrow hT hA hj hjj HB2
    go_wp2_with fail
    refine HJ.out.mono ?_
    obtain ⟨J, hJ⟩ : ∃ J, T.flatten = J := ⟨_, rfl⟩
    rw [hJ] at HF hfle ⊢
    clear hJ HJ
    rintro e w5 ⟨rfl, hb5⟩
    have HB5 := Lib.hid (HB4.out.trans (hb5.mono HB4.out.size)); clear hb5 HB4
    by_cases g1 : 12 < J.length
    · have d1 : decide ((12 : Int) < J.length) = true := by simp; omega
      rw [if_pos g1] at HF
      go_wp2_with fail
      go_ret2
      exact ⟨by rw [HF.out]; rfl, HB5.out⟩
    · have d1 : decide ((12 : Int) < J.length) = false := by simp; omega
      rw [if_neg g1] at HF
      go_wp2_with fail
      go_ret2
      exact ⟨by rw [HF.out]; rfl, HB5.out⟩
set_option maxHeartbeats 1000000 in
theorem normed_any (s : ByteArray) (w : World) (hs : s.size ≤ 9223372036854775000) :
    Calls Tryz.prog 283 #[.string s] w fun e w' => e = .returned (.bool (isOwn (codeN s.data.toList) s.data.toList)) ∧ Below w.heap.size w w' := by
  have HS := Lib.hid (Lib.toList_data s)
  go_enter Tryz.func283, Tryz.ntmps283
  go_wp2_with fail
  refine (code_any s _ hs).mono ?_
  obtain ⟨p, hp⟩ : ∃ p, codeN s.data.toList = p := ⟨_, rfl⟩
  rw [hp]
  have HP := Lib.hid hp; clear hp
  obtain ⟨pl, pe⟩ := p
  unfold pairV
  rintro e w1 ⟨rfl, hb1⟩
  have HB1 := Lib.hid hb1
  clear hb1
  cases he : (pe == 0)
  all_goals
    go_wp2_with fail
    go_ret
    refine ⟨ret_bool ?_, HB1.out⟩
    rw [HP.out]
    simp [isOwn, he, HS.out]
end
section
set_option maxRecDepth 100000
open Go.RowKit Cal
def isDig (l : List UInt8) : Prop := ∀ c ∈ l, 48 ≤ c.toNat ∧ c.toNat ≤ 57
def valD : List UInt8 → Nat
  | [] => 0
  | c :: cs => (c.toNat - 48) * 10 ^ cs.length + valD cs
theorem valD_append (l r : List UInt8) : valD (l ++ r) = valD l * 10 ^ r.length + valD r := by
  induction l with
  | nil => simp [valD]
  | cons c cs ih => simp only [List.cons_append, valD, ih, List.length_append, Nat.pow_add, Nat.add_mul]; rw [Nat.mul_assoc]; omega
theorem numFrom_dig (l : List UInt8) (h : isDig l) : ∀ n : Nat, numFrom (n : Int) l = some ((n * 10 ^ l.length + valD l : Nat) : Int) := by
  induction l with
  | nil => intro n; simp [numFrom, valD]
  | cons c cs ih =>
    intro n
    have h1 := h c (by simp)
    have h2 := ih fun x hx => h x (by simp [hx])
    have e : (10 * (n : Int) + ((c.toNat : Int) - 48)) = ((10 * n + (c.toNat - 48) : Nat) : Int) := by omega
    rw [numFrom, if_pos (by omega), e, h2]
    congr 2
    simp only [valD, List.length_cons, Nat.pow_succ, Nat.add_mul]
    have : 10 * n * 10 ^ cs.length = n * (10 ^ cs.length * 10) := by rw [Nat.mul_comm 10 n, Nat.mul_assoc, Nat.mul_comm 10]
    omega
theorem numI_dig (l : List UInt8) (h : isDig l) : numI l = valD l := by
  unfold numI
  have := numFrom_dig l h 0
  simp only [Int.natCast_zero] at this
  rw [show (0 : Int) = ((0 : Nat) : Int) from rfl, numFrom_dig l h 0]
  simp
theorem dg_len (k : Nat) : ∀ n, (dg n k).length = k := by
  induction k with
  | zero => intro n; rfl
  | succ k ih => intro n; simp [dg, ih]
theorem dg_dig (k : Nat) : ∀ n : Int, 0 ≤ n → isDig (dg n k) := by
  induction k with
  | zero => intro n _ c hc; simp [dg] at hc
  | succ k ih =>
    intro n hn c hc
    simp only [dg, List.mem_append, List.mem_singleton] at hc
    rcases hc with hc | rfl
    · exact ih (n / 10) (by omega) c hc
    · have : (UInt8.ofNat (48 + (n % 10).toNat)).toNat = 48 + (n % 10).toNat := by rw [UInt8.toNat_ofNat']; omega
      omega
theorem dg_val (k : Nat) : ∀ n : Int, 0 ≤ n → n < 10 ^ k → (valD (dg n k) : Int) = n := by
  induction k with
  | zero => intro n h0 h1; simp at h1; simp [dg, valD]; omega
  | succ k ih =>
    intro n hn h1
    have e : (UInt8.ofNat (48 + (n % 10).toNat)).toNat = 48 + (n % 10).toNat := by rw [UInt8.toNat_ofNat']; omega
    have h2 : n / 10 < 10 ^ k := by rw [Int.pow_succ] at h1; omega
    have := ih (n / 10) (by omega) h2
    simp only [dg, valD_append, valD, List.length_cons, List.length_nil, e]
    simp
    omega
theorem digits8_len (y m d : Int) : (digits8 y m d).length = 8 := by simp [digits8, dg_len]
end
section
set_option maxRecDepth 100000
open Go.RowKit Cal
attribute [local go_sem] dg_len
@[local go_sem] theorem bytes_append (a b : List UInt8) : (⟨a.toArray⟩ : ByteArray) ++ ⟨b.toArray⟩ = ⟨(a ++ b).toArray⟩ := by
  apply ByteArray.ext; simp
theorem ret_str {a b : List UInt8} (h : a = b) : Ending.returned (.string ⟨a.toArray⟩) = .returned (.string ⟨b.toArray⟩) := by rw [h]
theorem dgb (n : Int) (h : 0 ≤ n) : byteV (UInt8.ofNat (48 + (n % 10).toNat)) = .int .u8 (48 + n % 10) := by
  have : (UInt8.ofNat (48 + (n % 10).toNat)).toNat = 48 + (n % 10).toNat := by rw [UInt8.toNat_ofNat']; omega
  unfold byteV; rw [this]; congr 1; omega
theorem owns_new {w : World} {B : Nat} {e : TypeId} (l : List UInt8) (hB : B ≤ w.heap.size) (hl : l.length ≤ 1000) :
    (w.alloc (.cells (l.map byteV).toArray e)).ownsRow B e 1 (.slice (some ⟨w.heap.size, 0, none⟩) l.length l.length) l.length (l.map byteV) :=
  ⟨by simp, .inr ⟨_, _, _, rfl, hB, blk_new rfl, Nat.le_refl _, size_le_maxLen (by omega), by simp, by rw [List.take_of_length_le (by simp)]⟩⟩
set_option maxHeartbeats 400000 in
theorem two_any (n : Int) (w : World) (h0 : 0 ≤ n) (h1 : n ≤ 99) :
    Calls Tryz.prog 172 #[.int .i64 n] w fun e w' => e = .returned (.string ⟨(dg n 2).toArray⟩) ∧ Below w.heap.size w w' := by
  have ha : 0 ≤ n / 10 % 10 ∧ n / 10 % 10 ≤ 9 := by omega
  have hb : 0 ≤ n % 10 ∧ n % 10 ≤ 9 := by omega
  obtain ⟨ha1, ha2⟩ := ha
  obtain ⟨hb1, hb2⟩ := hb
  have hcv : ∀ w : World, (convert 183 9 (.slice (some ⟨w.heap.size, 0, none⟩) 2 2)).run Tryz.prog (w.alloc (.cells #[.int .u8 (48 + n / 10 % 10), .int .u8 (48 + n % 10)] 5)) = .ok (.string ⟨(dg n 2).toArray⟩) (w.alloc (.cells #[.int .u8 (48 + n / 10 % 10), .int .u8 (48 + n % 10)] 5)) := by
    intro w
    have ho := owns_new (w := w) (B := 0) (e := 5) (dg n 2) (Nat.zero_le _) (by rw [dg_len]; omega)
    rw [dg_len] at ho
    have e1 : (dg n 2).map byteV = [.int .u8 (48 + n / 10 % 10), .int .u8 (48 + n % 10)] := by
      simp only [dg, List.nil_append, List.cons_append, List.map_cons, List.map_nil]
      rw [dgb _ (by omega), dgb _ h0]
    rw [e1] at ho
    exact run_convert_owned (dg n 2) (by rw [e1]; exact ho) Tryz.underlying183 Tryz.underlying5 Tryz.underlying9
  go_enter Tryz.func172, Tryz.ntmps172
  go_wp2
  go_ret
  exact ⟨rfl, (Below.refl _ _).alloc (Nat.le_refl _) _⟩

theorem dg_two (n : Int) : dg n 4 = dg (n / 100) 2 ++ dg n 2 := by
  simp only [dg, List.nil_append, List.append_assoc]
  have e1 : n / 10 / 10 = n / 100 := by omega
  rw [e1]
theorem dg_mod (n : Int) (h : 0 ≤ n) : dg (n % 100) 2 = dg n 2 := by
  simp only [dg, List.nil_append]
  have e1 : n % 100 / 10 % 10 = n / 10 % 10 := by omega
  have e2 : n % 100 % 10 = n % 10 := by omega
  rw [e1, e2]
/-- a date in one of three forms -/
def writtenL (y m d form : Int) : List UInt8 :=
  if form = 0 then dg y 4 ++ [45] ++ dg m 2 ++ [45] ++ dg d 2 else if form = 1 then dg d 2 ++ [46] ++ dg m 2 ++ [46] ++ dg y 4 else dg m 2 ++ [47] ++ dg d 2 ++ [47] ++ dg y 4
set_option maxHeartbeats 400000 in
theorem mod_any (x n : Int) (w : World) (hx : 0 ≤ x) (hx2 : x ≤ 1000000000000) (hn : 1 ≤ n) (hn2 : n ≤ 1000000000) :
    Calls Tryz.prog 173 #[.int .i64 x, .int .i64 n] w fun e w' => e = .returned (.int .i64 (x % n)) ∧ w = w' := by
  have h1 : 0 ≤ x % n := Int.emod_nonneg _ (by omega)
  have h2 : x % n < n := Int.emod_lt_of_pos _ (by omega)
  have h3 : 0 ≤ x % n + n := by omega
  have H4 := Lib.hid (show (x % n + n) % n = x % n by rw [Int.add_emod_right]; exact Int.emod_eq_of_lt h1 h2)
  go_enter Tryz.func173, Tryz.ntmps173
  go_wp2
  go_ret
  exact ⟨ret_int (by have := H4.out; simp [this]), rfl⟩
set_option maxHeartbeats 1000000 in
theorem written_any (y m d form : Int) (w : World) (hb : 1800 ≤ y ∧ y ≤ 2199 ∧ 0 ≤ m ∧ m ≤ 13 ∧ 1 ≤ d ∧ d ≤ 32) (hf : 0 ≤ form ∧ form ≤ 2) :
    Calls Tryz.prog 116 #[.agg #[.int .i64 y, .int .i64 m, .int .i64 d], .int .i64 form] w fun e w' => e = .returned (.string ⟨(writtenL y m d form).toArray⟩) ∧ Below w.heap.size w w' := by
  obtain ⟨b1, b2, b3, b4, b5, b6⟩ := hb
  obtain ⟨f1, f2⟩ := hf
  have q1 : 0 ≤ y / 100 ∧ y / 100 ≤ 99 := by omega
  have q2 : 0 ≤ y % 100 ∧ y % 100 ≤ 99 := by omega
  obtain ⟨q1, q1'⟩ := q1
  obtain ⟨q2, q2'⟩ := q2
  have HM := fun w => Lib.hid (mod_any form 3 w f1 (by omega) (by omega) (by omega))
  rw [show form % 3 = form by omega] at HM
  go_enter Tryz.func116, Tryz.ntmps116
  go_wp2_with fail
  have m99 : m ≤ 99 := by omega
  have d99 : d ≤ 99 := by omega
  have d0 : 0 ≤ d := by omega
  have e1 : IntKind.i64.wrap (y.tdiv 100) = y / 100 := by rw [Int.tdiv_eq_ediv_of_nonneg (by omega)]; exact IntWalk.i64_in _ ⟨by omega, by omega⟩
  have e2 : y.tmod 100 = y % 100 := Int.tmod_eq_emod_of_nonneg (by omega)
  refine wp_region_noPanic ?_
  refine wp_region_held_drew (S := (fun w' => w'.cell? ⟨w.heap.size, 0, none⟩ = some (.int .i64 y) ∧ w'.cell? ⟨w.heap.size, 1, none⟩ = some (.int .i64 m) ∧ w'.cell? ⟨w.heap.size, 2, none⟩ = some (.int .i64 d))) (by kernel_rfl) (⟨by simp, by simp, by simp⟩) (fun hHeld => ?_)
  refine tH 0 (h := ?_)
  refine tH 1 (h := ?_)
  refine tH 2 (h := ?_)
  refine tH 4 (h := ?_)
  refine tH 5 (h := ?_)
  refine tH 6 (h := ?_)
  refine tH 9 (h := ?_)
  refine tH 10 (h := ?_)
  refine tH 12 (h := ?_)
  refine tH 13 (h := ?_)
  refine wpAnyH_ready (rs := [3]) (by kernel_rfl) (by simp) ?_
  refine AllReadyH.cons rfl (fun K hK => ?_) AllReadyH.nil
  go_simp
  refine (two_any _ _ q1 q1').mono ?_; rintro e w1 ⟨rfl, hb1⟩; have z1 : w.heap.size < w1.heap.size := (by clear e1 e2; have := hb1.size; simp at this; omega); have HB1 := Lib.hid ((((Below.refl _ _).alloc (Nat.le_refl _) _).drew).trans (hb1.mono (by simp))); have c01 : w1.cell? ⟨w.heap.size, 0, none⟩ = some (.int .i64 y) := (hb1.cell (p := ⟨w.heap.size, 0, none⟩) (by simp)).trans (by simp); have c11 : w1.cell? ⟨w.heap.size, 1, none⟩ = some (.int .i64 m) := (hb1.cell (p := ⟨w.heap.size, 1, none⟩) (by simp)).trans (by simp); have c21 : w1.cell? ⟨w.heap.size, 2, none⟩ = some (.int .i64 d) := (hb1.cell (p := ⟨w.heap.size, 2, none⟩) (by simp)).trans (by simp); clear hb1
  refine hK.out _ _ (⟨c01, c11, c21⟩) (fun hHeld => ?_)
  clear hK K
  try simp only [List.getElem_toArray, List.getElem_cons_zero, List.getElem_cons_succ, Act.put, List.setIfInBounds_toArray, List.set_cons_zero, List.set_cons_succ]
  refine wpAnyH_ready (rs := [7]) (by kernel_rfl) (by simp) ?_
  refine AllReadyH.cons rfl (fun K hK => ?_) AllReadyH.nil
  go_simp
  refine (two_any _ _ q2 q2').mono ?_; rintro e w2 ⟨rfl, hb2⟩; have z2 : w.heap.size < w2.heap.size := (by clear e1 e2; have := hb2.size; omega); have HB2 := Lib.hid (HB1.out.trans (hb2.mono HB1.out.size)); have c02 := (hb2.cell (p := ⟨w.heap.size, 0, none⟩) z1).trans c01; have c12 := (hb2.cell (p := ⟨w.heap.size, 1, none⟩) z1).trans c11; have c22 := (hb2.cell (p := ⟨w.heap.size, 2, none⟩) z1).trans c21; clear hb2 c01 c11 c21
  refine hK.out _ _ (⟨c02, c12, c22⟩) (fun hHeld => ?_)
  clear hK K
  try simp only [List.getElem_toArray, List.getElem_cons_zero, List.getElem_cons_succ, Act.put, List.setIfInBounds_toArray, List.set_cons_zero, List.set_cons_succ]
  refine tH 8 (h := ?_)
  refine wpAnyH_ready (rs := [11]) (by kernel_rfl) (by simp) ?_
  refine AllReadyH.cons rfl (fun K hK => ?_) AllReadyH.nil
  go_simp
  refine (two_any _ _ b3 m99).mono ?_; rintro e w3 ⟨rfl, hb3⟩; have z3 : w.heap.size < w3.heap.size := (by clear e1 e2; have := hb3.size; omega); have HB3 := Lib.hid (HB2.out.trans (hb3.mono HB2.out.size)); have c03 := (hb3.cell (p := ⟨w.heap.size, 0, none⟩) z2).trans c02; have c13 := (hb3.cell (p := ⟨w.heap.size, 1, none⟩) z2).trans c12; have c23 := (hb3.cell (p := ⟨w.heap.size, 2, none⟩) z2).trans c22; clear hb3 c02 c12 c22
  refine hK.out _ _ (⟨c03, c13, c23⟩) (fun hHeld => ?_)
  clear hK K
  try simp only [List.getElem_toArray, List.getElem_cons_zero, List.getElem_cons_succ, Act.put, List.setIfInBounds_toArray, List.set_cons_zero, List.set_cons_succ]
  refine wpAnyH_ready (rs := [14]) (by kernel_rfl) (by simp) ?_
  refine AllReadyH.cons rfl (fun K hK => ?_) AllReadyH.nil
  go_simp
  refine (two_any _ _ d0 d99).mono ?_; rintro e w4 ⟨rfl, hb4⟩; have z4 : w.heap.size < w4.heap.size := (by clear e1 e2; have := hb4.size; omega); have HB4 := Lib.hid (HB3.out.trans (hb4.mono HB3.out.size)); have c04 := (hb4.cell (p := ⟨w.heap.size, 0, none⟩) z3).trans c03; have c14 := (hb4.cell (p := ⟨w.heap.size, 1, none⟩) z3).trans c13; have c24 := (hb4.cell (p := ⟨w.heap.size, 2, none⟩) z3).trans c23; clear hb4 c03 c13 c23
  refine hK.out _ _ (⟨c04, c14, c24⟩) (fun hHeld => ?_)
  clear hK K
  try simp only [List.getElem_toArray, List.getElem_cons_zero, List.getElem_cons_succ, Act.put, List.setIfInBounds_toArray, List.set_cons_zero, List.set_cons_succ]
  refine tH 15 (h := ?_)
  refine tH 16 (h := ?_)
  refine tH 17 (h := ?_)
  refine wpAnyH_done (by kernel_rfl) ?_ _
  refine NoPanic.normal ?_
  clear e1 e2
  go_wp2_with fail
  refine (HM _).out.mono ?_; rintro e w' ⟨rfl, rfl⟩
  go_wp2_with fail
  all_goals
    go_ret
    refine ⟨ret_str ?_, HB4.out⟩
    simp only [beq_iff_eq, beq_eq_false_iff_ne, ne_eq] at *
    simp [writtenL, dg_two y, dg_mod y (by omega), *]
end
section
set_option maxRecDepth 100000
open Go.RowKit Cal
attribute [local go_sem] toList_mk mk_size
abbrev fnV (g : Nat) : Value := .func (.func g) #[] #[]
def kind0 : Array Value := #[.string ⟨#[]⟩, .nilFunc, .nilFunc, .nilFunc]
def kind1 : Array Value := #[.string ⟨#[110, 97, 109, 101]⟩, fnV 273, fnV 274, fnV 275]
def kind2 : Array Value := #[.string ⟨#[100, 97, 116, 101]⟩, fnV 276, fnV 277, fnV 279]
def kind3 : Array Value := #[.string ⟨#[99, 111, 100, 101]⟩, fnV 280, fnV 282, fnV 284]
def kind4 : Array Value := #[.string ⟨#[97, 100, 100, 114, 101, 115, 115]⟩, fnV 285, fnV 286, fnV 275]
def kindsV : Array Value := kind0 ++ kind1 ++ kind2 ++ kind3 ++ kind4
set_option maxHeartbeats 1000000 in
theorem kinds_any (w : World) :
    Calls Tryz.prog 248 #[] w fun e w' => e = .returned (.agg kindsV) ∧ Below w.heap.size w w' := by
  go_enter Tryz.func248, Tryz.ntmps248
  go_upto_region 1 with (fail)
  rename_i hK
  refine wp_region_list ?_
  refine wpList_buildTo rfl 229 _ rfl (some 1) rfl kind1 (by kernel_rfl) ?_
  refine wpList_buildTo rfl 229 _ rfl (some 2) rfl kind2 (by kernel_rfl) ?_
  refine wpList_buildTo rfl 229 _ rfl (some 3) rfl kind3 (by kernel_rfl) ?_
  refine wpList_buildTo rfl 229 _ rfl (some 4) rfl kind4 (by kernel_rfl) ?_
  refine wpList_buildTo rfl 260 _ rfl (some 5) rfl kindsV (by kernel_rfl) ?_
  refine wpList_store_row rfl 260 _ _ rfl w.heap.size kindsV rfl rfl 260 _ (heap_alloc_new w _) (by kernel_rfl) (by kernel_rfl) (by kernel_rfl) ?_
  refine wpList_nil ?_
  rw [World.setRow_alloc_new]
  refine hK _ _ ?_
  go_wp2_with fail
  exact bodyPost_row1 rfl rfl (heap_alloc_new w _) Tryz.underlying260 rfl (by kernel_rfl) ⟨rfl, (Below.refl _ _).alloc (Nat.le_refl _) _⟩
def wordB (l : List UInt8) : Bool := bif l.isEmpty then false else bif decide (l.length ≤ 12) then lettersL l == l else false
set_option maxHeartbeats 400000 in
theorem word_is (l : List UInt8) (w : World) :
    Calls Tryz.prog 105 #[strV l] w fun e w' => e = .returned (.bool (wordB l)) ∧ Below w.heap.size w w' := by
  unfold wordB
  by_cases h0 : l = []
  · subst h0
    go_enter Tryz.func105, Tryz.ntmps105
    go_wp2
    go_ret
    exact ⟨rfl, Below.refl _ _⟩
  · have h1 : l.isEmpty = false := by simpa using h0
    have h2 : (l == []) = false := by simpa using h0
    rw [h1]
    by_cases h3 : l.length ≤ 12
    · have h4 : decide (l.length ≤ 12) = true := by simpa using h3
      have h5 : decide ((l.length : Int) ≤ 12) = true := by simp; omega
      rw [h4]
      clear h0 h4
      go_enter Tryz.func105, Tryz.ntmps105
      go_wp2_with fail
      refine (letters_any ⟨l.toArray⟩ _ (by rw [mk_size]; omega)).mono ?_
      rintro e w1 ⟨rfl, hb⟩
      go_wp2_with fail
      go_ret
      exact ⟨rfl, hb⟩
    · have h4 : decide (l.length ≤ 12) = false := by simpa using h3
      have h5 : decide ((l.length : Int) ≤ 12) = false := by simp; omega
      rw [h4]
      clear h0 h4
      go_enter Tryz.func105, Tryz.ntmps105
      go_wp2_with fail
      go_ret
      exact ⟨rfl, Below.refl _ _⟩
end
section
set_option maxRecDepth 100000
open Go.RowKit Cal
attribute [local go_sem] toList_mk mk_size
def dayF (y m d : List UInt8) : List UInt8 × Int := bif vldB (numI y) (numI m) (numI d) then (digits8 (numI y) (numI m) (numI d), 0) else ([], 4)
def byteL (l : List UInt8) (i : Nat) : Int := ((l.getD i 0).toNat : Int)
/-- the eight digits of a day that is written in one of three forms, and the error -/
def dayN (l : List UInt8) : List UInt8 × Int :=
  if l.length = 10 then
    if byteL l 4 = 45 ∧ byteL l 7 = 45 then dayF (l.take 4) ((l.drop 5).take 2) ((l.drop 8).take 2)
    else if byteL l 2 = 46 ∧ byteL l 5 = 46 then dayF ((l.drop 6).take 4) ((l.drop 3).take 2) (l.take 2)
    else if byteL l 2 = 47 ∧ byteL l 5 = 47 then dayF ((l.drop 6).take 4) (l.take 2) ((l.drop 3).take 2)
    else ([], 4)
  else ([], 4)
def DayIs (x : Value) (p : List UInt8 × Int) : Prop := (∃ a b c : Int, vldB a b c = true ∧ x = .tuple #[.agg #[.int .i64 a, .int .i64 b, .int .i64 c], .int .i64 0] ∧ p = (digits8 a b c, 0)) ∨ (x = .tuple #[.agg #[.int .i64 0, .int .i64 0, .int .i64 0], .int .i64 4] ∧ p = ([], 4))
theorem dateL_is (y m d : List UInt8) : DayIs (dateL y m d) (dayF y m d) := by
  unfold dateL dateR dayF
  cases h : vldB (numI y) (numI m) (numI d)
  · exact .inr ⟨rfl, rfl⟩
  · exact .inl ⟨_, _, _, h, rfl, rfl⟩
theorem parse_is (s : ByteArray) : DayIs (parseV s) (dayN s.data.toList) := by
  have hl : s.data.toList.length = s.size := by simp
  unfold parseV dayN
  rw [hl]
  show DayIs _ (if s.size = 10 then if byteAt s 4 = 45 ∧ byteAt s 7 = 45 then _ else if byteAt s 2 = 46 ∧ byteAt s 5 = 46 then _ else if byteAt s 2 = 47 ∧ byteAt s 5 = 47 then _ else _ else _)
  split
  · split
    · exact dateL_is _ _ _
    · split
      · exact dateL_is _ _ _
      · split
        · exact dateL_is _ _ _
        · exact .inr ⟨rfl, rfl⟩
  · exact .inr ⟨rfl, rfl⟩
/-- eight digits of a day that exists -/
def readB (l : List UInt8) : Bool := bif decide (l.length = 8) then vldB (numI (l.take 4)) (numI ((l.drop 4).take 2)) (numI ((l.drop 6).take 2)) else false
theorem read_is (s : ByteArray) : ∃ a b c : Int, (bif decide (s.size = 8) then dateL (s.data.toList.take 4) ((s.data.toList.drop 4).take 2) ((s.data.toList.drop 6).take 2) else dateV false 0 0 0 4) = .tuple #[.agg #[.int .i64 a, .int .i64 b, .int .i64 c], .int .i64 (cd (readB s.data.toList) 4)] := by
  have hl : s.data.toList.length = s.size := by simp
  unfold readB
  rw [hl]
  cases decide (s.size = 8)
  · exact ⟨0, 0, 0, rfl⟩
  · exact ⟨_, _, _, rfl⟩
set_option maxHeartbeats 1000000 in
theorem kind1_any (vt vn vs : Value) (s : ByteArray) (w : World) :
    Calls Tryz.prog 277 #[.agg #[vt, vn, vs], .string s] w fun e w' => e = .returned (.bool (readB s.data.toList)) ∧ Below w.heap.size w w' := by
  obtain ⟨a, b, c, hr⟩ := read_is s
  have HR := Lib.hid hr; clear hr
  go_enter Tryz.func277, Tryz.ntmps277
  go_wp2_with fail
  refine (read_any s _).mono ?_
  rw [HR.out]
  obtain ⟨v, hv⟩ : ∃ v, readB s.data.toList = v := ⟨_, rfl⟩
  rw [hv]
  have HV := Lib.hid hv; clear hv HR
  rintro e w1 ⟨rfl, hb1⟩
  have HB1 := Lib.hid (((Below.refl w.heap.size w).alloc (Nat.le_refl _) _).trans (hb1.mono (by simp)))
  clear hb1
  cases v
  all_goals
    simp only [cd_false, cd_true]
    go_wp2_with fail
    go_ret
    exact ⟨ret_bool (by rw [HV.out]; try rfl), HB1.out.alloc HB1.out.size _⟩
set_option maxHeartbeats 1000000 in
theorem kind3_any (vt vn vs : Value) (s : ByteArray) (w : World) (hs : s.size ≤ 9223372036854775000) :
    Calls Tryz.prog 282 #[.agg #[vt, vn, vs], .string s] w fun e w' => e = .returned (.bool (isOwn (codeN s.data.toList) s.data.toList)) ∧ Below w.heap.size w w' := by
  go_enter Tryz.func282, Tryz.ntmps282
  go_wp2_with fail
  refine (normed_any s _ hs).mono ?_
  rintro e w1 ⟨rfl, hb1⟩
  have HB1 := Lib.hid (((Below.refl w.heap.size w).alloc (Nat.le_refl _) _).trans (hb1.mono (by simp)))
  clear hb1
  go_wp2_with fail
  go_ret
  exact ⟨rfl, HB1.out⟩
end
section
set_option maxRecDepth 100000
open Go.RowKit Cal
attribute [local go_sem] toList_mk mk_size
abbrev F2 := List UInt8 × Int
def encF (x : F2) : List Value := [strV x.1, .int .i64 x.2]
structure SchemaL where
  fields : List F2
  rules : RulesL
def SchemaAt (w : World) (S : Nat → Prop) (vf vt vn vs : Value) (s : SchemaL) : Prop := Vec w S 2 encF vf s.fields ∧ RulesAt w S vt vn vs s.rules
theorem SchemaAt.below {w w' : World} {S : Nat → Prop} {vf vt vn vs : Value} {s : SchemaL} (h : SchemaAt w S vf vt vn vs s) (hb : Below w.heap.size w w') : SchemaAt w' S vf vt vn vs s := ⟨h.1.below hb, h.2.below hb⟩
theorem SchemaAt.any {w : World} {S : Nat → Prop} {vf vt vn vs : Value} {s : SchemaL} (h : SchemaAt w S vf vt vn vs s) : SchemaAt w Any1 vf vt vn vs s := ⟨h.1.any, h.2.any⟩
theorem Vec.take {α : Type} {w : World} {S : Nat → Prop} {k : Nat} {enc : α → List Value} {a : Option Addr} {n cap : Nat} {L : List α} (h : Vec w S k enc (.slice a n cap) L) (i : Nat) (hi : i ≤ L.length) : Vec w S k enc (.slice a i cap) (L.take i) := by
  obtain ⟨a', cap', h1, h2, h3⟩ := h
  cases h1
  refine ⟨a, cap, by rw [List.length_take, Nat.min_eq_left hi], by rw [List.length_take]; omega, fun h0 => ?_⟩
  rw [List.length_take] at h0
  obtain ⟨b, off, h4, h5, h5', h6⟩ := h3 (by omega)
  refine ⟨b, off, h4, h5, h5', fun j x hj => h6 j x ?_⟩
  rw [List.getElem?_take] at hj
  split at hj
  · exact hj
  · cases hj
theorem cells4 {w : World} {b : Nat} {x y z u : Value} {t : TypeId} {fr : Nat × Nat} (h : w.heap[b]? = some (.cells #[x, y, z, u] t fr)) :
    w.cell? ⟨b, 0, none⟩ = some x ∧ w.cell? ⟨b, 1, none⟩ = some y ∧ w.cell? ⟨b, 2, none⟩ = some z ∧ w.cell? ⟨b, 3, none⟩ = some u := by
  refine ⟨?_, ?_, ?_, ?_⟩ <;> (rw [cell_of_row _ _ _ _ _ _ h]; rfl)
theorem pred_field (nm : List UInt8) (B : Nat) (w : World) (hB : B < w.heap.size) (hcell : w.cell? ⟨B, 0, none⟩ = some (strV nm)) :
    PredBelow Tryz.prog 104 #[.pointer (some ⟨B, 0, none⟩)] (fun x => .agg (encF x).toArray) (fun x => x.1 == nm) w := fun W x hb => by
  have hc : W.cell? ⟨B, 0, none⟩ = some (strV nm) := (hb.cell (p := ⟨B, 0, none⟩) hB).trans hcell
  have hBW : B < W.heap.size := Nat.lt_of_lt_of_le hB hb.size
  have hne : B ≠ W.heap.size := by omega
  have HBb := Lib.hid hb; clear hb hcell
  obtain ⟨xn, xk⟩ := x
  show Calls Tryz.prog 104 #[.agg #[strV xn, .int .i64 xk], .pointer (some ⟨B, 0, none⟩)] W _
  go_enter Tryz.func104, Tryz.ntmps104
  go_wp2
  go_ret
  exact ⟨rfl, HBb.out.alloc HBb.out.size _⟩
set_option maxHeartbeats 400000 in
theorem idxF_nil (a : Option Addr) (c : Nat) (f : Value) (w : World) :
    Calls Tryz.prog 154 #[.slice a 0 c, f] w fun e w' => e = .returned (.int .i64 (-1)) ∧ w = w' := by
  go_enter Tryz.func154, Tryz.ntmps154
  go_wp2
  refine wp_loop_rounds 1 ?_; rw [rounds_succ]
  go_wp2
  go_ret
  exact ⟨rfl, rfl⟩
set_option maxHeartbeats 400000 in
theorem contF_nil (a : Option Addr) (c : Nat) (f : Value) (w : World) :
    Calls Tryz.prog 103 #[.slice a 0 c, f] w fun e w' => e = .returned (.bool false) ∧ w = w' := by
  go_enter Tryz.func103, Tryz.ntmps103
  go_wp2_with fail
  refine (idxF_nil a c _ _).mono ?_
  rintro e w1 ⟨rfl, rfl⟩
  go_wp2_with fail
  go_ret
  exact ⟨rfl, rfl⟩
theorem contF_any (p : F2 → Bool) (g : Nat) (lb : Array Value) (eg : ∀ args w, (callFunc g args).run Tryz.prog w = .ok (.enter g args) w) (S : Nat → Prop) (v : Value) (L : List F2) (w : World) (h : Vec w S 2 encF v L) (hn : L.length ≤ 1000000) (hp : PredBelow Tryz.prog g lb (fun x => .agg (encF x).toArray) p w) :
    Calls Tryz.prog 103 #[v, .func (.func g) #[] lb] w fun e w' => e = .returned (.bool (L.any p)) ∧ Below w.heap.size w w' := by
  obtain ⟨a, cap, rfl, hcap, h0⟩ := h
  by_cases hz : L = []
  · subst hz
    exact (contF_nil a cap _ w).mono fun e w' ⟨he, hw⟩ => ⟨he, by rw [← hw]; exact Below.refl _ _⟩
  · obtain ⟨b, off, rfl, _, hb, hc⟩ := h0 (List.length_pos_iff.2 hz)
    have hcon := AnyQ.slices_ContainsFunc Tryz.laysCF 2 Tryz.isAgg91 Tryz.sizeOf91 encF (fun _ => rfl) p g lb eg b off L.length cap L w hp (Nat.le_refl _) (by omega) hb (fun j hj i u hi => by
        have e : L[j]? = some L[j]! := by rw [List.getElem?_eq_getElem hj, getElem!_pos L j hj]
        exact hc j _ e i u hi)
    rw [List.take_of_length_le (Nat.le_refl _)] at hcon
    exact hcon
def fieldAtB (F : List F2) (j : Nat) : Bool := wordB (F.getD j default).1 && !((F.take j).any fun x => x.1 == (F.getD j default).1) && decide (1 ≤ (F.getD j default).2) && decide ((F.getD j default).2 ≤ 4)
def fieldsB (F : List F2) : Bool := (List.range F.length).all (fieldAtB F)
def checkS (s : SchemaL) : Int := if s.fields.length < 1 ∨ 5 < s.fields.length then 6 else if fieldsB s.fields = true then checkR s.rules else 6
set_option maxHeartbeats 4000000 in
theorem scheck_any (S : Nat → Prop) (vf vt vn vs : Value) (s : SchemaL) (w : World) (h : SchemaAt w S vf vt vn vs s) :
    Calls Tryz.prog 50 #[.agg #[vf, vt, vn, vs]] w fun e w' => e = .returned (.int .i64 (checkS s)) ∧ Below w.heap.size w w' := by
  obtain ⟨F, r⟩ := s
  obtain ⟨h1, h2⟩ := h
  dsimp only at h1 h2
  obtain ⟨af, cf, rfl⟩ := h1.slice
  have H1 := Lib.hid h1.any; have H2 := Lib.hid h2.any
  clear h1 h2
  have hfin : ∀ n : Int, checkS ⟨F, r⟩ = n → Ending.returned (.int .i64 n) = .returned (.int .i64 (checkS ⟨F, r⟩)) := fun n h => by rw [h]
  have HF := Lib.hid hfin; clear hfin
  by_cases g1 : F.length < 1
  · have d1 : decide ((F.length : Int) < 1) = true := by simp; omega
    go_enter Tryz.func50, Tryz.ntmps50
    go_wp2_with fail
    go_ret
    exact ⟨HF.out 6 (by unfold checkS; rw [if_pos (.inl g1)]), (Below.refl _ _).alloc (Nat.le_refl _) _⟩
  · have d1 : decide ((F.length : Int) < 1) = false := by simp; omega
    by_cases g2 : 5 < F.length
    · have d2 : decide ((5 : Int) < F.length) = true := by simp; omega
      go_enter Tryz.func50, Tryz.ntmps50
      go_wp2_with fail
      go_ret
      exact ⟨HF.out 6 (by unfold checkS; rw [if_pos (.inr g2)]), (Below.refl _ _).alloc (Nat.le_refl _) _⟩
    · have d2 : decide ((5 : Int) < F.length) = false := by simp; omega
      have HN := Lib.hid (show ¬ (F.length < 1 ∨ 5 < F.length) by omega)
      obtain ⟨b, off, rfl, _, hb, hc⟩ := vec_cell2 H1.out (by omega)
      have HC := Lib.hid hc; clear hc
      go_enter Tryz.func50, Tryz.ntmps50
      go_wp2_with fail
      clear d1 d2
      go_loopw [19] (fun i wr => ∃ k : Nat, k ≤ F.length ∧ i = .int .i64 k ∧ wr.heap[w.heap.size]? = some (.cells #[.slice (some ⟨b, off, none⟩) F.length cf, vt, vn, vs] 43 (0, 0)) ∧ Below w.heap.size w wr ∧ ∀ j, j < k → fieldAtB F j = true) (fun i _ => F.length - (intOf i).toNat)
      case atStart => exact ⟨0, by omega, rfl, blk_new rfl, (Below.refl _ _).alloc (Nat.le_refl _) _, fun j hj => by omega⟩
      case round =>
        obtain ⟨k, hk, rfl, hX, hbw, ha⟩ := hrel
        have HA := Lib.hid ha; clear ha
        obtain ⟨p0, p1, p2, p3⟩ := cells4 hX
        have zX := lt_of_blk hX
        have HX := Lib.hid hX; clear hX
        have HW := Lib.hid hbw
        by_cases hlt : k < F.length
        · have hq : decide ((k : Int) < F.length) = true := by simp; omega
          have hi : (k : Int) < (F.length : Int) := by omega
          have hcap := H1.out.len.2
          obtain ⟨x, hx⟩ : ∃ x, F.getD k default = x := ⟨_, rfl⟩
          have hc := HC.out k hlt
          rw [hx] at hc
          have c0 : wr.cell? ⟨b, off + k * 2, none⟩ = some (strV x.1) := (hbw.cell (p := ⟨b, off + k * 2, none⟩) hb).trans (hc 0 _ rfl)
          have c1 : wr.cell? ⟨b, off + k * 2 + 1, none⟩ = some (.int .i64 x.2) := (hbw.cell (p := ⟨b, off + k * 2 + 1, none⟩) hb).trans (hc 1 _ rfl)
          have hfa : fieldAtB F k = (wordB x.1 && !((F.take k).any fun y => y.1 == x.1) && decide (1 ≤ x.2) && decide (x.2 ≤ 4)) := by simp only [fieldAtB]; rw [hx]
          have HFa := Lib.hid hfa
          obtain ⟨nm, kd⟩ := x
          dsimp only at c0 c1 HFa
          clear hx hc hbw hfa
          go_wp2_with fail
          have eg : ∀ args w, (callFunc 104 args).run Tryz.prog w = .ok (.enter 104 args) w := enters_of Tryz.func104 (by kernel_rfl) rfl
          refine (contF_any (fun y => y.1 == nm) 104 #[.pointer (some ⟨wr.heap.size, 0, none⟩)] eg Any1 _ (F.take k) _ ((H1.out.take k (by omega)).below (HW.out.alloc HW.out.size _)) (by have := List.length_take_le k F; omega) (pred_field nm wr.heap.size _ (by simp) (by simp))).mono ?_
          obtain ⟨u, hu⟩ : ∃ u, (F.take k).any (fun y => y.1 == nm) = u := ⟨_, rfl⟩
          rw [hu] at HFa ⊢
          clear eg hu
          rintro e w2 ⟨rfl, hb2⟩
          have hX2 : w2.heap[w.heap.size]? = some (.cells #[.slice (some ⟨b, off, none⟩) F.length cf, vt, vn, vs] 43 (0, 0)) := blk_below hb2 (by simp; omega) (blk_old HX.out)
          have hY2 : w2.heap[wr.heap.size]? = some (.cells #[strV nm, .int .i64 kd] 91 (0, 0)) := blk_below hb2 (by simp) (blk_new rfl)
          have HW2 := Lib.hid ((HW.out.alloc HW.out.size (.cells #[strV nm, .int .i64 kd] 91)).trans (hb2.mono (by have := HW.out.size; simp; omega)))
          have q0 : w2.cell? ⟨wr.heap.size, 0, none⟩ = some (strV nm) := by rw [cell_of_row _ _ _ _ _ _ hY2]; rfl
          have q1 : w2.cell? ⟨wr.heap.size, 1, none⟩ = some (.int .i64 kd) := by rw [cell_of_row _ _ _ _ _ _ hY2]; rfl
          have zX2 := lt_of_blk hX2; have zY2 := lt_of_blk hY2
          have HX2 := Lib.hid hX2; have HY2 := Lib.hid hY2
          clear hb2 hX2 hY2 p0 p1 p2 p3 HX HW c0 c1
          go_wp2_with fail
          refine (word_is nm _).mono ?_
          obtain ⟨wb, hwb⟩ : ∃ wb, wordB nm = wb := ⟨_, rfl⟩
          rw [hwb] at HFa ⊢
          clear hwb
          rintro e w3 ⟨rfl, hb3⟩
          have q0 : w3.cell? ⟨wr.heap.size, 0, none⟩ = some (strV nm) := (hb3.cell (p := ⟨wr.heap.size, 0, none⟩) zY2).trans q0
          have q1 : w3.cell? ⟨wr.heap.size, 1, none⟩ = some (.int .i64 kd) := (hb3.cell (p := ⟨wr.heap.size, 1, none⟩) zY2).trans q1
          have HX3 := Lib.hid (blk_below hb3 zX2 HX2.out)
          have HW3 := Lib.hid (HW2.out.trans (hb3.mono HW2.out.size))
          clear hb3 HX2 HW2 HY2
          cases wb
          · have HFa := Lib.hid (show fieldAtB F k = false by rw [HFa.out]; rfl)
            go_wp2_with fail
            go_ret
            exact ⟨HF.out 6 (by unfold checkS; rw [if_neg HN.out, if_neg (by rw [fieldsB, all_false hlt HFa.out]; simp)]), HW3.out⟩
          · cases u
            · by_cases k1 : 1 ≤ kd
              · by_cases k4 : kd ≤ 4
                · have HFa := Lib.hid (show fieldAtB F k = true by rw [HFa.out]; simp [k1, k4])
                  go_wp2_with fail
                  go_roundw
                  case rel => exact ⟨k + 1, by omega, by go_num, HX3.out, HW3.out, fun j hj => by
                    by_cases e : j = k
                    · subst e; exact HFa.out
                    · exact HA.out j (by omega)⟩
                  case measure => simp [intOf]; omega
                · have HFa := Lib.hid (show fieldAtB F k = false by rw [HFa.out]; simp [k4])
                  have k5 : 4 < kd := by omega
                  go_wp2_with fail
                  go_ret
                  exact ⟨HF.out 6 (by unfold checkS; rw [if_neg HN.out, if_neg (by rw [fieldsB, all_false hlt HFa.out]; simp)]), HW3.out⟩
              · have HFa := Lib.hid (show fieldAtB F k = false by rw [HFa.out]; simp [k1])
                have k5 : kd < 1 := by omega
                go_wp2_with fail
                go_ret
                exact ⟨HF.out 6 (by unfold checkS; rw [if_neg HN.out, if_neg (by rw [fieldsB, all_false hlt HFa.out]; simp)]), HW3.out⟩
            · have HFa := Lib.hid (show fieldAtB F k = false by rw [HFa.out]; simp)
              go_wp2_with fail
              go_ret
              exact ⟨HF.out 6 (by unfold checkS; rw [if_neg HN.out, if_neg (by rw [fieldsB, all_false hlt HFa.out]; simp)]), HW3.out⟩
        · have hq : decide ((k : Int) < F.length) = false := by simp; omega
          clear hbw
          go_wp2_with fail
          refine (rcheck_any Any1 vt vn vs r _ (H2.out.below HW.out)).mono ?_
          obtain ⟨c, hc⟩ : ∃ c, checkR r = c := ⟨_, rfl⟩
          rw [hc]
          have HCc := Lib.hid hc; clear hc
          rintro e w3 ⟨rfl, hb3⟩
          have HW3 := Lib.hid (HW.out.trans (hb3.mono HW.out.size))
          clear hb3
          go_wp2_with fail
          go_ret
          exact ⟨HF.out c (by unfold checkS; rw [if_neg HN.out, if_pos (by rw [fieldsB]; exact all_true fun j hj => HA.out j (by have hj' : j < F.length := hj; omega))]; exact HCc.out), HW3.out⟩
end
section
set_option maxRecDepth 100000
open Go.RowKit Cal
attribute [local go_sem] toList_mk mk_size
/-- what is done with the values of kind k -/
def kindAt (k : Int) : Array Value := if k = 1 then kind1 else if k = 2 then kind2 else if k = 3 then kind3 else if k = 4 then kind4 else kind0
/-- the kind of a field, and the error -/
def findN (s : SchemaL) (f : Int) : Int × Int := if checkS s = 0 then (if 0 ≤ f ∧ f < s.fields.length then ((s.fields.getD f.toNat default).2, 0) else (0, 2)) else (0, checkS s)
def findV (p : Int × Int) : Value := .tuple #[.agg (kindAt p.1), .int .i64 p.2]
theorem check_fields {s : SchemaL} (h : checkS s = 0) : (1 ≤ s.fields.length ∧ s.fields.length ≤ 5) ∧ fieldsB s.fields = true ∧ checkR s.rules = 0 := by
  unfold checkS at h
  split at h
  · omega
  · split at h
    · rename_i h1 h2; exact ⟨by omega, h2, h⟩
    · omega
theorem field_kind {F : List F2} (h : fieldsB F = true) (j : Nat) (hj : j < F.length) : 1 ≤ (F.getD j default).2 ∧ (F.getD j default).2 ≤ 4 := by
  have := List.all_eq_true.1 h j (List.mem_range.2 hj)
  unfold fieldAtB at this
  simp only [Bool.and_eq_true, decide_eq_true_iff] at this
  exact ⟨this.1.2, this.2⟩
theorem heap_setRow {w : World} {g : Nat} {old cs : Array Value} {t : TypeId} {fr : Nat × Nat} (h : w.heap[g]? = some (.cells old t fr)) : (w.setRow g cs).heap[g]? = some (.cells cs t fr) := by
  have hlt := lt_of_blk h
  have h' : w.heap[g] = .cells old t fr := by simpa [Array.getElem?_eq_getElem hlt] using h
  show (w.heap.modify g _)[g]? = _
  rw [Array.getElem?_eq_getElem (by simpa using hlt), Array.getElem_modify_self, h']
theorem below_setRow {B g : Nat} {a w : World} {cs : Array Value} (h : Below B a w) (hg : B ≤ g) : Below B a (w.setRow g cs) := by
  refine ⟨h.os, h.tape, h.output, by simpa [World.setRow] using h.size, fun k hk => ?_⟩
  show (w.heap.modify g _)[k]? = _
  rw [Array.getElem?_modify, if_neg (by omega)]
  exact h.block k hk
set_option maxHeartbeats 1000000 in
theorem find_bad (S : Nat → Prop) (vf vt vn vs : Value) (s : SchemaL) (f : Int) (w : World) (h : SchemaAt w S vf vt vn vs s) (hc : checkS s ≠ 0) :
    Calls Tryz.prog 214 #[.agg #[vf, vt, vn, vs], .int .i64 f] w fun e w' => e = .returned (findV (findN s f)) ∧ Below w.heap.size w w' := by
  have HS := Lib.hid h.any
  have HF := Lib.hid (show findN s f = (0, checkS s) by unfold findN; rw [if_neg hc])
  have hne : (checkS s != 0) = true := by simpa using hc
  clear h hc
  go_enter Tryz.func214, Tryz.ntmps214
  go_wp2_with fail
  refine (scheck_any Any1 vf vt vn vs s _ (HS.out.below (((Below.refl _ _).alloc (Nat.le_refl _) _).alloc (by simp) _))).mono ?_
  obtain ⟨c, hcc⟩ : ∃ c, checkS s = c := ⟨_, rfl⟩
  rw [hcc] at hne HF ⊢
  clear hcc
  rintro e w1 ⟨rfl, hb1⟩
  have X1 : w1.heap[w.heap.size + 1]? = some (.cells kind0 229 (0, 0)) := blk_below hb1 (by simp) (heap_alloc2_new _ _ _)
  have HB1 := Lib.hid ((((Below.refl w.heap.size w).alloc (Nat.le_refl _) (.cells #[vf, vt, vn, vs] 43)).alloc (by simp) (.cells kind0 229)).trans (hb1.mono (by simp; omega)))
  have HX1 := Lib.hid X1
  have z1 := lt_of_blk X1
  clear hb1 X1
  go_wp2_with (refine wpList_store_row rfl 229 (.tmp 4) (.tmp 11) rfl (w.heap.size + 1) kind0 rfl rfl 229 kind0 HX1.out (by kernel_rfl) (by kernel_rfl) (by kernel_rfl) ?_)
  exact bodyPost_row2 rfl rfl (heap_setRow HX1.out) Tryz.underlying229 rfl (by kernel_rfl) ⟨by rw [HF.out]; rfl, below_setRow HB1.out (by omega)⟩
set_option maxHeartbeats 1000000 in
theorem find_out (S : Nat → Prop) (vf vt vn vs : Value) (s : SchemaL) (f : Int) (w : World) (h : SchemaAt w S vf vt vn vs s) (hc : checkS s = 0) (hf : f < 0 ∨ (s.fields.length : Int) ≤ f) :
    Calls Tryz.prog 214 #[.agg #[vf, vt, vn, vs], .int .i64 f] w fun e w' => e = .returned (findV (findN s f)) ∧ Below w.heap.size w w' := by
  obtain ⟨af, cf, rfl⟩ := h.1.slice
  have HS := Lib.hid h.any
  have HF := Lib.hid (show findN s f = (0, 2) by unfold findN; rw [if_pos hc, if_neg (by omega)])
  have HC := Lib.hid hc
  clear h hc
  have hf' : f < 0 ∨ (0 ≤ f ∧ (s.fields.length : Int) ≤ f) := by omega
  clear hf
  rcases hf' with hf | ⟨hf0, hf⟩
  all_goals
    go_enter Tryz.func214, Tryz.ntmps214
    go_wp2_with fail
    refine (scheck_any Any1 _ vt vn vs s _ (HS.out.below (((Below.refl _ _).alloc (Nat.le_refl _) _).alloc (by simp) _))).mono ?_
    rw [HC.out]
    rintro e w1 ⟨rfl, hb1⟩
    have X0 : w1.heap[w.heap.size]? = some (.cells #[.slice af s.fields.length cf, vt, vn, vs] 43 (0, 0)) := blk_below hb1 (by simp; omega) (heap_alloc2_old _ _ _)
    have X1 : w1.heap[w.heap.size + 1]? = some (.cells kind0 229 (0, 0)) := blk_below hb1 (by simp) (heap_alloc2_new _ _ _)
    have HB1 := Lib.hid ((((Below.refl w.heap.size w).alloc (Nat.le_refl _) (.cells #[.slice af s.fields.length cf, vt, vn, vs] 43)).alloc (by simp) (.cells kind0 229)).trans (hb1.mono (by simp; omega)))
    have HX1 := Lib.hid X1
    have z1 := lt_of_blk X1; have z0 := lt_of_blk X0
    obtain ⟨p0, p1, p2, p3⟩ := cells4 X0
    clear hb1 X1 X0
    go_wp2_with (refine wpList_store_row rfl 229 (.tmp 4) (.tmp 22) rfl (w.heap.size + 1) kind0 rfl rfl 229 kind0 HX1.out (by kernel_rfl) (by kernel_rfl) (by kernel_rfl) ?_)
    exact bodyPost_row2 rfl rfl (heap_setRow HX1.out) Tryz.underlying229 rfl (by kernel_rfl) ⟨by rw [HF.out]; rfl, below_setRow HB1.out (by omega)⟩
theorem setRow_other {w : World} {g k : Nat} {cs : Array Value} (h : k ≠ g) : (w.setRow g cs).heap[k]? = w.heap[k]? := by
  show (w.heap.modify g _)[k]? = _
  rw [Array.getElem?_modify, if_neg (fun e => h e.symm)]
theorem index_kind (kd : Int) (h1 : 1 ≤ kd) (h4 : kd ≤ 4) : ∀ w, (Instr.index 260 (.agg kindsV) (.int .i64 kd)).run Tryz.prog w = .ok (.agg (kindAt kd)) w := by
  obtain rfl | rfl | rfl | rfl : kd = 1 ∨ kd = 2 ∨ kd = 3 ∨ kd = 4 := by omega
  · exact fun w => by kernel_rfl
  · exact fun w => by kernel_rfl
  · exact fun w => by kernel_rfl
  · exact fun w => by kernel_rfl
theorem kindAt_one (kd : Int) : (kindAt kd).all (·.oneCell') = true ∧ (kindAt kd).size = 4 := by
  unfold kindAt
  repeat' split
  all_goals exact ⟨by kernel_rfl, by kernel_rfl⟩
set_option maxHeartbeats 4000000 in
theorem find_in' (S : Nat → Prop) (vf vt vn vs : Value) (s : SchemaL) (f : Nat) (w : World) (h : SchemaAt w S vf vt vn vs s) (hc : checkS s = 0) (hf : f < s.fields.length) :
    Calls Tryz.prog 214 #[.agg #[vf, vt, vn, vs], .int .i64 f] w fun e w' => e = .returned (findV (findN s f)) ∧ Below w.heap.size w w' := by
  obtain ⟨af, cf, rfl⟩ := h.1.slice
  obtain ⟨⟨g1, g2⟩, g3, g4⟩ := check_fields hc
  obtain ⟨b, off, rfl, _, hb, hcc⟩ := vec_cell2 h.1 (by omega)
  have hc1 := hcc f hf 1 _ rfl
  obtain ⟨k1, k4⟩ := field_kind g3 f hf
  have HF' := Lib.hid (show findN s f = ((s.fields.getD f default).2, 0) by unfold findN; rw [if_pos hc, if_pos (by omega)]; simp)
  obtain ⟨kd, hkd⟩ : ∃ kd, (s.fields.getD f default).2 = kd := ⟨_, rfl⟩
  rw [hkd] at HF' hc1 k1 k4
  have HF := HF'
  have HS := Lib.hid h.any
  have HC := Lib.hid hc
  have hix := index_kind kd k1 k4
  obtain ⟨ko, ks⟩ := kindAt_one kd
  have KO := Lib.hid ko; have KS := Lib.hid ks
  have HIX := Lib.hid hix
  have HC1 := Lib.hid hc1
  clear h hc g3 g4 hcc hkd HF' ko ks hix hc1
  have hlt' : (f : Int) < (s.fields.length : Int) := by omega
  go_enter Tryz.func214, Tryz.ntmps214
  go_wp2_with fail
  refine (scheck_any Any1 _ vt vn vs s _ (HS.out.below (((Below.refl _ _).alloc (Nat.le_refl _) _).alloc (by simp) _))).mono ?_
  rw [HC.out]
  rintro e w1 ⟨rfl, hb1⟩
  have X0 : w1.heap[w.heap.size]? = some (.cells #[.slice (some ⟨b, off, none⟩) s.fields.length cf, vt, vn, vs] 43 (0, 0)) := blk_below hb1 (by simp; omega) (heap_alloc2_old _ _ _)
  have X1 : w1.heap[w.heap.size + 1]? = some (.cells kind0 229 (0, 0)) := blk_below hb1 (by simp) (heap_alloc2_new _ _ _)
  have HB1 := Lib.hid ((((Below.refl w.heap.size w).alloc (Nat.le_refl _) (.cells #[.slice (some ⟨b, off, none⟩) s.fields.length cf, vt, vn, vs] 43)).alloc (by simp) (.cells kind0 229)).trans (hb1.mono (by simp; omega)))
  have c1 : w1.cell? ⟨b, off + f * 2 + 1, none⟩ = some (.int .i64 kd) := (HB1.out.cell (p := ⟨b, off + f * 2 + 1, none⟩) hb).trans HC1.out
  have HX1 := Lib.hid X1
  have z1 := lt_of_blk X1; have z0 := lt_of_blk X0
  have zb : b < w1.heap.size := Nat.lt_of_lt_of_le hb HB1.out.size
  obtain ⟨p0, p1, p2, p3⟩ := cells4 X0
  clear hb1 X1 X0
  go_wp2_with fail
  refine wp_region_noPanic ?_
  refine wp_region_held_drew (S := (fun w' => w'.cell? ⟨w.heap.size, 0, none⟩ = some (.slice (some ⟨b, off, none⟩) s.fields.length cf) ∧ w'.cell? ⟨b, off + f * 2 + 1, none⟩ = some (.int .i64 kd))) (by kernel_rfl) (⟨p0, c1⟩) (fun hHeld => ?_)
  refine tH 1 (h := ?_)
  refine tH 2 (h := ?_)
  refine tH 3 (h := ?_)
  refine tH 4 (h := ?_)
  refine tH 5 (h := ?_)
  refine tH 6 (h := ?_)
  refine wpAnyH_ready (rs := [0]) (by kernel_rfl) (by simp) ?_
  refine AllReadyH.cons rfl (fun K hK => ?_) AllReadyH.nil
  go_simp
  refine (kinds_any _).mono ?_; rintro e w2 ⟨rfl, hb2⟩; have p0a := (hb2.cell (p := ⟨w.heap.size, 0, none⟩) z0).trans p0; have c1a := (hb2.cell (p := ⟨b, off + f * 2 + 1, none⟩) zb).trans c1; have HB2 := Lib.hid (HB1.out.drew.trans (hb2.mono HB1.out.size)); have HX2 := Lib.hid (blk_below hb2 z1 HX1.out)
  refine hK.out _ _ (⟨p0a, c1a⟩) (fun hHeld => ?_)
  clear hK K
  try simp only [List.getElem_toArray, List.getElem_cons_zero, List.getElem_cons_succ, Act.put, List.setIfInBounds_toArray, List.set_cons_zero, List.set_cons_succ]
  have hix := HIX.out
  refine tH 7 (h := ?_)
  refine wpAnyH_ready (rs := [8]) (by kernel_rfl) (by simp) ?_
  refine AllReadyH.cons rfl (fun K hK => ?_) AllReadyH.nil
  refine wp_store_row 229 (.tmp 4) (.tmp 30) rfl (w.heap.size + 1) (kindAt kd) rfl rfl 229 kind0 HX2.out (by rw [KS.out]; kernel_rfl) (by rw [KS.out]; rfl) KO.out ?_
  have p0b : (w2.setRow (w.heap.size + 1) (kindAt kd)).cell? ⟨w.heap.size, 0, none⟩ = some (.slice (some ⟨b, off, none⟩) s.fields.length cf) := (World.cell?_of_block (w := w2) (a := ⟨w.heap.size, 0, none⟩) (setRow_other (show w.heap.size ≠ w.heap.size + 1 by omega))).trans p0a
  have c1b : (w2.setRow (w.heap.size + 1) (kindAt kd)).cell? ⟨b, off + f * 2 + 1, none⟩ = some (.int .i64 kd) := (World.cell?_of_block (w := w2) (a := ⟨b, off + f * 2 + 1, none⟩) (setRow_other (show b ≠ w.heap.size + 1 by omega))).trans c1a
  refine hK.out _ _ ⟨p0b, c1b⟩ (fun hHeld => ?_)
  clear hK K
  try simp only [List.getElem_toArray, List.getElem_cons_zero, List.getElem_cons_succ, Act.put, List.setIfInBounds_toArray, List.set_cons_zero, List.set_cons_succ]
  refine tH 9 (h := ?_)
  refine wpAnyH_done (by kernel_rfl) ?_ _
  refine NoPanic.normal ?_
  go_wp2_with fail
  exact bodyPost_row2 rfl rfl (heap_setRow HX2.out) Tryz.underlying229 rfl (by rw [KS.out]; kernel_rfl) ⟨by rw [HF.out]; rfl, below_setRow HB2.out (by omega)⟩
theorem find_s (S : Nat → Prop) (vf vt vn vs : Value) (s : SchemaL) (f : Int) (w : World) (h : SchemaAt w S vf vt vn vs s) :
    Calls Tryz.prog 214 #[.agg #[vf, vt, vn, vs], .int .i64 f] w fun e w' => e = .returned (findV (findN s f)) ∧ Below w.heap.size w w' := by
  by_cases hc : checkS s = 0
  · by_cases hf : 0 ≤ f ∧ f < s.fields.length
    · obtain ⟨n, rfl⟩ := Int.eq_ofNat_of_zero_le hf.1
      exact find_in' S vf vt vn vs s n w h hc (by omega)
    · exact find_out S vf vt vn vs s f w h hc (by omega)
  · exact find_bad S vf vt vn vs s f w h hc
end
section
set_option maxRecDepth 100000
open Go.RowKit Cal
attribute [local go_sem] toList_mk mk_size
def normK (k : Int) (r : RulesL) (l : List UInt8) : List UInt8 × Int := if k = 1 then nameN r l else if k = 2 then dayN l else if k = 3 then codeN l else addrN r l
/-- the normal form of a raw value, and the error -/
def valueN (s : SchemaL) (f : Int) (l : List UInt8) : List UInt8 × Int := if (findN s f).2 = 0 then (if l = [] then ([], 0) else normK (findN s f).1 s.rules l) else ([], (findN s f).2)
def ownK (k : Int) (r : RulesL) (l : List UInt8) : Bool := if k = 1 then isOwn (nameN r l) l else if k = 2 then readB l else if k = 3 then isOwn (codeN l) l else isOwn (addrN r l) l
/-- is a value in normal form -/
def normalB (s : SchemaL) (f : Int) (l : List UInt8) : Bool := if (findN s f).2 = 0 then (if l = [] then true else ownK (findN s f).1 s.rules l) else false
theorem findN_kind {s : SchemaL} {f : Int} (h : (findN s f).2 = 0) : (findN s f).1 = 1 ∨ (findN s f).1 = 2 ∨ (findN s f).1 = 3 ∨ (findN s f).1 = 4 := by
  by_cases hc : checkS s = 0
  · unfold findN at h ⊢
    rw [if_pos hc] at h ⊢
    by_cases hf : 0 ≤ f ∧ f < s.fields.length
    · rw [if_pos hf]
      have := field_kind (check_fields hc).2.1 f.toNat (by omega)
      dsimp only
      omega
    · rw [if_neg hf] at h
      simp at h
  · unfold findN at h
    rw [if_neg hc] at h
    exact absurd h hc
end
section
set_option maxRecDepth 100000
open Go.RowKit Cal
/-- a token: not empty, of letters and digits -/
def okT (t : List UInt8) : Prop := t ≠ [] ∧ ∀ b ∈ t, okB b = true ∧ b ≠ 32
theorem toksA_run (t : List UInt8) (h : ∀ b ∈ t, b ≠ 32) : ∀ p r, toksA p (t ++ r) = toksA (p ++ t) r := by
  induction t with
  | nil => intro p r; simp
  | cons c t ih =>
    intro p r
    rw [List.cons_append, toksA_ch _ _ _ (h c List.mem_cons_self), ih (fun b hb => h b (List.mem_cons_of_mem _ hb)), List.append_assoc]
    rfl
theorem toks_join : ∀ (L : List (List UInt8)), (∀ t ∈ L, okT t) → toks (joinL L) = L := by
  intro L
  induction L with
  | nil => intro _; rfl
  | cons t L ih =>
    intro h
    obtain ⟨h1, h2⟩ := h t List.mem_cons_self
    have hr := ih fun x hx => h x (List.mem_cons_of_mem _ hx)
    unfold toks at hr ⊢
    by_cases hL : L = []
    · subst hL
      rw [show joinL [t] = t ++ [] by simp [joinL], toksA_run t (fun b hb => (h2 b hb).2), List.nil_append, toksA_end _ h1]
    · rw [join_cons_ne _ _ hL, List.append_assoc, toksA_run t (fun b hb => (h2 b hb).2), List.nil_append, List.cons_append, List.nil_append, toksA_sp _ _ h1, hr]
theorem join_ok (L : List (List UInt8)) (h : ∀ t ∈ L, okT t) : ∀ b ∈ joinL L, okB b = true := by
  intro b hb
  rcases join_mem L b hb with h1 | ⟨t, ht, hbt⟩
  · subst h1; rfl
  · exact ((h t ht).2 b hbt).1
theorem ok_plain {b : UInt8} (h : okB b = true) : plainB b = [b] := by
  have hlt := okB_lt h
  unfold plainB
  by_cases hu : isUp b = true
  · exfalso
    unfold okB at h
    simp only [Bool.or_eq_true, low_iff, dig_iff, decide_eq_true_iff, beq_iff_eq] at h
    rw [up_iff, decide_eq_true_iff] at hu
    rcases h with (h | h) | h
    · omega
    · omega
    · subst h; simp at hu
  · rw [if_neg hu]
    unfold okB at h
    simp only [Bool.or_eq_true, beq_iff_eq] at h
    rcases h with h | h
    · rw [if_pos (by simpa using h)]
    · subst h; rfl
theorem ok_pair {a b : UInt8} (h : okB a = true) : isPair a b = false := by
  have hlt := okB_lt h
  rw [pair_iff]; simp; omega
theorem ok_byte {b : UInt8} (h : okB b = true) : okByte b = true := by
  unfold okB at h
  simp only [Bool.or_eq_true, low_iff, dig_iff, decide_eq_true_iff, beq_iff_eq] at h
  rw [ok_iff, decide_eq_true_iff]
  rcases h with (h | h) | h
  · omega
  · omega
  · subst h; decide
theorem raw_same (l : List UInt8) (h : ∀ b ∈ l, okB b = true) : rawL l = l ∧ validL l = true := by
  induction l using rawL.induct with
  | case1 => exact ⟨rfl, rfl⟩
  | case2 a => exact ⟨by simp only [rawL]; exact ok_plain (h a (by simp)), by simp only [validL]; exact ok_byte (h a (by simp))⟩
  | case3 a b r hp ih => exfalso; rw [ok_pair (h a (by simp))] at hp; cases hp
  | case4 a b r hp ih =>
    have hp' := ok_pair (a := a) (b := b) (h a (by simp))
    have := ih fun x hx => h x (List.mem_cons_of_mem _ hx)
    refine ⟨?_, ?_⟩
    · rw [rawL, hp']; simp only [Bool.false_eq_true, if_false]; rw [this.1, ok_plain (h a (by simp))]; rfl
    · rw [validL, hp']; simp only [Bool.false_eq_true, if_false]; rw [this.2, ok_byte (h a (by simp))]; rfl
theorem fold_same (L : List (List UInt8)) (h : ∀ t ∈ L, okT t) : foldL (joinL L) = joinL L ∧ toks (foldL (joinL L)) = L := by
  have h1 := (raw_same (joinL L) (join_ok L h)).1
  have h2 := toks_join L h
  have h3 : foldL (joinL L) = joinL L := by unfold foldL; rw [h1, h2]
  exact ⟨h3, by rw [h3, h2]⟩
theorem foldV_join (L : List (List UInt8)) (h : ∀ t ∈ L, okT t) (hl : (joinL L).length ≤ 64) : foldV (joinL L) = true := by
  unfold foldV
  rw [(raw_same (joinL L) (join_ok L h)).2]; simpa using hl
theorem toksA_ne (l : List UInt8) : ∀ p, ∀ t ∈ toksA p l, t ≠ [] := by
  induction l with
  | nil =>
    intro p t ht
    simp only [toksA] at ht
    split at ht
    · simp at ht
    · simp at ht; subst ht; assumption
  | cons c l ih =>
    intro p t ht
    by_cases hc : c = 32
    · subst hc
      by_cases hp : p = []
      · subst hp; rw [toksA_sp0] at ht; exact ih [] t ht
      · rw [toksA_sp _ _ hp] at ht
        rcases List.mem_cons.1 ht with rfl | ht
        · exact hp
        · exact ih [] t ht
    · rw [toksA_ch _ _ _ hc] at ht; exact ih _ t ht
theorem toks_ok (l : List UInt8) : ∀ t ∈ toks (foldL l), okT t := by
  intro t ht
  refine ⟨toksA_ne _ [] t ht, fun b hb => ?_⟩
  rcases toksA_mem _ [] t ht b hb with h | h
  · simp at h
  · exact ⟨fold_ok l b h.1, h.2⟩
end
section
set_option maxRecDepth 100000
open Go.RowKit
/-- two beginnings of a text that any rest continues to the same tokens -/
def EqL (a b : List UInt8) : Prop := ∀ r, toksA [] (a ++ r) = toksA [] (b ++ r)
theorem EqL.refl (a : List UInt8) : EqL a a := fun _ => rfl
theorem EqL.app {a b : List UInt8} (h : EqL a b) (c : List UInt8) : EqL (a ++ c) (b ++ c) := fun r => by rw [List.append_assoc, List.append_assoc]; exact h _
theorem EqL.trans {a b c : List UInt8} (h : EqL a b) (h' : EqL b c) : EqL a c := fun r => (h r).trans (h' r)
theorem EqL.lead : EqL [32] [] := fun r => toksA_sp0 r
theorem toksA_two (l : List UInt8) : ∀ p r, toksA p (l ++ 32 :: 32 :: r) = toksA p (l ++ 32 :: r) := by
  induction l with
  | nil =>
    intro p r
    simp only [List.nil_append]
    by_cases hp : p = []
    · subst hp; rw [toksA_sp0]
    · rw [toksA_sp _ _ hp, toksA_sp _ _ hp, toksA_sp0]
  | cons c l ih =>
    intro p r
    simp only [List.cons_append]
    by_cases hc : c = 32
    · subst hc
      by_cases hp : p = []
      · subst hp; rw [toksA_sp0, toksA_sp0, ih]
      · rw [toksA_sp _ _ hp, toksA_sp _ _ hp, ih]
    · rw [toksA_ch _ _ _ hc, toksA_ch _ _ _ hc, ih]
theorem EqL.two (a : List UInt8) : EqL (a ++ [32, 32]) (a ++ [32]) := fun r => by
  rw [List.append_assoc, List.append_assoc]; exact toksA_two a [] r
theorem toksA_last (l : List UInt8) : ∀ p, toksA p (l ++ [32]) = toksA p l := by
  induction l with
  | nil =>
    intro p
    simp only [List.nil_append]
    by_cases hp : p = []
    · subst hp; rw [toksA_sp0]
    · rw [toksA_sp _ _ hp, toksA_end _ hp]; rfl
  | cons c l ih =>
    intro p
    simp only [List.cons_append]
    by_cases hc : c = 32
    · subst hc
      by_cases hp : p = []
      · subst hp; rw [toksA_sp0, toksA_sp0, ih]
      · rw [toksA_sp _ _ hp, toksA_sp _ _ hp, ih]
    · rw [toksA_ch _ _ _ hc, toksA_ch _ _ _ hc, ih]
def allOk (l : List UInt8) : Prop := ∀ b ∈ l, okByte b = true
theorem allOk.app {a b : List UInt8} (h : allOk a) (h' : allOk b) : allOk (a ++ b) := fun c hc => (List.mem_append.1 hc).elim (h c) (h' c)
def plainL (l : List UInt8) : List UInt8 := l.flatMap plainB
theorem plainL_app (a b : List UInt8) : plainL (a ++ b) = plainL a ++ plainL b := List.flatMap_append
theorem byte_pair {a b : UInt8} (h : okByte a = true) : isPair a b = false := by
  rw [ok_iff, decide_eq_true_iff] at h
  rw [pair_iff]; simp; omega
theorem raw_flat (l : List UInt8) (h : allOk l) : rawL l = plainL l ∧ validL l = true := by
  induction l using rawL.induct with
  | case1 => exact ⟨rfl, rfl⟩
  | case2 a => exact ⟨by simp [rawL, plainL], by simp only [validL]; exact h a (by simp)⟩
  | case3 a b r hp ih => exfalso; rw [byte_pair (h a (by simp))] at hp; cases hp
  | case4 a b r hp ih =>
    have hp' := byte_pair (a := a) (b := b) (h a (by simp))
    have := ih fun x hx => h x (List.mem_cons_of_mem _ hx)
    refine ⟨?_, ?_⟩
    · rw [rawL, hp']; simp only [Bool.false_eq_true, if_false]; rw [this.1]; simp [plainL]
    · rw [validL, hp']; simp only [Bool.false_eq_true, if_false]; rw [this.2, h a (by simp)]; rfl
/-- what a beginning of a folded text becomes -/
structure DressTo (p o : List UInt8) : Prop where
  ok : allOk o
  eq : EqL (plainL o) p
  len : o.length ≤ 1 + 2 * p.length
/-- a text in another dress -/
structure DressOf (l o : List UInt8) : Prop where
  ok : allOk o
  eq : toks (rawL o) = toks l
  len : o.length ≤ 2 + 2 * l.length
def dressA : List (List UInt8) := [[], [], [32], [45]]
def dressB : List (List UInt8) := [[32], [45], [44, 32], [46], [32, 32], [47]]
def dressC : List (List UInt8) := [[], [], [32], [46]]
theorem allOk_dec {l : List UInt8} (h : l.all okByte = true) : allOk l := List.all_eq_true.1 h
theorem DressTo.start {o : List UInt8} (h : o ∈ dressA) : DressTo [] o := by
  simp [dressA] at h
  rcases h with rfl | rfl | rfl
  · exact ⟨allOk_dec rfl, EqL.refl _, by simp⟩
  · exact ⟨allOk_dec rfl, EqL.lead, by simp⟩
  · exact ⟨allOk_dec rfl, EqL.lead, by simp⟩
theorem DressTo.space {p o x : List UInt8} (h : DressTo p o) (hx : x ∈ dressB) : DressTo (p ++ [32]) (o ++ x) := by
  simp [dressB] at hx
  rcases hx with rfl | rfl | rfl | rfl | rfl | rfl
  · exact ⟨h.ok.app (allOk_dec rfl), by rw [plainL_app]; exact h.eq.app [32], by have := h.len; simp; omega⟩
  · exact ⟨h.ok.app (allOk_dec rfl), by rw [plainL_app]; exact h.eq.app [32], by have := h.len; simp; omega⟩
  · exact ⟨h.ok.app (allOk_dec rfl), by rw [plainL_app]; exact (EqL.two _).trans (h.eq.app [32]), by have := h.len; simp; omega⟩
  · exact ⟨h.ok.app (allOk_dec rfl), by rw [plainL_app]; exact h.eq.app [32], by have := h.len; simp; omega⟩
  · exact ⟨h.ok.app (allOk_dec rfl), by rw [plainL_app]; exact (EqL.two _).trans (h.eq.app [32]), by have := h.len; simp; omega⟩
  · exact ⟨h.ok.app (allOk_dec rfl), by rw [plainL_app]; exact h.eq.app [32], by have := h.len; simp; omega⟩
theorem DressTo.byte {p o : List UInt8} {c x : UInt8} (h : DressTo p o) (hx : okByte x = true) (hp : plainB x = [c]) : DressTo (p ++ [c]) (o ++ [x]) :=
  ⟨h.ok.app (fun b hb => by simp at hb; subst hb; exact hx), by rw [plainL_app, show plainL [x] = [c] by simp [plainL, hp]]; exact h.eq.app [c], by have := h.len; simp; omega⟩
theorem DressTo.mark {p o : List UInt8} {c x : UInt8} (h : DressTo p o) (hx : okByte x = true) (hp : plainB x = [c]) : DressTo (p ++ [c]) (o ++ [x] ++ [39]) :=
  ⟨(h.ok.app (fun b hb => by simp at hb; subst hb; exact hx)).app (allOk_dec rfl), by rw [plainL_app, plainL_app, show plainL [39] = [] from rfl, List.append_nil, show plainL [x] = [c] by simp [plainL, hp]]; exact h.eq.app [c], by have := h.len; simp; omega⟩
theorem DressTo.done {p o x : List UInt8} (h : DressTo p o) (hx : x ∈ dressC) : DressOf p (o ++ x) := by
  have e : ∀ q : List UInt8, toks (plainL o ++ q) = toksA [] (p ++ q) := fun q => h.eq q
  have e0 := h.eq []
  simp only [List.append_nil] at e0
  simp [dressC] at hx
  rcases hx with rfl | rfl | rfl
  · exact ⟨h.ok.app (allOk_dec rfl), by rw [(raw_flat _ (h.ok.app (allOk_dec rfl))).1, List.append_nil]; exact e0, by have := h.len; simp; omega⟩
  · exact ⟨h.ok.app (allOk_dec rfl), by rw [(raw_flat _ (h.ok.app (allOk_dec rfl))).1, plainL_app]; exact (e [32]).trans (toksA_last p []), by have := h.len; simp; omega⟩
  · exact ⟨h.ok.app (allOk_dec rfl), by rw [(raw_flat _ (h.ok.app (allOk_dec rfl))).1, plainL_app]; exact (e [32]).trans (toksA_last p []), by have := h.len; simp; omega⟩
/-- a byte of a folded text that is no space stands for itself -/
theorem plain_self {c : UInt8} (h : okB c = true) : okByte c = true ∧ plainB c = [c] := ⟨ok_byte h, ok_plain h⟩
/-- .. and so does a letter written great -/
theorem plain_up {c : UInt8} (h : isLow c = true) : okByte (c - 32) = true ∧ plainB (c - 32) = [c] := by
  rw [low_iff, decide_eq_true_iff] at h
  have e : (c - 32).toNat = c.toNat - 32 := by
    rw [UInt8.toNat_sub_of_le]
    · rfl
    · rw [UInt8.le_iff_toNat_le]; show 32 ≤ _; omega
  have hu : isUp (c - 32) = true := by rw [up_iff, decide_eq_true_iff, e]; omega
  refine ⟨?_, ?_⟩
  · rw [ok_iff, decide_eq_true_iff, e]; omega
  · unfold plainB; rw [if_pos hu, UInt8.sub_add_cancel]
end
section
set_option maxRecDepth 100000
open Go.RowKit
def t1L : List (List UInt8) := [[100, 114], [118, 97, 110]]
def n1L : List P2 := [([97, 110, 110, 97], [97, 110, 110]), ([98, 111, 98], [114, 111, 98, 101, 114, 116])]
def s1L : List P2 := [([114, 100], [114, 111, 97, 100]), ([115, 116], [115, 116, 114, 101, 101, 116])]
/-- rules that are dealt -/
structure RulesD (r : RulesL) : Prop where
  t : r.titles = [] ∨ r.titles = t1L
  n : r.nicks = [] ∨ r.nicks = n1L
  s : r.streets = [] ∨ r.streets = s1L
theorem RulesD.check {r : RulesL} (h : RulesD r) : checkR r = 0 := by
  obtain ⟨t, n, s⟩ := r
  obtain ⟨h1, h2, h3⟩ := h
  dsimp only at h1 h2 h3
  rcases h1 with rfl | rfl <;> rcases h2 with rfl | rfl <;> rcases h3 with rfl | rfl <;> decide
def namesD : List (List UInt8) := [[102, 97, 109, 105, 108, 121], [103, 105, 118, 101, 110], [98, 105, 114, 116, 104], [115, 116, 114, 101, 101, 116], [99, 111, 100, 101]]
/-- the first fields of a schema that is dealt -/
structure FieldsD (F : List F2) : Prop where
  len : F.length ≤ 4
  names : F.map (·.1) = namesD.take F.length
  kinds : ∀ x ∈ F, 1 ≤ x.2 ∧ x.2 ≤ 4
theorem FieldsD.nil : FieldsD [] := ⟨by simp, rfl, by simp⟩
theorem FieldsD.snoc {F : List F2} (h : FieldsD F) (hl : F.length < 4) {k : Int} (h1 : 1 ≤ k) (h2 : k ≤ 4) : FieldsD (F ++ [(namesD.getD F.length [], k)]) := by
  refine ⟨by simp; omega, ?_, fun x hx => ?_⟩
  · have hn : F.length < namesD.length := by show F.length < 5; omega
    rw [List.map_append, h.names, List.length_append, List.length_singleton, List.take_succ_eq_append_getElem hn, List.getD, List.getElem?_eq_getElem hn]
    rfl
  · rcases List.mem_append.1 hx with hx | hx
    · exact h.kinds x hx
    · simp at hx; subst hx; exact ⟨h1, h2⟩
theorem names_ok : ∀ n : Fin 5, ∀ j : Fin n, (wordB (namesD.getD j []) && !(((namesD.take n).take j).any fun x => x == namesD.getD j [])) = true := by decide
theorem FieldsD.check {F : List F2} (h : FieldsD F) (h1 : 1 ≤ F.length) {r : RulesL} (hr : checkR r = 0) : checkS ⟨F, r⟩ = 0 := by
  have hl := h.len
  have hf : fieldsB F = true := by
    refine List.all_eq_true.2 fun j hj => ?_
    have hj' : j < F.length := List.mem_range.1 hj
    have hk := names_ok ⟨F.length, by omega⟩ ⟨j, hj'⟩
    have e1 : (F.getD j default).1 = namesD.getD j [] := by
      have hjn : j < (F.map (·.1)).length := by simpa using hj'
      have : (F.map (·.1)).getD j [] = namesD.getD j [] := by
        rw [h.names, List.getD, List.getElem?_take, if_pos hj', List.getD]
      rw [← this, List.getD, List.getElem?_eq_getElem hj', List.getD, List.getElem?_map, List.getElem?_eq_getElem hj']; rfl
    have e2 : ((F.take j).any fun x => x.1 == (F.getD j default).1) = ((namesD.take F.length).take j).any fun x => x == namesD.getD j [] := by
      rw [e1, ← h.names, ← List.map_take, List.any_map]; rfl
    have hm : F.getD j default ∈ F := by rw [List.getD, List.getElem?_eq_getElem hj']; exact List.getElem_mem hj'
    obtain ⟨k1, k2⟩ := h.kinds _ hm
    unfold fieldAtB
    rw [e2, e1]
    dsimp only at hk
    rw [hk, decide_eq_true k1, decide_eq_true k2]; rfl
  unfold checkS
  rw [if_neg (by dsimp only; omega), if_pos hf]; exact hr
end
section
set_option maxRecDepth 100000
open Go.RowKit
attribute [local go_sem] toList_mk mk_size str_append
theorem blockVec {w : World} {A : Nat} {α : Type} {k : Nat} {enc : α → List Value} (hk : ∀ x, (enc x).length = k) {t : TypeId} {L : List α} {S : Nat → Prop} (h : w.heap[A]? = some (.cells (L.flatMap enc).toArray t (0, 0))) (hS : S A) (n : Nat) (hn : n = L.length) : Vec w S k enc (.slice (some ⟨A, 0, none⟩) n n) L := by
  subst hn
  refine ⟨_, _, rfl, Nat.le_refl _, fun _ => ⟨A, 0, rfl, hS, lt_of_blk h, fun j x hj i u hu => ?_⟩⟩
  have hi : i < k := by rw [← hk x]; exact (List.getElem?_eq_some_iff.1 hu).1
  rw [cell_of_row _ _ _ _ _ _ h, Nat.zero_add, List.getElem?_toArray, flat_get hk L j x hj i hi]
  exact hu
theorem Vec.put {α : Type} {w : World} {S : Nat → Prop} {k : Nat} {enc : α → List Value} {v : Value} {L : List α} (h : Vec w S k enc v L) {a : Addr} (ha : ∀ b, S b → b ≠ a.block) (x : Value) (o : Obj) : Vec ((w.setCell a x).alloc o) S k enc v L :=
  h.move (by simp [World.setCell]) fun b hb hS => ⟨by rw [heap_alloc_old _ _ (by simpa [World.setCell] using hb), heap_setCell_other _ _ _ _ (ha b hS)], hS⟩
theorem Vec.weaken {α : Type} {w : World} {S S' : Nat → Prop} {k : Nat} {enc : α → List Value} {v : Value} {L : List α} (h : Vec w S k enc v L) (hs : ∀ b, S b → S' b) : Vec w S' k enc v L := h.move (Nat.le_refl _) fun b _ h => ⟨rfl, hs b h⟩
theorem set_new (v : World) (a : Addr) (x : Value) (o : Obj) : ((v.setCell a x).alloc o).heap[v.heap.size]? = some o := blk_new (by simp [World.setCell])
theorem Vec.set1 {α : Type} {w : World} {S : Nat → Prop} {k : Nat} {enc : α → List Value} {v : Value} {L : List α} (h : Vec w S k enc v L) {a : Addr} (ha : ∀ b, S b → b ≠ a.block) (x : Value) : Vec (w.setCell a x) S k enc v L :=
  h.move (by simp [World.setCell]) fun b hb hS => ⟨by rw [heap_setCell_other _ _ _ _ (ha b hS)], hS⟩
theorem RulesAt.set3 {w : World} {S : Nat → Prop} {vt vn vs : Value} {r : RulesL} (h : RulesAt w S vt vn vs r) {a b c : Addr} (ha : ∀ k, S k → k ≠ a.block) (hb : ∀ k, S k → k ≠ b.block) (hc : ∀ k, S k → k ≠ c.block) (x y z : Value) : RulesAt (((w.setCell a x).setCell b y).setCell c z) S vt vn vs r :=
  ⟨((h.1.set1 ha x).set1 hb y).set1 hc z, ((h.2.1.set1 ha x).set1 hb y).set1 hc z, ((h.2.2.set1 ha x).set1 hb y).set1 hc z⟩
theorem RulesAt.weaken {w : World} {S S' : Nat → Prop} {vt vn vs : Value} {r : RulesL} (h : RulesAt w S vt vn vs r) (hs : ∀ b, S b → S' b) : RulesAt w S' vt vn vs r := ⟨h.1.weaken hs, h.2.1.weaken hs, h.2.2.weaken hs⟩
/-- while rules are dealt: the result's block, the block of the rules, what these hold -/
def RMid (D : Nat) (w wc : World) : Prop := ∃ vt vn vs r, wc.heap[w.heap.size]? = some (.cells #[.slice none 0 0, .slice none 0 0, .slice none 0 0] 41 (0, 0)) ∧ wc.heap[w.heap.size + 1]? = some (.cells #[vt, vn, vs] 41 (0, 0)) ∧ RulesAt wc (fun b => w.heap.size + 1 < b) vt vn vs r ∧ RulesD r ∧ Moved D w wc
theorem RMid.moved {D : Nat} {w wc wd : World} (h : RMid D w wc) (hD : D < w.heap.size) (m : Moved D wc wd) : RMid D w wd := by
  obtain ⟨vt, vn, vs, r, hz, hy, hr, hd, hm⟩ := h
  refine ⟨vt, vn, vs, r, m.blk (by omega) hz, m.blk (by omega) hy, ?_, hd, hm.trans m⟩
  exact ⟨hr.1.move m.size fun b hb hS => ⟨m.grown.block b hb (by simp; omega), hS⟩, hr.2.1.move m.size fun b hb hS => ⟨m.grown.block b hb (by simp; omega), hS⟩, hr.2.2.move m.size fun b hb hS => ⟨m.grown.block b hb (by simp; omega), hS⟩⟩
theorem rmid_t {D : Nat} {w v : World} {vt vn vs : Value} {r : RulesL} (hD : D < w.heap.size) (hz : v.heap[w.heap.size]? = some (.cells #[.slice none 0 0, .slice none 0 0, .slice none 0 0] 41 (0, 0))) (hy : v.heap[w.heap.size + 1]? = some (.cells #[vt, vn, vs] 41 (0, 0))) (hr : RulesAt v (fun b => w.heap.size + 1 < b) vt vn vs r) (hd : RulesD r) (hm : Moved D w v) :
    RMid D w ((v.setCell ⟨w.heap.size + 1, 0, none⟩ (.slice (some ⟨v.heap.size, 0, none⟩) 2 2)).alloc (.cells (t1L.flatMap encS).toArray 9)) := by
  have h1 := lt_of_blk hy
  refine ⟨_, vn, vs, ⟨t1L, r.nicks, r.streets⟩, blk_old (blk_far hz (by simp)), blk_old (blk_set hy), ⟨blockVec (k := 1) (enc := encS) (L := t1L) (S := fun b => w.heap.size + 1 < b) (A := v.heap.size) (fun _ => rfl) (set_new _ _ _ _) (by omega) 2 rfl, hr.2.1.put (fun b h => by simp at h ⊢; omega) _ _, hr.2.2.put (fun b h => by simp at h ⊢; omega) _ _⟩, ⟨.inr rfl, hd.n, hd.s⟩, (hm.set (by simp) _).alloc _⟩
theorem rmid_n {D : Nat} {w v : World} {vt vn vs : Value} {r : RulesL} (hD : D < w.heap.size) (hz : v.heap[w.heap.size]? = some (.cells #[.slice none 0 0, .slice none 0 0, .slice none 0 0] 41 (0, 0))) (hy : v.heap[w.heap.size + 1]? = some (.cells #[vt, vn, vs] 41 (0, 0))) (hr : RulesAt v (fun b => w.heap.size + 1 < b) vt vn vs r) (hd : RulesD r) (hm : Moved D w v) :
    RMid D w ((v.setCell ⟨w.heap.size + 1, 1, none⟩ (.slice (some ⟨v.heap.size, 0, none⟩) 2 2)).alloc (.cells (n1L.flatMap encP).toArray 151)) := by
  have h1 := lt_of_blk hy
  refine ⟨vt, _, vs, ⟨r.titles, n1L, r.streets⟩, blk_old (blk_far hz (by simp)), blk_old (blk_set hy), ⟨hr.1.put (fun b h => by simp at h ⊢; omega) _ _, blockVec (k := 2) (enc := encP) (L := n1L) (S := fun b => w.heap.size + 1 < b) (A := v.heap.size) (fun _ => rfl) (set_new _ _ _ _) (by omega) 2 rfl, hr.2.2.put (fun b h => by simp at h ⊢; omega) _ _⟩, ⟨hd.t, .inr rfl, hd.s⟩, (hm.set (by simp) _).alloc _⟩
theorem rmid_s {D : Nat} {w v : World} {vt vn vs : Value} {r : RulesL} (hD : D < w.heap.size) (hz : v.heap[w.heap.size]? = some (.cells #[.slice none 0 0, .slice none 0 0, .slice none 0 0] 41 (0, 0))) (hy : v.heap[w.heap.size + 1]? = some (.cells #[vt, vn, vs] 41 (0, 0))) (hr : RulesAt v (fun b => w.heap.size + 1 < b) vt vn vs r) (hd : RulesD r) (hm : Moved D w v) :
    RMid D w ((v.setCell ⟨w.heap.size + 1, 2, none⟩ (.slice (some ⟨v.heap.size, 0, none⟩) 2 2)).alloc (.cells (s1L.flatMap encP).toArray 151)) := by
  have h1 := lt_of_blk hy
  refine ⟨vt, vn, _, ⟨r.titles, r.nicks, s1L⟩, blk_old (blk_far hz (by simp)), blk_old (blk_set hy), ⟨hr.1.put (fun b h => by simp at h ⊢; omega) _ _, hr.2.1.put (fun b h => by simp at h ⊢; omega) _ _, blockVec (k := 2) (enc := encP) (L := s1L) (S := fun b => w.heap.size + 1 < b) (A := v.heap.size) (fun _ => rfl) (set_new _ _ _ _) (by omega) 2 rfl⟩, ⟨hd.t, hd.n, .inr rfl⟩, (hm.set (by simp) _).alloc _⟩
def RulesPost (D : Nat) (w : World) (e : Ending) (w' : World) : Prop := ∃ vt vn vs r, e = .returned (.agg #[vt, vn, vs]) ∧ RulesAt w' (fun b => w.heap.size ≤ b) vt vn vs r ∧ RulesD r ∧ Moved D w w'
set_option maxHeartbeats 8000000 in
theorem rules_deal (D : Nat) (w : World) (h : DeckAt w D) :
    Calls Tryz.prog 47 #[.pointer (some ⟨D, 0, none⟩)] w (RulesPost D w) := by
  have zD := h.lt
  have HD := Lib.hid h
  clear h
  go_enter Tryz.func47, Tryz.ntmps47
  go_wp2_with fail
  have K := Lib.hid (show RMid D w ((w.alloc (.cells #[.slice none 0 0, .slice none 0 0, .slice none 0 0] 41)).alloc (.cells #[.slice none 0 0, .slice none 0 0, .slice none 0 0] 41)) from
    ⟨_, _, _, ⟨[], [], []⟩, blk_old (blk_new rfl), blk_new (by simp), ⟨Vec.nil _ _ _ _, Vec.nil _ _ _ _, Vec.nil _ _ _ _⟩, ⟨.inl rfl, .inl rfl, .inl rfl⟩, ((Moved.start HD.out).alloc _).alloc _⟩)
  refine (one_any D _ 2 (by obtain ⟨_, _, _, _, _, _, _, _, m⟩ := K.out; exact m.deck) (by omega) (by omega)).mono ?_
  rintro e v0 ⟨u, rfl, mv⟩
  have K0 := Lib.hid (K.out.moved zD mv)
  clear K mv
  go_upto_if 5 with fail
  go_cut [] (fun wc => RMid D w wc)
  case first =>
    obtain ⟨vt, vn, vs, r, hz, hy, hr, hd, hm⟩ := K0.out
    have HZ := Lib.hid hz; have HY := Lib.hid hy; have HR := Lib.hid hr; have HDd := Lib.hid hd; have HM := Lib.hid hm
    obtain ⟨c0, c1, c2⟩ := cells3 hy; obtain ⟨f0, f1, f2⟩ := free3 hy
    have q := lt_of_blk hy
    clear hz hy hr hd hm
    cases u
    · go_wp2_with fail
      go_meet
      exact K0.out
    · go_wp2_with fail
      go_meet
      exact rmid_t zD HZ.out HY.out HR.out HDd.out HM.out
  case rest =>
    have K1 := Lib.hid hcut; clear hcut K0
    go_wp2_with fail
    refine (one_any D _ 2 (by obtain ⟨_, _, _, _, _, _, _, _, m⟩ := K1.out; exact m.deck) (by omega) (by omega)).mono ?_
    rintro e v1 ⟨u, rfl, mv⟩
    have K2 := Lib.hid (K1.out.moved zD mv)
    clear K1 mv
    go_upto_if 9 with fail
    go_cut [] (fun wc => RMid D w wc)
    case first =>
      obtain ⟨vt, vn, vs, r, hz, hy, hr, hd, hm⟩ := K2.out
      have HZ := Lib.hid hz; have HY := Lib.hid hy; have HR := Lib.hid hr; have HDd := Lib.hid hd; have HM := Lib.hid hm
      obtain ⟨c0, c1, c2⟩ := cells3 hy; obtain ⟨f0, f1, f2⟩ := free3 hy
      have q := lt_of_blk hy
      clear hz hy hr hd hm
      cases u
      · go_wp2_with fail
        go_meet
        exact K2.out
      · go_wp2_with fail
        go_meet
        exact rmid_n zD HZ.out HY.out HR.out HDd.out HM.out
    case rest =>
      have K3 := Lib.hid hcut; clear hcut K2
      go_wp2_with fail
      refine (one_any D _ 2 (by obtain ⟨_, _, _, _, _, _, _, _, m⟩ := K3.out; exact m.deck) (by omega) (by omega)).mono ?_
      rintro e v2 ⟨u, rfl, mv⟩
      have K4 := Lib.hid (K3.out.moved zD mv)
      clear K3 mv
      go_upto_if 15 with fail
      go_cut [] (fun wc => RMid D w wc)
      case first =>
        obtain ⟨vt, vn, vs, r, hz, hy, hr, hd, hm⟩ := K4.out
        have HZ := Lib.hid hz; have HY := Lib.hid hy; have HR := Lib.hid hr; have HDd := Lib.hid hd; have HM := Lib.hid hm
        obtain ⟨c0, c1, c2⟩ := cells3 hy; obtain ⟨f0, f1, f2⟩ := free3 hy
        have q := lt_of_blk hy
        clear hz hy hr hd hm
        cases u
        · go_wp2_with fail
          go_meet
          exact K4.out
        · go_wp2_with fail
          go_meet
          exact rmid_s zD HZ.out HY.out HR.out HDd.out HM.out
      case rest =>
        obtain ⟨vt, vn, vs, r, hz, hy, hr, hd, hm⟩ := hcut
        obtain ⟨at', ct, rfl⟩ := hr.1.slice
        obtain ⟨an, cn, rfl⟩ := hr.2.1.slice
        obtain ⟨as', cs, rfl⟩ := hr.2.2.slice
        have HZ := Lib.hid hz; have HY := Lib.hid hy; have HR := Lib.hid hr; have HDd := Lib.hid hd; have HM := Lib.hid hm
        obtain ⟨c0, c1, c2⟩ := cells3 hy; obtain ⟨f0, f1, f2⟩ := free3 hy
        obtain ⟨d0, d1, d2⟩ := cells3 hz; obtain ⟨g0, g1, g2⟩ := free3 hz
        have q := lt_of_blk hy; have q' := lt_of_blk hz
        clear hz hy hr hd hm K4
        go_wp2_with fail
        have hz := blk_set (i := 2) (v := .slice as' r.streets.length cs) (blk_set (i := 1) (v := .slice an r.nicks.length cn) (blk_set (i := 0) (v := .slice at' r.titles.length ct) HZ.out))
        have hm := ((HM.out.set (a := ⟨w.heap.size, 0, none⟩) (Nat.le_refl _) (.slice at' r.titles.length ct)).set (a := ⟨w.heap.size, 1, none⟩) (Nat.le_refl _) (.slice an r.nicks.length cn)).set (a := ⟨w.heap.size, 2, none⟩) (Nat.le_refl _) (.slice as' r.streets.length cs)
        have hr := HR.out.set3 (a := ⟨w.heap.size, 0, none⟩) (b := ⟨w.heap.size, 1, none⟩) (c := ⟨w.heap.size, 2, none⟩) (fun b h => by simp at h ⊢; omega) (fun b h => by simp at h ⊢; omega) (fun b h => by simp at h ⊢; omega) (.slice at' r.titles.length ct) (.slice an r.nicks.length cn) (.slice as' r.streets.length cs)
        exact bodyPost_row1 rfl rfl hz Tryz.underlying41 rfl (by kernel_rfl) ⟨_, _, _, r, rfl, hr.weaken fun b h => by have h' : w.heap.size + 1 < b := h; show w.heap.size ≤ b; omega, HDd.out, hm⟩
end
section
set_option maxRecDepth 100000
open Go.RowKit
attribute [local go_sem] toList_mk mk_size str_append
def DressPost (D : Nat) (l : List UInt8) (w : World) (e : Ending) (w' : World) : Prop := ∃ o : List UInt8, e = .returned (strV o) ∧ DressOf l o ∧ Moved D w w'
/-- texts that have just been laid into a new block, to pick from -/
theorem pick_new (D : Nat) (w w0 : World) (L : List (List UInt8)) (n : Nat) (hn : n = L.length) (h1 : 1 ≤ n) (h2 : n ≤ 1000) (m : Moved D w0 w) :
    Calls Tryz.prog 117 #[.pointer (some ⟨D, 0, none⟩), .slice (some ⟨w.heap.size, 0, none⟩) n n] (w.alloc (.cells (L.flatMap encS).toArray 9)) (PickPost D L w0) := by
  have hD := m.deck.lt
  have m2 := m.alloc (.cells (L.flatMap encS).toArray 9)
  exact (pick_any D _ _ L m2.deck (blockVec (k := 1) (enc := encS) (L := L) (S := fun b => b ≠ D) (A := w.heap.size) (fun _ => rfl) (blk_new rfl) (by omega) n hn) (by omega) (by omega)).mono fun _ _ ⟨l, he, hl, hm⟩ => ⟨l, he, hl, m2.trans hm⟩
theorem dressB_len {x : List UInt8} (h : x ∈ dressB) : x.length ≤ 2 := by
  simp [dressB] at h
  rcases h with rfl | rfl | rfl | rfl | rfl | rfl <;> simp
theorem dressC_len {x : List UInt8} (h : x ∈ dressC) : x.length ≤ 2 := by
  simp [dressC] at h
  rcases h with rfl | rfl | rfl <;> simp
/-- how far a text has been dressed -/
def DressMid (D : Nat) (w : World) (l : List UInt8) (k : Nat) (ol : List UInt8) (wr : World) : Prop := DressTo (l.take k) ol ∧ Moved D w wr
set_option maxHeartbeats 4000000 in
theorem dress_any (D : Nat) (s : ByteArray) (w : World) (h : DeckAt w D) (hs : ∀ b ∈ s.data.toList, okB b = true) (hn : s.size ≤ 1000) :
    Calls Tryz.prog 118 #[.pointer (some ⟨D, 0, none⟩), .string s] w (DressPost D s.data.toList w) := by
  have hl : s.data.toList.length = s.size := by simp
  have HL := Lib.hid hl; clear hl
  have HS := Lib.hid hs; clear hs
  have M0 := Lib.hid (Moved.start h); clear h
  go_enter Tryz.func118, Tryz.ntmps118
  go_wp2_with fail
  refine (pick_new D _ w dressA 4 rfl (by omega) (by omega) M0.out).mono ?_
  rintro e w1 ⟨o, rfl, ho, mv⟩
  have K0 := Lib.hid (show DressMid D w s.data.toList 0 o w1 from ⟨DressTo.start ho, mv⟩)
  clear ho mv
  go_wp2_with fail
  go_loopw [5, 6] (fun v i wr => ∃ (k : Nat) (ol : List UInt8), v = strV ol ∧ i = .int .i64 k ∧ k ≤ s.size ∧ DressMid D w s.data.toList k ol wr) (fun _ i _ => s.size - (intOf i).toNat)
  case atStart => exact ⟨0, o, rfl, rfl, by omega, K0.out⟩
  case round =>
    obtain ⟨k, ol, rfl, rfl, hk, hm⟩ := hrel
    have HT := Lib.hid hm.1; have M1 := Lib.hid hm.2
    have hol : ol.length ≤ 2001 := by have := hm.1.len; have := List.length_take_le k s.data.toList; omega
    clear hm K0
    by_cases hlt : k < s.size
    · have hq : decide ((k : Int) < s.size) = true := by simp; omega
      have ht := Lib.hid (take_snoc' s k hlt)
      have hok := Lib.hid (HS.out s[k] (by rw [show s[k] = s.data.toList[k]'(by rw [HL.out]; exact hlt) from rfl]; exact List.getElem_mem _))
      have hb := s[k].toNat_lt
      by_cases hsp : s[k] = 32
      · have e1 : ((s[k].toNat : Int) == 32) = true := by rw [hsp]; rfl
        have HSp := Lib.hid hsp; clear hsp
        go_wp2_with fail
        refine (pick_new D _ w dressB 6 rfl (by omega) (by omega) M1.out).mono ?_
        rintro e w2 ⟨x, rfl, hx, mv⟩
        have hxl := dressB_len hx
        have K1 := Lib.hid (show DressMid D w s.data.toList (k + 1) (ol ++ x) w2 from ⟨by rw [ht.out, HSp.out]; exact HT.out.space hx, mv⟩)
        clear hx mv e1
        go_wp2_with fail
        go_roundw
        case rel => exact ⟨k + 1, ol ++ x, rfl, by go_num, by omega, K1.out⟩
        case measure => simp [intOf]; omega
      · have e1 : ((s[k].toNat : Int) == 32) = false := by
          simp only [beq_eq_false_iff_ne, ne_eq]; intro e; apply hsp; rw [← UInt8.toNat_inj]; simp; omega
        clear hsp
        go_upto_block 2 with (fail)
        go_cut [5, 7] (fun s5 s7 wx => ∃ x : UInt8, s5 = strV ol ∧ s7 = .int .u8 x.toNat ∧ okByte x = true ∧ plainB x = [s[k]] ∧ Moved D w wx)
        case first =>
          cases hlo : isLow s[k]
          · have hc := hlo
            rw [low_iff, decide_eq_false_iff_not] at hc
            have hc' : (97 ≤ (s[k].toNat : Int) ∧ 122 < (s[k].toNat : Int)) ∨ (s[k].toNat : Int) < 97 := by omega
            clear hc hlo
            rcases hc' with ⟨g1, g2⟩ | g1
            all_goals
              go_wp2_with fail
              go_meet
              exact ⟨s[k], rfl, rfl, (plain_self hok.out).1, (plain_self hok.out).2, M1.out⟩
          · have hup := Lib.hid (plain_up hlo)
            have hc := hlo
            rw [low_iff, decide_eq_true_iff] at hc
            obtain ⟨g1, g2⟩ := hc
            have e2 : ((s[k] - 32).toNat : Int) = (s[k].toNat : Int) - 32 := by
              rw [UInt8.toNat_sub_of_le _ _ (by rw [UInt8.le_iff_toNat_le]; show 32 ≤ _; omega)]
              show ((s[k].toNat - 32 : Nat) : Int) = _
              omega
            have HE := Lib.hid e2; clear hlo e2
            go_wp2_with fail
            refine (one_any D _ 3 M1.out.deck (by omega) (by omega)).mono ?_
            rintro e w2 ⟨u, rfl, mv⟩
            have M2 := Lib.hid (M1.out.trans mv); clear mv
            cases u
            · go_wp2_with fail
              go_meet
              exact ⟨s[k], rfl, rfl, (plain_self hok.out).1, (plain_self hok.out).2, M2.out⟩
            · go_wp2_with fail
              go_meet
              exact ⟨s[k] - 32, rfl, by rw [HE.out], hup.out.1, hup.out.2, M2.out⟩
        case rest =>
          obtain ⟨x, rfl, rfl, hx1, hx2, m3⟩ := hcut
          have HX1 := Lib.hid hx1; have HX2 := Lib.hid hx2; have M3 := Lib.hid m3
          clear hx1 hx2 m3
          have hcv := one_byte wc x
          go_wp2_with fail
          refine (one_any D _ 20 (M3.out.alloc _).deck (by omega) (by omega)).mono ?_
          rintro e w2 ⟨u, rfl, mv⟩
          have M4 := Lib.hid ((M3.out.alloc _).trans mv)
          have K1 := Lib.hid (show DressMid D w s.data.toList (k + 1) (ol ++ [x]) w2 from ⟨by rw [ht.out]; exact HT.out.byte HX1.out HX2.out, M4.out⟩)
          have K2 := Lib.hid (show DressMid D w s.data.toList (k + 1) (ol ++ [x] ++ [39]) w2 from ⟨by rw [ht.out]; exact HT.out.mark HX1.out HX2.out, M4.out⟩)
          clear mv hcv
          cases u
          · go_wp2_with fail
            go_roundw
            case rel => exact ⟨k + 1, ol ++ [x], rfl, by go_num, by omega, K1.out⟩
            case measure => simp [intOf]; omega
          · by_cases h2 : k + 1 < s.size
            · have e2 : decide ((k : Int) + 1 < s.size) = true := by simp; omega
              by_cases hs2 : s[k + 1] = 32
              · have e3 : ((s[k + 1].toNat : Int) != 32) = false := by rw [hs2]; rfl
                clear hs2
                go_wp2_with fail
                go_roundw
                case rel => exact ⟨k + 1, ol ++ [x], rfl, by go_num, by omega, K1.out⟩
                case measure => simp [intOf]; omega
              · have e3 : ((s[k + 1].toNat : Int) != 32) = true := by
                  simp only [bne_iff_ne, ne_eq]; intro e; apply hs2; rw [← UInt8.toNat_inj]; simp; omega
                clear hs2
                go_wp2_with fail
                go_roundw
                case rel => exact ⟨k + 1, ol ++ [x] ++ [39], by simp, by go_num, by omega, K2.out⟩
                case measure => simp [intOf]; omega
            · have e2 : decide ((k : Int) + 1 < s.size) = false := by simp; omega
              go_wp2_with fail
              go_roundw
              case rel => exact ⟨k + 1, ol ++ [x], rfl, by go_num, by omega, K1.out⟩
              case measure => simp [intOf]; omega
    · have hq : decide ((k : Int) < s.size) = false := by simp; omega
      rw [List.take_of_length_le (by rw [HL.out]; omega)] at HT
      go_wp2_with fail
      refine (pick_new D _ w dressC 4 rfl (by omega) (by omega) M1.out).mono ?_
      rintro e w2 ⟨x, rfl, hx, mv⟩
      have hxl := dressC_len hx
      have M2 := Lib.hid mv; have HO := Lib.hid (HT.out.done hx)
      clear mv hx
      go_wp2_with fail
      go_ret
      exact ⟨ol ++ x, rfl, HO.out, M2.out⟩
end
section
set_option maxRecDepth 100000
open Go.RowKit
attribute [local go_sem] toList_mk mk_size str_append
def codesD : List (List UInt8) := [[83, 87, 49, 32, 49, 65, 65], [56, 48, 48, 49], [56, 48, 32, 48, 50], [97, 45, 49]]
def addrsD : List (List UInt8) := [[49, 50, 32, 77, 97, 105, 110, 32, 83, 116, 46], [77, 97, 105, 110, 32, 83, 116, 32, 49, 50], [80, 97, 114, 107, 32, 82, 100, 32, 51, 98], [77, 97, 105, 110, 32, 83, 116, 114, 101, 101, 116], [48, 48, 55, 32, 80, 97, 114, 107, 32, 114, 100]]
def peopleD : List (List UInt8) := [[114, 111, 98, 101, 114, 116, 32, 115, 109, 105, 116, 104], [98, 111, 98, 32, 115, 109, 105, 116, 104], [114, 117, 112, 101, 114, 116], [97, 110, 110, 97, 32, 109, 105, 108, 108, 101, 114], [97, 110, 110], [111, 110, 101, 105, 108, 108], [109, 97, 114, 105, 97, 32, 118, 97, 110, 32, 115, 109, 105, 116, 104], [112, 101, 116, 101, 114]]
theorem pick_le {D N : Nat} {L : List (List UInt8)} {w w' : World} {e : Ending} (h : PickPost D L w e w') (hL : (L.all fun t => decide (t.length ≤ N)) = true) : SomeText D N w e w' := by
  obtain ⟨l, he, hl, hm⟩ := h
  exact ⟨l, he, by simpa using List.all_eq_true.1 hL l hl, hm⟩
theorem people_ok {x : List UInt8} (h : x ∈ peopleD) : (∀ b ∈ x, okB b = true) ∧ x.length ≤ 15 := by
  have : (peopleD.all fun t => t.all okB && decide (t.length ≤ 15)) = true := by decide
  have := List.all_eq_true.1 this x h
  rw [Bool.and_eq_true, List.all_eq_true, decide_eq_true_iff] at this
  exact this
theorem written_len (y m d f : Int) : (writtenL y m d f).length = 10 := by
  unfold writtenL
  split
  · simp [dg_len]
  · split <;> simp [dg_len]
set_option maxHeartbeats 4000000 in
theorem raw_deal (D : Nat) (k : Int) (w : World) (h : DeckAt w D) :
    Calls Tryz.prog 61 #[.pointer (some ⟨D, 0, none⟩), .int .i64 k] w (SomeText D 64 w) := by
  have M0 := Lib.hid (Moved.start h); clear h
  by_cases h2 : k = 2
  · subst h2
    go_enter Tryz.func61, Tryz.ntmps61
    go_wp2_with fail
    refine (one_any D _ 8 M0.out.deck (by omega) (by omega)).mono ?_
    rintro e w1 ⟨u, rfl, mv⟩
    have M1 := Lib.hid (M0.out.trans mv); clear mv
    cases u
    · go_wp2_with fail
      refine (next_any D _ 2 M1.out.deck (by omega) (by omega)).mono ?_
      rintro e w2 ⟨y, rfl, y0, y1, mv⟩
      have M2 := Lib.hid (M1.out.trans mv); clear mv
      go_wp2_with fail
      refine (next_any D _ 3 M2.out.deck (by omega) (by omega)).mono ?_
      rintro e w3 ⟨m, rfl, m0, m1, mv⟩
      have M3 := Lib.hid (M2.out.trans mv); clear mv
      go_wp2_with fail
      refine (next_any D _ 3 M3.out.deck (by omega) (by omega)).mono ?_
      rintro e w4 ⟨d, rfl, d0, d1, mv⟩
      have M4 := Lib.hid (M3.out.trans mv); clear mv
      go_wp2_with fail
      refine (next_any D _ 3 M4.out.deck (by omega) (by omega)).mono ?_
      rintro e w5 ⟨f, rfl, f0, f1, mv⟩
      have M5 := Lib.hid (M4.out.trans mv); clear mv
      go_wp2_with fail
      refine (written_any (1980 + y) (1 + m) (1 + d) f _ (by omega) (by omega)).mono ?_
      rintro e w6 ⟨rfl, hb⟩
      have M6 := Lib.hid (M5.out.below hb); clear hb
      go_wp2_with fail
      go_ret
      exact ⟨_, rfl, by rw [written_len]; omega, M6.out⟩
    · go_wp2_with fail
      go_ret
      exact ⟨[], rfl, by simp, M1.out⟩
  · have e2 : (k == 2) = false := by simpa using h2
    by_cases h3 : k = 3
    · subst h3
      clear h2 e2
      go_enter Tryz.func61, Tryz.ntmps61
      go_wp2_with fail
      refine (one_any D _ 8 M0.out.deck (by omega) (by omega)).mono ?_
      rintro e w1 ⟨u, rfl, mv⟩
      have M1 := Lib.hid (M0.out.trans mv); clear mv
      cases u
      · go_wp2_with fail
        refine (pick_new D _ w codesD 4 rfl (by omega) (by omega) M1.out).mono ?_
        intro e w2 hp
        obtain ⟨x, rfl, hx, mv⟩ := pick_le (N := 64) hp (by decide)
        have HX := Lib.hid hx; have M2 := Lib.hid mv
        clear hx mv hp
        go_wp2_with fail
        go_ret
        exact ⟨x, rfl, HX.out, M2.out⟩
      · go_wp2_with fail
        go_ret
        exact ⟨[], rfl, by simp, M1.out⟩
    · have e3 : (k == 3) = false := by simpa using h3
      by_cases h4 : k = 4
      · subst h4
        clear h2 e2 h3 e3
        go_enter Tryz.func61, Tryz.ntmps61
        go_wp2_with fail
        refine (one_any D _ 8 M0.out.deck (by omega) (by omega)).mono ?_
        rintro e w1 ⟨u, rfl, mv⟩
        have M1 := Lib.hid (M0.out.trans mv); clear mv
        cases u
        · go_wp2_with fail
          refine (pick_new D _ w addrsD 5 rfl (by omega) (by omega) M1.out).mono ?_
          intro e w2 hp
          obtain ⟨x, rfl, hx, mv⟩ := pick_le (N := 64) hp (by decide)
          have HX := Lib.hid hx; have M2 := Lib.hid mv
          clear hx mv hp
          go_wp2_with fail
          go_ret
          exact ⟨x, rfl, HX.out, M2.out⟩
        · go_wp2_with fail
          go_ret
          exact ⟨[], rfl, by simp, M1.out⟩
      · have e4 : (k == 4) = false := by simpa using h4
        clear h2 h3 h4
        go_enter Tryz.func61, Tryz.ntmps61
        go_wp2_with fail
        refine (one_any D _ 8 M0.out.deck (by omega) (by omega)).mono ?_
        rintro e w1 ⟨u, rfl, mv⟩
        have M1 := Lib.hid (M0.out.trans mv); clear mv
        cases u
        · go_wp2_with fail
          refine (pick_new D _ w peopleD 8 rfl (by omega) (by omega) M1.out).mono ?_
          rintro e w2 ⟨x, rfl, hx, mv⟩
          obtain ⟨p1, p2⟩ := people_ok hx
          have P1 := Lib.hid p1; have M2 := Lib.hid mv
          clear hx mv p1
          go_wp2_with fail
          refine (dress_any D ⟨x.toArray⟩ _ M2.out.deck (by simpa using P1.out) (by rw [mk_size]; omega)).mono ?_
          rintro e w3 ⟨o, rfl, ho, mv⟩
          have M3 := Lib.hid (M2.out.trans mv)
          have HO := Lib.hid (show o.length ≤ 64 by have := ho.len; simp at this; omega)
          clear mv ho
          go_wp2_with fail
          go_ret
          exact ⟨o, rfl, HO.out, M3.out⟩
        · go_wp2_with fail
          go_ret
          exact ⟨[], rfl, by simp, M1.out⟩
end
end Go.Proofs.YtaoebplnbcimlaaGreatDoor
