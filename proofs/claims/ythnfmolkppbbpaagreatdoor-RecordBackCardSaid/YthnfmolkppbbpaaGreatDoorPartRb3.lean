/- Parts of one proof: AddrD, AddrE, DateDig, MakeW, SchA, SchB, SchC, SchD, SchE, Shelf2, Extract, RecRead, SipPlain. -/
import Derived.Test.YthnfmolkppbbpaaGreatDoorPartRb2
import Derived.Shelf.Small.Utf8
import Derived.IntWalk
set_option linter.unusedSimpArgs false
set_option linter.unusedVariables false
namespace Go.Proofs.YthnfmolkppbbpaaGreatDoor
section
set_option maxRecDepth 100000
open Go.RowKit
attribute [local go_sem] toList_mk mk_size
/-- numbers behind the other tokens -/
def order2 (T : List (List UInt8)) : List (List UInt8) := (T.filter fun x => !numB x) ++ T.filter numB
def addrN (r : RulesL) (l : List UInt8) : List UInt8 × Int :=
  if checkR r = 0 then (if foldV l = true then (if 6 < (toks (foldL l)).length ∨ 64 < (joinL (order2 ((toks (foldL l)).map (addrTok r)))).length then ([], 1) else (joinL (order2 ((toks (foldL l)).map (addrTok r))), 0)) else ([], 3)) else ([], checkR r)
theorem addrTok_len {r : RulesL} (h : pairsB r.streets = true) (x : List UInt8) (hx : x.length ≤ 64) : (addrTok r x).length ≤ 65 := by
  unfold addrTok
  split
  · have := short_len x; omega
  · have := canon_len h x hx; omega
theorem order2_len (T : List (List UInt8)) : (order2 T).length ≤ 2 * T.length := by
  unfold order2
  have h1 := List.length_filter_le numB T
  have h2 := List.length_filter_le (fun x => !numB x) T
  simp; omega
theorem order2_mem {T : List (List UInt8)} {t : List UInt8} (h : t ∈ order2 T) : t ∈ T := by
  unfold order2 at h
  rcases List.mem_append.1 h with h | h
  · exact (List.mem_filter.1 h).1
  · exact (List.mem_filter.1 h).1
/-- what the loop of Normalise holds -/
def AddrAt (w2 : World) (A : Nat) (M : List (List UInt8)) (wr : World) : Prop := RowB wr A M ∧ Below w2.heap.size w2 wr ∧ w2.heap.size ≤ A
theorem AddrAt.below {w2 wr w' : World} {A : Nat} {M : List (List UInt8)} (h : AddrAt w2 A M wr) (hb : Below wr.heap.size wr w') : AddrAt w2 A M w' :=
  ⟨blk_below hb (lt_of_blk h.1) h.1, h.2.1.trans (hb.mono h.2.1.size), h.2.2⟩
theorem AddrAt.set {w2 wr : World} {A : Nat} {M : List (List UInt8)} (h : AddrAt w2 A M wr) (k : Nat) (y : List UInt8) : AddrAt w2 A (M.set k y) (wr.setCell ⟨A, k, none⟩ (strV y)) :=
  ⟨h.1.set k y, h.2.1.setCell h.2.2 _, h.2.2⟩
set_option maxHeartbeats 4000000 in
theorem addr_yes (S : Nat → Prop) (vt vn vs : Value) (r : RulesL) (s : ByteArray) (w : World) (h : RulesAt w S vt vn vs r) (hc : checkR r = 0) (hv : foldV s.data.toList = true) :
    Calls Tryz.prog 177 #[.agg #[vt, vn, vs], .string s] w fun e w' => e = .returned (pairV (addrN r s.data.toList)) ∧ Below w.heap.size w w' := by
  have hs : s.size ≤ 64 := by
    have := foldV_len hv
    have h2 : s.data.toList.length = s.size := by simp
    omega
  obtain ⟨⟨k1, k2, k3⟩, g1, g2, g3, g4⟩ := check_zero hc
  have G3 := Lib.hid g3
  obtain ⟨avs, cvs, rfl⟩ := h.2.2.slice
  have HR := Lib.hid h.any
  have HC := Lib.hid hc; have HV := Lib.hid hv
  clear h hc hv g1 g2 g3 g4
  have hfin : addrN r s.data.toList = (if 6 < (toks (foldL s.data.toList)).length ∨ 64 < (joinL (order2 ((toks (foldL s.data.toList)).map (addrTok r)))).length then ([], 1) else (joinL (order2 ((toks (foldL s.data.toList)).map (addrTok r))), 0)) := by
    unfold addrN; rw [if_pos HC.out, if_pos HV.out]
  have HF := Lib.hid hfin; clear hfin
  go_enter Tryz.func177, Tryz.ntmps177
  go_wp2_with fail
  refine (rcheck_any Any1 vt vn _ r _ (HR.out.below ((Below.refl _ _).alloc (Nat.le_refl _) _))).mono ?_
  rw [HC.out]
  rintro e w1 ⟨rfl, hb1⟩
  have X1 : w1.heap[w.heap.size]? = some (.cells #[vt, vn, .slice avs r.streets.length cvs] 31 (0, 0)) := blk_below hb1 (by simp) (blk_new rfl)
  have HX1 := Lib.hid X1
  have HB1 := Lib.hid (((Below.refl w.heap.size w).alloc (Nat.le_refl _) _).trans (hb1.mono (by simp)))
  clear X1 hb1
  go_wp2_with fail
  refine (fold_yes s _ (by omega) HV.out).mono ?_
  rintro e w2 ⟨rfl, hb2⟩
  have HX2 := Lib.hid (blk_below hb2 (lt_of_blk HX1.out) HX1.out)
  have HB2 := Lib.hid (HB1.out.trans (hb2.mono HB1.out.size))
  clear hb2 HX1 HB1
  go_wp2_with fail
  have hfl : (foldL s.data.toList).length ≤ 64 := by
    have := fold_len s.data.toList
    have h2 : s.data.toList.length = s.size := by simp
    omega
  obtain ⟨fl, hfl'⟩ : ∃ fl, foldL s.data.toList = fl := ⟨_, rfl⟩
  have hasc : ascii fl := hfl' ▸ fold_ascii _
  have HA := Lib.hid hasc
  rw [hfl'] at hfl HF ⊢
  clear hasc hfl'
  refine (tokens_any fl _ HA.out (by omega)).mono ?_
  rintro e w4 ⟨A, rfl, hA, ho, hb4⟩
  have hrow := (own_block ho).2
  have htl : ∀ t ∈ toks fl, t.length ≤ 64 := fun t ht => by have := toks_le fl [] t ht; simp at this; omega
  have htn : (toks fl).length ≤ 65 := by have := (toksA_len fl []).2.1; unfold toks; omega
  obtain ⟨T, hT⟩ : ∃ T, toks fl = T := ⟨_, rfl⟩
  rw [hT] at hrow htl htn HF ⊢
  have HAt := Lib.hid (show AddrAt w2 A T w4 from ⟨hrow, hb4, hA⟩); have HTL := Lib.hid htl
  have zX2 := lt_of_blk HX2.out
  clear hb4 ho hrow hT htl hA
  go_wp2_with fail
  go_loopw [33] (fun i wr => ∃ k : Nat, k ≤ T.length ∧ i = .int .i64 k ∧ AddrAt w2 A (midL (addrTok r) T k) wr) (fun i _ => T.length - (intOf i).toNat)
  case atStart => exact ⟨0, by omega, rfl, by simpa [midL] using HAt.out⟩
  case round =>
    obtain ⟨k, hk, rfl, ho⟩ := hrel
    have HO := Lib.hid ho; clear ho
    by_cases hlt : k < T.length
    · have hq : decide ((k : Int) < T.length) = true := by simp; omega
      have hi : (k : Int) < (T.length : Int) := by omega
      have hml := mid_len (addrTok r) T k hk
      have c1 := HO.out.1.cell k (by omega)
      rw [mid_get _ _ _ hlt] at c1
      have hxl : (T.getD k []).length ≤ 64 := TL_get HTL.out k hlt
      have hset := mid_set (addrTok r) T k hlt
      have hsame := mid_same (addrTok r) T k hlt
      have hfx : addrTok r (T.getD k []) = if numB (T.getD k []) = true then shortL (T.getD k []) else canonL r.streets (T.getD k []) := rfl
      have hcf := canon_find r.streets (T.getD k [])
      obtain ⟨x, hx⟩ : ∃ x, T.getD k [] = x := ⟨_, rfl⟩
      rw [hx] at c1 hxl hset hsame hfx hcf
      have HSet := Lib.hid hset; have HSame := Lib.hid hsame; have HFx := Lib.hid hfx
      clear hx hset hsame hfx hml
      have hX := blk_below HO.out.2.1 zX2 HX2.out
      obtain ⟨p0, p1, p2⟩ := cells3 hX
      have zX := lt_of_blk hX
      have HX := Lib.hid hX; clear hX
      go_wp2_with fail
      have eg : ∀ args w, (callFunc 216 args).run Tryz.prog w = .ok (.enter 216 args) w := enters_of Tryz.func216 (by kernel_rfl) rfl
      have KI := idxP_any (fun y => y.1 == x) 216 #[.pointer (some ⟨wr.heap.size, 0, none⟩)] eg Any1 (.slice avs r.streets.length cvs) r.streets (wr.alloc (.cells #[strV x] 9)) (HR.out.2.2.below (HB2.out.trans (HO.out.2.1.mono HB2.out.size) |>.alloc (by have := HB2.out.size; have := HO.out.2.1.size; omega) _)) (by omega) (pred_addr x wr.heap.size _ (by simp) (by simp))
      change Calls _ _ _ _ fun e w' => e = .returned (.int .i64 (findI r.streets x)) ∧ Below (wr.alloc (.cells #[strV x] 9)).heap.size (wr.alloc (.cells #[strV x] 9)) w' at KI
      obtain ⟨n, hn⟩ : ∃ n, findI r.streets x = n := ⟨_, rfl⟩
      rw [hn] at KI hcf
      refine KI.mono ?_
      clear eg hn KI
      rintro e w5 ⟨rfl, hb5⟩
      have hal : Below wr.heap.size wr (wr.alloc (.cells #[strV x] 9)) := (Below.refl _ _).alloc (Nat.le_refl _) _
      have HO5 := Lib.hid ((HO.out.below hal).below hb5)
      have hX5 : w5.heap[w.heap.size]? = some (.cells #[vt, vn, .slice avs r.streets.length cvs] 31 (0, 0)) := blk_below hb5 (by simp; omega) (blk_old HX.out)
      have k0 : w5.cell? ⟨wr.heap.size, 0, none⟩ = some (strV x) := (hb5.cell (p := ⟨wr.heap.size, 0, none⟩) (by simp)).trans (by simp)
      clear p0 p1 p2 hal hb5 HO c1
      obtain ⟨p0, p1, p2⟩ := cells3 hX5
      have hAl := lt_of_blk HO5.out.1
      have hml := mid_len (addrTok r) T k hk
      have c5 : w5.cell? ⟨A, k, none⟩ = some (strV ((midL (addrTok r) T k).getD k [])) := HO5.out.1.cell k (by omega)
      have f5 : w5.frozen? ⟨A, k, none⟩ = false := frozen_of_row _ _ _ _ _ HO5.out.1
      generalize (midL (addrTok r) T k).getD k [] = old at c5
      clear hX5 HX hml
      go_wp2_with fail
      refine (numeral_any x _).mono ?_
      rintro e w6 ⟨rfl, rfl⟩
      cases hd : numB x
      · rw [hd, if_neg (by simp)] at HFx
        clear hd
        rcases hcf with ⟨h1, h2⟩ | ⟨j, hj, h1, h2⟩
        · rw [h2] at HFx
          have HS := Lib.hid (HSame.out HFx.out)
          clear h2 HSame HSet
          go_wp2_with fail
          go_roundw
          case rel => exact ⟨k + 1, by omega, by go_num, by rw [← HS.out]; exact HO5.out⟩
          case measure => simp [intOf]; omega
        · rw [← h2] at HFx
          have HS := Lib.hid (HSet.out _ HFx.out)
          subst h1
          obtain ⟨bs, offs, e1, _, hbs, hcs⟩ := vec_cell2 HR.out.2.2 (by omega)
          have hcs1 := hcs j hj 1 _ rfl
          subst e1
          have s1 : w5.cell? ⟨bs, offs + j * 2 + 1, none⟩ = some (strV (r.streets.getD j default).2) := ((HB2.out.trans (HO5.out.2.1.mono HB2.out.size)).cell (p := ⟨bs, offs + j * 2 + 1, none⟩) hbs).trans hcs1
          obtain ⟨y, hy⟩ : ∃ y, (r.streets.getD j default).2 = y := ⟨_, rfl⟩
          rw [hy] at s1 HS
          have hj' : (j : Int) < (r.streets.length : Int) := by omega
          clear hcs hcs1 hy h2 HSame HSet HFx
          go_wp2_with fail
          go_roundw
          case rel => exact ⟨k + 1, by omega, by go_num, by rw [← HS.out]; exact HO5.out.set k y⟩
          case measure => simp [intOf]; omega
      · rw [hd, if_pos rfl] at HFx
        have HS := Lib.hid (HSet.out _ HFx.out)
        clear hd HSame HSet hcf
        go_wp2_with fail
        refine (short_any x _ (by omega)).mono ?_
        rintro e w6 ⟨rfl, rfl⟩
        go_wp2_with fail
        go_roundw
        case rel => exact ⟨k + 1, by omega, by go_num, by rw [← HS.out]; exact HO5.out.set k _⟩
        case measure => simp [intOf]; omega
    · have hq : decide ((k : Int) < T.length) = false := by simp; omega
      obtain rfl : k = T.length := by omega
      have hm : midL (addrTok r) T T.length = T.map (addrTok r) := by unfold midL; simp
      rw [hm] at HO
      have hMl : (T.map (addrTok r)).length = T.length := by simp
      have hmem : ∀ t ∈ T.map (addrTok r), t.length ≤ 65 := by
        intro t ht
        obtain ⟨x, hx, rfl⟩ := List.mem_map.1 ht
        exact addrTok_len G3.out x (HTL.out x hx)
      obtain ⟨M, hM⟩ : ∃ M, T.map (addrTok r) = M := ⟨_, rfl⟩
      rw [hM] at HO hMl hmem HF
      have hjl := join_le (order2 M) (fun t ht => hmem t (order2_mem ht))
      have hol := order2_len M
      have HVM := Lib.hid (HO.out.1.vec T.length (by omega))
      rw [hMl] at HVM
      have HML := Lib.hid hMl
      have HWr := Lib.hid (HO.out.2.1.mono HB2.out.size)
      have HW := Lib.hid (HB2.out.trans (HO.out.2.1.mono HB2.out.size))
      have hjb : (joinL (order2 M)).length ≤ 1000000 := by
        have : (order2 M).length * 66 ≤ 130 * 66 := Nat.mul_le_mul_right 66 (by omega)
        omega
      have hol' : (order2 M).length ≤ 1000 := by omega
      have hM2 : M.length ≤ 100 := by omega
      clear hm hM hmem hjl hol hMl HO
      go_wp2_with fail
      refine (part_any Any1 _ M _ HVM.out (by omega)).mono ?_
      rintro e w6 ⟨u, v, rfl, h2⟩
      obtain ⟨o1, o2, o3, o4⟩ := h2
      obtain ⟨i0, hi0, hz0, hz1, hz2⟩ := info_parts infoS
      have hyl := List.length_filter_le numB M
      have hnl := List.length_filter_le (fun x => !numB x) M
      have hord : order2 M = (M.filter fun x => !numB x) ++ M.filter numB := rfl
      obtain ⟨Y, hY⟩ : ∃ Y, M.filter numB = Y := ⟨_, rfl⟩
      obtain ⟨N, hN⟩ : ∃ N, (M.filter fun x => !numB x) = N := ⟨_, rfl⟩
      rw [hY] at o1 hyl hord
      rw [hN] at o2 hnl hord
      have HW6 := Lib.hid (HW.out.trans (o4.mono HW.out.size))
      have hbz := o4.size
      have O2 := Lib.hid o2
      have HO4 := Lib.hid o4
      clear hY hN o3 o4 HW
      rcases o1 with ⟨o1l, ⟨rfl, h0⟩ | ⟨g, cap, cur, rfl, hg, hh, hn1, hc1, hsz, ht1⟩⟩
      · have hY0 : Y = [] := List.length_eq_zero_iff.1 h0
        subst hY0
        rw [List.append_nil] at hord
        have HV7 := Lib.hid (Vec.owns (S := Any1) (k := 1) (enc := encS) (fun _ => rfl) o2 (fun _ _ _ => trivial))
        clear o1l h0 o2
        rw [hord] at HF hjb hol'
        have HW7 := HW6
        go_wp2_with (at_builtin; refine wpList_append_own_none rfl _ _ 28 rfl _ 9 i0 1 Tryz.underlying28 hi0 _ _ _ rfl O2.out rfl ?_)
        refine (join_any Any1 _ N _ HV7.out (by omega) (by omega)).mono ?_
        rintro e w9 ⟨rfl, hb9⟩
        rw [← hord] at HF hjb ⊢
        clear hord hol'
        have HW9 := Lib.hid (HW7.out.trans (hb9.mono HW7.out.size)); clear hb9
        obtain ⟨J, hJ⟩ : ∃ J, joinL (order2 M) = J := ⟨_, rfl⟩
        rw [hJ] at HF hjb ⊢
        clear hJ
        by_cases g1 : 6 < T.length
        · have d1 : decide ((6 : Int) < T.length) = true := by simp; omega
          rw [if_pos (.inl g1)] at HF
          go_wp2_with fail
          go_ret2
          exact ⟨by rw [HF.out]; rfl, HW9.out⟩
        · have d1 : decide ((6 : Int) < T.length) = false := by simp; omega
          by_cases g2 : 64 < J.length
          · have d2 : decide ((64 : Int) < J.length) = true := by simp; omega
            rw [if_pos (.inr g2)] at HF
            go_wp2_with fail
            go_ret2
            exact ⟨by rw [HF.out]; rfl, HW9.out⟩
          · have d2 : decide ((64 : Int) < J.length) = false := by simp; omega
            rw [if_neg (by omega)] at HF
            go_wp2_with fail
            go_ret2
            exact ⟨by rw [HF.out]; rfl, HW9.out⟩
      · have hcells : ∀ j u, (Y.flatMap encS)[j]? = some u → w6.cell? ((⟨g, 0, none⟩ : Addr).add j) = some u := by
          intro j u hu
          have : (⟨g, 0, none⟩ : Addr).add j = ⟨g, j, none⟩ := by unfold Addr.add; split <;> simp_all
          rw [this, cell_of_row _ _ _ _ _ _ hh]
          rw [← ht1, List.getElem?_take] at hu
          split at hu
          · rw [← Array.getElem?_toList]; exact hu
          · cases hu
        have HCl := Lib.hid hcells
        have hone : ∀ u ∈ Y.flatMap encS, u.oneCell' = true := by
          intro u hu
          obtain ⟨y, _, hy⟩ := List.mem_flatMap.1 hu
          simp at hy; subst hy; rfl
        have HOne := Lib.hid hone
        have hYb : N.length + Y.length ≤ 1000 := by omega
        have hmx : N.length + Y.length ≤ maxLen := size_le_maxLen (by omega)
        have HMx := Lib.hid hmx
        clear o1l hg hh hn1 hc1 hsz ht1 hcells hone o2 hmx
        go_wp2_with (at_builtin; refine wpList_append_own _ rfl _ _ 28 rfl wr.heap.size 9 i0 (.string ⟨#[]⟩) 1 16 Tryz.underlying28 hi0 hz0 hz1 hz2 rfl (by decide) _ _ _ rfl O2.out ⟨g, 0, none⟩ Y.length cap (Y.flatMap encS) rfl (by rw [flat_len1]; omega) HCl.out HOne.out HMx.out (by omega) hbz ?_; intro v7 w7 ho7 hg7 _)
        rw [show N.length + Y.length = (N ++ Y).length by simp, ← List.flatMap_append, ← hord] at ho7
        have HV7 := Lib.hid (Vec.owns (S := Any1) (k := 1) (enc := encS) (fun _ => rfl) ho7 (fun _ _ _ => trivial))
        have hbw7 : Below wr.heap.size wr w7 := HO4.out.grown hg7 hbz (fun j hj => (O2.out.lt j hj).1)
        have HW7 := Lib.hid ((HB2.out.trans HWr.out).trans (hbw7.mono (HB2.out.trans HWr.out).size))
        clear ho7 hg7 hbw7 HCl HOne HMx
        refine (join_any Any1 _ (order2 M) _ HV7.out (by omega) (by omega)).mono ?_
        rintro e w9 ⟨rfl, hb9⟩
        clear hord hol'
        have HW9 := Lib.hid (HW7.out.trans (hb9.mono HW7.out.size)); clear hb9
        obtain ⟨J, hJ⟩ : ∃ J, joinL (order2 M) = J := ⟨_, rfl⟩
        rw [hJ] at HF hjb ⊢
        clear hJ
        by_cases g1 : 6 < T.length
        · have d1 : decide ((6 : Int) < T.length) = true := by simp; omega
          rw [if_pos (.inl g1)] at HF
          go_wp2_with fail
          go_ret2
          exact ⟨by rw [HF.out]; rfl, HW9.out⟩
        · have d1 : decide ((6 : Int) < T.length) = false := by simp; omega
          by_cases g2 : 64 < J.length
          · have d2 : decide ((64 : Int) < J.length) = true := by simp; omega
            rw [if_pos (.inr g2)] at HF
            go_wp2_with fail
            go_ret2
            exact ⟨by rw [HF.out]; rfl, HW9.out⟩
          · have d2 : decide ((64 : Int) < J.length) = false := by simp; omega
            rw [if_neg (by omega)] at HF
            go_wp2_with fail
            go_ret2
            exact ⟨by rw [HF.out]; rfl, HW9.out⟩
end
section
set_option maxRecDepth 100000
open Go.RowKit
attribute [local go_sem] toList_mk mk_size
set_option maxHeartbeats 1000000 in
theorem addr_no (S : Nat → Prop) (vt vn vs : Value) (r : RulesL) (s : ByteArray) (w : World) (h : RulesAt w S vt vn vs r) (hs : s.size ≤ 9223372036854775000) (hc : checkR r = 0) (hv : foldV s.data.toList = false) :
    Calls Tryz.prog 177 #[.agg #[vt, vn, vs], .string s] w fun e w' => e = .returned (pairV (addrN r s.data.toList)) ∧ Below w.heap.size w w' := by
  have HR := Lib.hid h.any
  have HC := Lib.hid hc; have HV := Lib.hid hv
  clear h hc hv
  have HF := Lib.hid (show addrN r s.data.toList = ([], 3) by unfold addrN; rw [if_pos HC.out, if_neg (by rw [HV.out]; simp)])
  go_enter Tryz.func177, Tryz.ntmps177
  go_wp2_with fail
  refine (rcheck_any Any1 vt vn vs r _ (HR.out.below ((Below.refl _ _).alloc (Nat.le_refl _) _))).mono ?_
  rw [HC.out]
  rintro e w1 ⟨rfl, hb1⟩
  have HB1 := Lib.hid (((Below.refl w.heap.size w).alloc (Nat.le_refl _) _).trans (hb1.mono (by simp)))
  clear hb1
  go_wp2_with fail
  refine (fold_no s _ hs HV.out).mono ?_
  rintro e w2 ⟨rfl, hb2⟩
  have HB2 := Lib.hid (HB1.out.trans (hb2.mono HB1.out.size))
  clear hb2 HB1
  go_wp2_with fail
  go_ret2
  exact ⟨by rw [HF.out]; rfl, HB2.out⟩
set_option maxHeartbeats 1000000 in
theorem addr_bad (S : Nat → Prop) (vt vn vs : Value) (r : RulesL) (s : ByteArray) (w : World) (h : RulesAt w S vt vn vs r) (hc : checkR r ≠ 0) :
    Calls Tryz.prog 177 #[.agg #[vt, vn, vs], .string s] w fun e w' => e = .returned (pairV (addrN r s.data.toList)) ∧ Below w.heap.size w w' := by
  have HR := Lib.hid h.any
  have HF := Lib.hid (show addrN r s.data.toList = ([], checkR r) by unfold addrN; rw [if_neg hc])
  have hne : (checkR r != 0) = true := by simpa using hc
  clear h hc
  go_enter Tryz.func177, Tryz.ntmps177
  go_wp2_with fail
  refine (rcheck_any Any1 vt vn vs r _ (HR.out.below ((Below.refl _ _).alloc (Nat.le_refl _) _))).mono ?_
  obtain ⟨c, hcc⟩ : ∃ c, checkR r = c := ⟨_, rfl⟩
  rw [hcc] at hne HF ⊢
  clear hcc
  rintro e w1 ⟨rfl, hb1⟩
  have HB1 := Lib.hid (((Below.refl w.heap.size w).alloc (Nat.le_refl _) _).trans (hb1.mono (by simp)))
  clear hb1
  go_wp2_with fail
  go_ret2
  exact ⟨by rw [HF.out]; rfl, HB1.out⟩
theorem addr_any (S : Nat → Prop) (vt vn vs : Value) (r : RulesL) (s : ByteArray) (w : World) (h : RulesAt w S vt vn vs r) (hs : s.size ≤ 9223372036854775000) :
    Calls Tryz.prog 177 #[.agg #[vt, vn, vs], .string s] w fun e w' => e = .returned (pairV (addrN r s.data.toList)) ∧ Below w.heap.size w w' := by
  by_cases hc : checkR r = 0
  · cases hv : foldV s.data.toList with
    | true => exact addr_yes S vt vn vs r s w h hc hv
    | false => exact addr_no S vt vn vs r s w h hs hc hv
  · exact addr_bad S vt vn vs r s w h hc
set_option maxHeartbeats 1000000 in
theorem anormal_any (S : Nat → Prop) (vt vn vs : Value) (r : RulesL) (s : ByteArray) (w : World) (h : RulesAt w S vt vn vs r) (hs : s.size ≤ 9223372036854775000) :
    Calls Tryz.prog 178 #[.agg #[vt, vn, vs], .string s] w fun e w' => e = .returned (.bool (isOwn (addrN r s.data.toList) s.data.toList)) ∧ Below w.heap.size w w' := by
  have HR := Lib.hid h.any; clear h
  have HS := Lib.hid (Lib.toList_data s)
  go_enter Tryz.func178, Tryz.ntmps178
  go_wp2_with fail
  refine (addr_any Any1 vt vn vs r s _ (HR.out.below ((Below.refl _ _).alloc (Nat.le_refl _) _)) hs).mono ?_
  obtain ⟨p, hp⟩ : ∃ p, addrN r s.data.toList = p := ⟨_, rfl⟩
  rw [hp]
  have HP := Lib.hid hp; clear hp
  obtain ⟨pl, pe⟩ := p
  unfold pairV
  rintro e w1 ⟨rfl, hb1⟩
  have HB1 := Lib.hid (((Below.refl w.heap.size w).alloc (Nat.le_refl _) _).trans (hb1.mono (by simp)))
  clear hb1
  cases he : (pe == 0)
  all_goals
    go_wp2_with fail
    go_ret
    refine ⟨ret_bool ?_, HB1.out⟩
    rw [HP.out]
    simp [isOwn, he, HS.out]
def codeN (l : List UInt8) : List UInt8 × Int :=
  if foldV l = true then (if 12 < (toks (foldL l)).flatten.length then ([], 1) else ((toks (foldL l)).flatten, 0)) else ([], 3)
theorem join_flat (L : List (List UInt8)) : Lib.join L [] = L.flatten := by
  induction L with
  | nil => rfl
  | cons a L ih =>
    rw [Lib.join_cons, List.flatten_cons]
    congr 1
    unfold Lib.joinTail
    simp
theorem flat_le (l : List UInt8) : ∀ p, (toksA p l).flatten.length ≤ p.length + l.length := by
  induction l with
  | nil => intro p; simp only [toksA]; split <;> simp
  | cons c l ih =>
    intro p
    by_cases hc : c = 32
    · subst hc
      by_cases hp : p = []
      · subst hp; rw [toksA_sp0]; have := ih []; simp at *; omega
      · rw [toksA_sp _ _ hp]; have := ih []; simp at *; omega
    · rw [toksA_ch _ _ _ hc]; have := ih (p ++ [c]); simp at *; omega
set_option maxHeartbeats 1000000 in
theorem code_any (s : ByteArray) (w : World) (hs : s.size ≤ 9223372036854775000) :
    Calls Tryz.prog 173 #[.string s] w fun e w' => e = .returned (pairV (codeN s.data.toList)) ∧ Below w.heap.size w w' := by
  cases hv : foldV s.data.toList
  · have HV := Lib.hid hv
    have HF := Lib.hid (show codeN s.data.toList = ([], 3) by unfold codeN; rw [if_neg (by rw [hv]; simp)])
    clear hv
    go_enter Tryz.func173, Tryz.ntmps173
    go_wp2_with fail
    refine (fold_no s _ hs HV.out).mono ?_
    rintro e w2 ⟨rfl, hb2⟩
    go_wp2_with fail
    go_ret2
    exact ⟨by rw [HF.out]; rfl, hb2⟩
  · have hs64 : s.size ≤ 64 := by
      have := foldV_len hv
      have h2 : s.data.toList.length = s.size := by simp
      omega
    have hfl : (foldL s.data.toList).length ≤ 64 := by
      have := fold_len s.data.toList
      have h2 : s.data.toList.length = s.size := by simp
      omega
    have HV := Lib.hid hv
    have hfin : codeN s.data.toList = (if 12 < (toks (foldL s.data.toList)).flatten.length then ([], 1) else ((toks (foldL s.data.toList)).flatten, 0)) := by
      unfold codeN; rw [if_pos hv]
    clear hv
    obtain ⟨fl, hfl'⟩ : ∃ fl, foldL s.data.toList = fl := ⟨_, rfl⟩
    have HA := Lib.hid (show ascii fl from hfl' ▸ fold_ascii _)
    rw [hfl'] at hfl hfin
    have HFl := Lib.hid hfl'
    have HF := Lib.hid hfin; clear hfin hfl'
    go_enter Tryz.func173, Tryz.ntmps173
    go_wp2_with fail
    refine (fold_yes s _ (by omega) HV.out).mono ?_
    rw [HFl.out]
    rintro e w2 ⟨rfl, hb2⟩
    have HB2 := Lib.hid hb2; clear hb2
    go_wp2_with fail
    refine (tokens_any fl _ HA.out (by omega)).mono ?_
    rintro e w4 ⟨A, rfl, hA, ho, hb4⟩
    have hrow := (own_block ho).2
    have HB4 := Lib.hid (HB2.out.trans (hb4.mono HB2.out.size))
    have htn : (toks fl).length ≤ 65 := by have := (toksA_len fl []).2.1; unfold toks; omega
    have hfle : (toks fl).flatten.length ≤ 64 := by have := flat_le fl []; simp at this; unfold toks; simp; omega
    obtain ⟨T, hT⟩ : ∃ T, toks fl = T := ⟨_, rfl⟩
    rw [hT] at hrow htn hfle HF ⊢
    have hjj : Lib.join ((T.map mkS).map (·.data.toList)) [] = T.flatten := by
      rw [List.map_map, ← join_flat]; congr 1; conv => rhs; rw [← List.map_id T]
      exact List.map_congr_left fun x _ => by simp [mkS]
    have hj := Tryz.strings_Join A 0 T.length (T.map mkS) ⟨#[]⟩ w4 (fun j x hx => by
        rw [List.getElem?_map] at hx
        obtain ⟨y, hy, rfl⟩ := Option.map_eq_some_iff.1 hx
        have hj' : j < T.length := (List.getElem?_eq_some_iff.1 hy).1
        have := hrow.cell j hj'
        rw [List.getD, hy] at this
        simpa [mkS] using this) (lt_of_blk hrow) (by simp; omega) (by simp) (by rw [show (⟨#[]⟩ : ByteArray).data.toList = [] from rfl, hjj]; omega)
    rw [show (⟨#[]⟩ : ByteArray).data.toList = [] from rfl, hjj, List.length_map] at hj
    have HJ := Lib.hid hj
    clear hb4 ho hrow hT hA hj hjj HB2
    go_wp2_with fail
    refine HJ.out.mono ?_
    obtain ⟨J, hJ⟩ : ∃ J, T.flatten = J := ⟨_, rfl⟩
    rw [hJ] at HF hfle ⊢
    clear hJ HJ
    rintro e w5 ⟨rfl, hb5⟩
    have HB5 := Lib.hid (HB4.out.trans (hb5.mono HB4.out.size)); clear hb5 HB4
    by_cases g1 : 12 < J.length
    · have d1 : decide ((12 : Int) < J.length) = true := by simp; omega
      rw [if_pos g1] at HF
      go_wp2_with fail
      go_ret2
      exact ⟨by rw [HF.out]; rfl, HB5.out⟩
    · have d1 : decide ((12 : Int) < J.length) = false := by simp; omega
      rw [if_neg g1] at HF
      go_wp2_with fail
      go_ret2
      exact ⟨by rw [HF.out]; rfl, HB5.out⟩
set_option maxHeartbeats 1000000 in
theorem normed_any (s : ByteArray) (w : World) (hs : s.size ≤ 9223372036854775000) :
    Calls Tryz.prog 175 #[.string s] w fun e w' => e = .returned (.bool (isOwn (codeN s.data.toList) s.data.toList)) ∧ Below w.heap.size w w' := by
  have HS := Lib.hid (Lib.toList_data s)
  go_enter Tryz.func175, Tryz.ntmps175
  go_wp2_with fail
  refine (code_any s _ hs).mono ?_
  obtain ⟨p, hp⟩ : ∃ p, codeN s.data.toList = p := ⟨_, rfl⟩
  rw [hp]
  have HP := Lib.hid hp; clear hp
  obtain ⟨pl, pe⟩ := p
  unfold pairV
  rintro e w1 ⟨rfl, hb1⟩
  have HB1 := Lib.hid hb1
  clear hb1
  cases he : (pe == 0)
  all_goals
    go_wp2_with fail
    go_ret
    refine ⟨ret_bool ?_, HB1.out⟩
    rw [HP.out]
    simp [isOwn, he, HS.out]
end
section
set_option maxRecDepth 100000
open Go.RowKit Cal
def isDig (l : List UInt8) : Prop := ∀ c ∈ l, 48 ≤ c.toNat ∧ c.toNat ≤ 57
def valD : List UInt8 → Nat
  | [] => 0
  | c :: cs => (c.toNat - 48) * 10 ^ cs.length + valD cs
theorem valD_append (l r : List UInt8) : valD (l ++ r) = valD l * 10 ^ r.length + valD r := by
  induction l with
  | nil => simp [valD]
  | cons c cs ih => simp only [List.cons_append, valD, ih, List.length_append, Nat.pow_add, Nat.add_mul]; rw [Nat.mul_assoc]; omega
theorem numFrom_dig (l : List UInt8) (h : isDig l) : ∀ n : Nat, numFrom (n : Int) l = some ((n * 10 ^ l.length + valD l : Nat) : Int) := by
  induction l with
  | nil => intro n; simp [numFrom, valD]
  | cons c cs ih =>
    intro n
    have h1 := h c (by simp)
    have h2 := ih fun x hx => h x (by simp [hx])
    have e : (10 * (n : Int) + ((c.toNat : Int) - 48)) = ((10 * n + (c.toNat - 48) : Nat) : Int) := by omega
    rw [numFrom, if_pos (by omega), e, h2]
    congr 2
    simp only [valD, List.length_cons, Nat.pow_succ, Nat.add_mul]
    have : 10 * n * 10 ^ cs.length = n * (10 ^ cs.length * 10) := by rw [Nat.mul_comm 10 n, Nat.mul_assoc, Nat.mul_comm 10]
    omega
theorem numI_dig (l : List UInt8) (h : isDig l) : numI l = valD l := by
  unfold numI
  have := numFrom_dig l h 0
  simp only [Int.natCast_zero] at this
  rw [show (0 : Int) = ((0 : Nat) : Int) from rfl, numFrom_dig l h 0]
  simp
theorem dg_len (k : Nat) : ∀ n, (dg n k).length = k := by
  induction k with
  | zero => intro n; rfl
  | succ k ih => intro n; simp [dg, ih]
theorem dg_dig (k : Nat) : ∀ n : Int, 0 ≤ n → isDig (dg n k) := by
  induction k with
  | zero => intro n _ c hc; simp [dg] at hc
  | succ k ih =>
    intro n hn c hc
    simp only [dg, List.mem_append, List.mem_singleton] at hc
    rcases hc with hc | rfl
    · exact ih (n / 10) (by omega) c hc
    · have : (UInt8.ofNat (48 + (n % 10).toNat)).toNat = 48 + (n % 10).toNat := by rw [UInt8.toNat_ofNat']; omega
      omega
theorem dg_val (k : Nat) : ∀ n : Int, 0 ≤ n → n < 10 ^ k → (valD (dg n k) : Int) = n := by
  induction k with
  | zero => intro n h0 h1; simp at h1; simp [dg, valD]; omega
  | succ k ih =>
    intro n hn h1
    have e : (UInt8.ofNat (48 + (n % 10).toNat)).toNat = 48 + (n % 10).toNat := by rw [UInt8.toNat_ofNat']; omega
    have h2 : n / 10 < 10 ^ k := by rw [Int.pow_succ] at h1; omega
    have := ih (n / 10) (by omega) h2
    simp only [dg, valD_append, valD, List.length_cons, List.length_nil, e]
    simp
    omega
theorem digits8_len (y m d : Int) : (digits8 y m d).length = 8 := by simp [digits8, dg_len]
end
section
set_option maxRecDepth 100000
open Go.RowKit Cal
attribute [local go_sem] dg_len
@[local go_sem] theorem bytes_append (a b : List UInt8) : (⟨a.toArray⟩ : ByteArray) ++ ⟨b.toArray⟩ = ⟨(a ++ b).toArray⟩ := by
  apply ByteArray.ext; simp
theorem ret_str {a b : List UInt8} (h : a = b) : Ending.returned (.string ⟨a.toArray⟩) = .returned (.string ⟨b.toArray⟩) := by rw [h]
theorem dgb (n : Int) (h : 0 ≤ n) : byteV (UInt8.ofNat (48 + (n % 10).toNat)) = .int .u8 (48 + n % 10) := by
  have : (UInt8.ofNat (48 + (n % 10).toNat)).toNat = 48 + (n % 10).toNat := by rw [UInt8.toNat_ofNat']; omega
  unfold byteV; rw [this]; congr 1; omega
theorem owns_new {w : World} {B : Nat} {e : TypeId} (l : List UInt8) (hB : B ≤ w.heap.size) (hl : l.length ≤ 1000) :
    (w.alloc (.cells (l.map byteV).toArray e)).ownsRow B e 1 (.slice (some ⟨w.heap.size, 0, none⟩) l.length l.length) l.length (l.map byteV) :=
  ⟨by simp, .inr ⟨_, _, _, rfl, hB, blk_new rfl, Nat.le_refl _, size_le_maxLen (by omega), by simp, by rw [List.take_of_length_le (by simp)]⟩⟩
set_option maxHeartbeats 400000 in
theorem two_any (n : Int) (w : World) (h0 : 0 ≤ n) (h1 : n ≤ 99) :
    Calls Tryz.prog 90 #[.int .i64 n] w fun e w' => e = .returned (.string ⟨(dg n 2).toArray⟩) ∧ Below w.heap.size w w' := by
  have ha : 0 ≤ n / 10 % 10 ∧ n / 10 % 10 ≤ 9 := by omega
  have hb : 0 ≤ n % 10 ∧ n % 10 ≤ 9 := by omega
  obtain ⟨ha1, ha2⟩ := ha
  obtain ⟨hb1, hb2⟩ := hb
  have hcv : ∀ w : World, (convert 69 9 (.slice (some ⟨w.heap.size, 0, none⟩) 2 2)).run Tryz.prog (w.alloc (.cells #[.int .u8 (48 + n / 10 % 10), .int .u8 (48 + n % 10)] 5)) = .ok (.string ⟨(dg n 2).toArray⟩) (w.alloc (.cells #[.int .u8 (48 + n / 10 % 10), .int .u8 (48 + n % 10)] 5)) := by
    intro w
    have ho := owns_new (w := w) (B := 0) (e := 5) (dg n 2) (Nat.zero_le _) (by rw [dg_len]; omega)
    rw [dg_len] at ho
    have e1 : (dg n 2).map byteV = [.int .u8 (48 + n / 10 % 10), .int .u8 (48 + n % 10)] := by
      simp only [dg, List.nil_append, List.cons_append, List.map_cons, List.map_nil]
      rw [dgb _ (by omega), dgb _ h0]
    rw [e1] at ho
    exact run_convert_owned (dg n 2) (by rw [e1]; exact ho) Tryz.underlying69 Tryz.underlying5 Tryz.underlying9
  go_enter Tryz.func90, Tryz.ntmps90
  go_wp2
  go_ret
  exact ⟨rfl, (Below.refl _ _).alloc (Nat.le_refl _) _⟩

theorem dg_two (n : Int) : dg n 4 = dg (n / 100) 2 ++ dg n 2 := by
  simp only [dg, List.nil_append, List.append_assoc]
  have e1 : n / 10 / 10 = n / 100 := by omega
  rw [e1]
theorem dg_mod (n : Int) (h : 0 ≤ n) : dg (n % 100) 2 = dg n 2 := by
  simp only [dg, List.nil_append]
  have e1 : n % 100 / 10 % 10 = n / 10 % 10 := by omega
  have e2 : n % 100 % 10 = n % 10 := by omega
  rw [e1, e2]
/-- a date in one of three forms -/
def writtenL (y m d form : Int) : List UInt8 :=
  if form = 0 then dg y 4 ++ [45] ++ dg m 2 ++ [45] ++ dg d 2 else if form = 1 then dg d 2 ++ [46] ++ dg m 2 ++ [46] ++ dg y 4 else dg m 2 ++ [47] ++ dg d 2 ++ [47] ++ dg y 4
set_option maxHeartbeats 400000 in
theorem mod_any (x n : Int) (w : World) (hx : 0 ≤ x) (hx2 : x ≤ 1000000000000) (hn : 1 ≤ n) (hn2 : n ≤ 1000000000) :
    Calls Tryz.prog 32 #[.int .i64 x, .int .i64 n] w fun e w' => e = .returned (.int .i64 (x % n)) ∧ w = w' := by
  have h1 : 0 ≤ x % n := Int.emod_nonneg _ (by omega)
  have h2 : x % n < n := Int.emod_lt_of_pos _ (by omega)
  have h3 : 0 ≤ x % n + n := by omega
  have H4 := Lib.hid (show (x % n + n) % n = x % n by rw [Int.add_emod_right]; exact Int.emod_eq_of_lt h1 h2)
  go_enter Tryz.func32, Tryz.ntmps32
  go_wp2
  go_ret
  exact ⟨ret_int (by have := H4.out; simp [this]), rfl⟩
set_option maxHeartbeats 1000000 in
theorem written_any (y m d form : Int) (w : World) (hb : 1800 ≤ y ∧ y ≤ 2199 ∧ 0 ≤ m ∧ m ≤ 13 ∧ 1 ≤ d ∧ d ≤ 32) (hf : 0 ≤ form ∧ form ≤ 2) :
    Calls Tryz.prog 52 #[.agg #[.int .i64 y, .int .i64 m, .int .i64 d], .int .i64 form] w fun e w' => e = .returned (.string ⟨(writtenL y m d form).toArray⟩) ∧ Below w.heap.size w w' := by
  obtain ⟨b1, b2, b3, b4, b5, b6⟩ := hb
  obtain ⟨f1, f2⟩ := hf
  have q1 : 0 ≤ y / 100 ∧ y / 100 ≤ 99 := by omega
  have q2 : 0 ≤ y % 100 ∧ y % 100 ≤ 99 := by omega
  obtain ⟨q1, q1'⟩ := q1
  obtain ⟨q2, q2'⟩ := q2
  have HM := fun w => Lib.hid (mod_any form 3 w f1 (by omega) (by omega) (by omega))
  rw [show form % 3 = form by omega] at HM
  go_enter Tryz.func52, Tryz.ntmps52
  go_wp2_with fail
  have m99 : m ≤ 99 := by omega
  have d99 : d ≤ 99 := by omega
  have d0 : 0 ≤ d := by omega
  have e1 : IntKind.i64.wrap (y.tdiv 100) = y / 100 := by rw [Int.tdiv_eq_ediv_of_nonneg (by omega)]; exact IntWalk.i64_in _ ⟨by omega, by omega⟩
  have e2 : y.tmod 100 = y % 100 := Int.tmod_eq_emod_of_nonneg (by omega)
  refine wp_region_noPanic ?_
  refine wp_region_held_drew (S := (fun w' => w'.cell? ⟨w.heap.size, 0, none⟩ = some (.int .i64 y) ∧ w'.cell? ⟨w.heap.size, 1, none⟩ = some (.int .i64 m) ∧ w'.cell? ⟨w.heap.size, 2, none⟩ = some (.int .i64 d))) (by kernel_rfl) (⟨by simp, by simp, by simp⟩) (fun hHeld => ?_)
  refine tH 0 (h := ?_)
  try simp only [List.getElem_toArray, List.getElem_cons_zero, List.getElem_cons_succ, Act.put, List.setIfInBounds_toArray, List.set_cons_zero, List.set_cons_succ]
  refine tH 1 (h := ?_)
  try simp only [List.getElem_toArray, List.getElem_cons_zero, List.getElem_cons_succ, Act.put, List.setIfInBounds_toArray, List.set_cons_zero, List.set_cons_succ]
  refine tH 2 (h := ?_)
  try simp only [List.getElem_toArray, List.getElem_cons_zero, List.getElem_cons_succ, Act.put, List.setIfInBounds_toArray, List.set_cons_zero, List.set_cons_succ]
  refine tH 4 (h := ?_)
  try simp only [List.getElem_toArray, List.getElem_cons_zero, List.getElem_cons_succ, Act.put, List.setIfInBounds_toArray, List.set_cons_zero, List.set_cons_succ]
  refine tH 5 (h := ?_)
  try simp only [List.getElem_toArray, List.getElem_cons_zero, List.getElem_cons_succ, Act.put, List.setIfInBounds_toArray, List.set_cons_zero, List.set_cons_succ]
  refine tH 6 (h := ?_)
  try simp only [List.getElem_toArray, List.getElem_cons_zero, List.getElem_cons_succ, Act.put, List.setIfInBounds_toArray, List.set_cons_zero, List.set_cons_succ]
  refine tH 9 (h := ?_)
  try simp only [List.getElem_toArray, List.getElem_cons_zero, List.getElem_cons_succ, Act.put, List.setIfInBounds_toArray, List.set_cons_zero, List.set_cons_succ]
  refine tH 10 (h := ?_)
  try simp only [List.getElem_toArray, List.getElem_cons_zero, List.getElem_cons_succ, Act.put, List.setIfInBounds_toArray, List.set_cons_zero, List.set_cons_succ]
  refine tH 12 (h := ?_)
  try simp only [List.getElem_toArray, List.getElem_cons_zero, List.getElem_cons_succ, Act.put, List.setIfInBounds_toArray, List.set_cons_zero, List.set_cons_succ]
  refine tH 13 (h := ?_)
  try simp only [List.getElem_toArray, List.getElem_cons_zero, List.getElem_cons_succ, Act.put, List.setIfInBounds_toArray, List.set_cons_zero, List.set_cons_succ]
  refine wpAnyH_ready (rs := [3]) (by kernel_rfl) (by simp) ?_
  refine AllReadyH.cons rfl (fun K hK => ?_) AllReadyH.nil
  go_simp
  refine (two_any _ _ q1 q1').mono ?_; rintro e w1 ⟨rfl, hb1⟩; have z1 : w.heap.size < w1.heap.size := (by clear e1 e2; have := hb1.size; simp at this; omega); have HB1 := Lib.hid ((((Below.refl _ _).alloc (Nat.le_refl _) _).drew).trans (hb1.mono (by simp))); have c01 : w1.cell? ⟨w.heap.size, 0, none⟩ = some (.int .i64 y) := (hb1.cell (p := ⟨w.heap.size, 0, none⟩) (by simp)).trans (by simp); have c11 : w1.cell? ⟨w.heap.size, 1, none⟩ = some (.int .i64 m) := (hb1.cell (p := ⟨w.heap.size, 1, none⟩) (by simp)).trans (by simp); have c21 : w1.cell? ⟨w.heap.size, 2, none⟩ = some (.int .i64 d) := (hb1.cell (p := ⟨w.heap.size, 2, none⟩) (by simp)).trans (by simp); clear hb1
  refine hK.out _ _ (⟨c01, c11, c21⟩) (fun hHeld => ?_)
  clear hK K
  try simp only [List.getElem_toArray, List.getElem_cons_zero, List.getElem_cons_succ, Act.put, List.setIfInBounds_toArray, List.set_cons_zero, List.set_cons_succ]
  refine wpAnyH_ready (rs := [7]) (by kernel_rfl) (by simp) ?_
  refine AllReadyH.cons rfl (fun K hK => ?_) AllReadyH.nil
  go_simp
  refine (two_any _ _ q2 q2').mono ?_; rintro e w2 ⟨rfl, hb2⟩; have z2 : w.heap.size < w2.heap.size := (by clear e1 e2; have := hb2.size; omega); have HB2 := Lib.hid (HB1.out.trans (hb2.mono HB1.out.size)); have c02 := (hb2.cell (p := ⟨w.heap.size, 0, none⟩) z1).trans c01; have c12 := (hb2.cell (p := ⟨w.heap.size, 1, none⟩) z1).trans c11; have c22 := (hb2.cell (p := ⟨w.heap.size, 2, none⟩) z1).trans c21; clear hb2 c01 c11 c21
  refine hK.out _ _ (⟨c02, c12, c22⟩) (fun hHeld => ?_)
  clear hK K
  try simp only [List.getElem_toArray, List.getElem_cons_zero, List.getElem_cons_succ, Act.put, List.setIfInBounds_toArray, List.set_cons_zero, List.set_cons_succ]
  refine tH 8 (h := ?_)
  try simp only [List.getElem_toArray, List.getElem_cons_zero, List.getElem_cons_succ, Act.put, List.setIfInBounds_toArray, List.set_cons_zero, List.set_cons_succ]
  refine wpAnyH_ready (rs := [11]) (by kernel_rfl) (by simp) ?_
  refine AllReadyH.cons rfl (fun K hK => ?_) AllReadyH.nil
  go_simp
  refine (two_any _ _ b3 m99).mono ?_; rintro e w3 ⟨rfl, hb3⟩; have z3 : w.heap.size < w3.heap.size := (by clear e1 e2; have := hb3.size; omega); have HB3 := Lib.hid (HB2.out.trans (hb3.mono HB2.out.size)); have c03 := (hb3.cell (p := ⟨w.heap.size, 0, none⟩) z2).trans c02; have c13 := (hb3.cell (p := ⟨w.heap.size, 1, none⟩) z2).trans c12; have c23 := (hb3.cell (p := ⟨w.heap.size, 2, none⟩) z2).trans c22; clear hb3 c02 c12 c22
  refine hK.out _ _ (⟨c03, c13, c23⟩) (fun hHeld => ?_)
  clear hK K
  try simp only [List.getElem_toArray, List.getElem_cons_zero, List.getElem_cons_succ, Act.put, List.setIfInBounds_toArray, List.set_cons_zero, List.set_cons_succ]
  refine wpAnyH_ready (rs := [14]) (by kernel_rfl) (by simp) ?_
  refine AllReadyH.cons rfl (fun K hK => ?_) AllReadyH.nil
  go_simp
  refine (two_any _ _ d0 d99).mono ?_; rintro e w4 ⟨rfl, hb4⟩; have z4 : w.heap.size < w4.heap.size := (by clear e1 e2; have := hb4.size; omega); have HB4 := Lib.hid (HB3.out.trans (hb4.mono HB3.out.size)); have c04 := (hb4.cell (p := ⟨w.heap.size, 0, none⟩) z3).trans c03; have c14 := (hb4.cell (p := ⟨w.heap.size, 1, none⟩) z3).trans c13; have c24 := (hb4.cell (p := ⟨w.heap.size, 2, none⟩) z3).trans c23; clear hb4 c03 c13 c23
  refine hK.out _ _ (⟨c04, c14, c24⟩) (fun hHeld => ?_)
  clear hK K
  try simp only [List.getElem_toArray, List.getElem_cons_zero, List.getElem_cons_succ, Act.put, List.setIfInBounds_toArray, List.set_cons_zero, List.set_cons_succ]
  refine tH 15 (h := ?_)
  try simp only [List.getElem_toArray, List.getElem_cons_zero, List.getElem_cons_succ, Act.put, List.setIfInBounds_toArray, List.set_cons_zero, List.set_cons_succ]
  refine tH 16 (h := ?_)
  try simp only [List.getElem_toArray, List.getElem_cons_zero, List.getElem_cons_succ, Act.put, List.setIfInBounds_toArray, List.set_cons_zero, List.set_cons_succ]
  refine tH 17 (h := ?_)
  try simp only [List.getElem_toArray, List.getElem_cons_zero, List.getElem_cons_succ, Act.put, List.setIfInBounds_toArray, List.set_cons_zero, List.set_cons_succ]
  refine wpAnyH_done (by kernel_rfl) ?_ _
  refine NoPanic.normal ?_
  clear e1 e2
  go_wp2_with fail
  refine (HM _).out.mono ?_; rintro e w' ⟨rfl, rfl⟩
  go_wp2_with fail
  all_goals
    go_ret
    refine ⟨ret_str ?_, HB4.out⟩
    simp only [beq_iff_eq, beq_eq_false_iff_ne, ne_eq] at *
    simp [writtenL, dg_two y, dg_mod y (by omega), *]
end
section
set_option maxRecDepth 100000
open Go.RowKit Cal
attribute [local go_sem] toList_mk mk_size
abbrev fnV (g : Nat) : Value := .func (.func g) #[] #[]
def kind0 : Array Value := #[.string ⟨#[]⟩, .nilFunc, .nilFunc, .nilFunc]
def kind1 : Array Value := #[.string ⟨#[110, 97, 109, 101]⟩, fnV 165, fnV 166, fnV 167]
def kind2 : Array Value := #[.string ⟨#[100, 97, 116, 101]⟩, fnV 168, fnV 169, fnV 171]
def kind3 : Array Value := #[.string ⟨#[99, 111, 100, 101]⟩, fnV 172, fnV 174, fnV 176]
def kind4 : Array Value := #[.string ⟨#[97, 100, 100, 114, 101, 115, 115]⟩, fnV 177, fnV 178, fnV 167]
def kindsV : Array Value := kind0 ++ kind1 ++ kind2 ++ kind3 ++ kind4
set_option maxHeartbeats 1000000 in
theorem kinds_any (w : World) :
    Calls Tryz.prog 124 #[] w fun e w' => e = .returned (.agg kindsV) ∧ Below w.heap.size w w' := by
  go_enter Tryz.func124, Tryz.ntmps124
  go_upto_region 1 with (fail)
  rename_i hK
  refine wp_region_list ?_
  refine wpList_buildTo rfl 124 _ rfl (some 1) rfl kind1 (by kernel_rfl) ?_
  refine wpList_buildTo rfl 124 _ rfl (some 2) rfl kind2 (by kernel_rfl) ?_
  refine wpList_buildTo rfl 124 _ rfl (some 3) rfl kind3 (by kernel_rfl) ?_
  refine wpList_buildTo rfl 124 _ rfl (some 4) rfl kind4 (by kernel_rfl) ?_
  refine wpList_buildTo rfl 147 _ rfl (some 5) rfl kindsV (by kernel_rfl) ?_
  refine wpList_store_row rfl 147 _ _ rfl w.heap.size kindsV rfl rfl 147 _ (heap_alloc_new w _) (by kernel_rfl) (by kernel_rfl) (by kernel_rfl) ?_
  refine wpList_nil ?_
  rw [World.setRow_alloc_new]
  refine hK _ _ ?_
  go_wp2_with fail
  exact bodyPost_row1 rfl rfl (heap_alloc_new w _) Tryz.underlying147 rfl (by kernel_rfl) ⟨rfl, (Below.refl _ _).alloc (Nat.le_refl _) _⟩
def wordB (l : List UInt8) : Bool := bif l.isEmpty then false else bif decide (l.length ≤ 12) then lettersL l == l else false
set_option maxHeartbeats 400000 in
theorem word_is (l : List UInt8) (w : World) :
    Calls Tryz.prog 74 #[strV l] w fun e w' => e = .returned (.bool (wordB l)) ∧ Below w.heap.size w w' := by
  unfold wordB
  by_cases h0 : l = []
  · subst h0
    go_enter Tryz.func74, Tryz.ntmps74
    go_wp2
    go_ret
    exact ⟨rfl, Below.refl _ _⟩
  · have h1 : l.isEmpty = false := by simpa using h0
    have h2 : (l == []) = false := by simpa using h0
    rw [h1]
    by_cases h3 : l.length ≤ 12
    · have h4 : decide (l.length ≤ 12) = true := by simpa using h3
      have h5 : decide ((l.length : Int) ≤ 12) = true := by simp; omega
      rw [h4]
      clear h0 h4
      go_enter Tryz.func74, Tryz.ntmps74
      go_wp2_with fail
      refine (letters_any ⟨l.toArray⟩ _ (by rw [mk_size]; omega)).mono ?_
      rintro e w1 ⟨rfl, hb⟩
      go_wp2_with fail
      go_ret
      exact ⟨rfl, hb⟩
    · have h4 : decide (l.length ≤ 12) = false := by simpa using h3
      have h5 : decide ((l.length : Int) ≤ 12) = false := by simp; omega
      rw [h4]
      clear h0 h4
      go_enter Tryz.func74, Tryz.ntmps74
      go_wp2_with fail
      go_ret
      exact ⟨rfl, Below.refl _ _⟩
end
section
set_option maxRecDepth 100000
open Go.RowKit Cal
attribute [local go_sem] toList_mk mk_size
def dayF (y m d : List UInt8) : List UInt8 × Int := bif vldB (numI y) (numI m) (numI d) then (digits8 (numI y) (numI m) (numI d), 0) else ([], 4)
def byteL (l : List UInt8) (i : Nat) : Int := ((l.getD i 0).toNat : Int)
/-- the eight digits of a day that is written in one of three forms, and the error -/
def dayN (l : List UInt8) : List UInt8 × Int :=
  if l.length = 10 then
    if byteL l 4 = 45 ∧ byteL l 7 = 45 then dayF (l.take 4) ((l.drop 5).take 2) ((l.drop 8).take 2)
    else if byteL l 2 = 46 ∧ byteL l 5 = 46 then dayF ((l.drop 6).take 4) ((l.drop 3).take 2) (l.take 2)
    else if byteL l 2 = 47 ∧ byteL l 5 = 47 then dayF ((l.drop 6).take 4) (l.take 2) ((l.drop 3).take 2)
    else ([], 4)
  else ([], 4)
def DayIs (x : Value) (p : List UInt8 × Int) : Prop := (∃ a b c : Int, vldB a b c = true ∧ x = .tuple #[.agg #[.int .i64 a, .int .i64 b, .int .i64 c], .int .i64 0] ∧ p = (digits8 a b c, 0)) ∨ (x = .tuple #[.agg #[.int .i64 0, .int .i64 0, .int .i64 0], .int .i64 4] ∧ p = ([], 4))
theorem dateL_is (y m d : List UInt8) : DayIs (dateL y m d) (dayF y m d) := by
  unfold dateL dateR dayF
  cases h : vldB (numI y) (numI m) (numI d)
  · exact .inr ⟨rfl, rfl⟩
  · exact .inl ⟨_, _, _, h, rfl, rfl⟩
theorem parse_is (s : ByteArray) : DayIs (parseV s) (dayN s.data.toList) := by
  have hl : s.data.toList.length = s.size := by simp
  unfold parseV dayN
  rw [hl]
  show DayIs _ (if s.size = 10 then if byteAt s 4 = 45 ∧ byteAt s 7 = 45 then _ else if byteAt s 2 = 46 ∧ byteAt s 5 = 46 then _ else if byteAt s 2 = 47 ∧ byteAt s 5 = 47 then _ else _ else _)
  split
  · split
    · exact dateL_is _ _ _
    · split
      · exact dateL_is _ _ _
      · split
        · exact dateL_is _ _ _
        · exact .inr ⟨rfl, rfl⟩
  · exact .inr ⟨rfl, rfl⟩
set_option maxHeartbeats 1000000 in
theorem day_any (vt vn vs : Value) (s : ByteArray) (w : World) :
    Calls Tryz.prog 168 #[.agg #[vt, vn, vs], .string s] w fun e w' => e = .returned (pairV (dayN s.data.toList)) ∧ Below w.heap.size w w' := by
  rcases parse_is s with ⟨a, b, c, hv, hp, hd⟩ | ⟨hp, hd⟩
  · rw [hd]
    have HV := Lib.hid hv
    have HP := Lib.hid hp
    clear hd hp hv
    go_enter Tryz.func168, Tryz.ntmps168
    go_wp2_with fail
    refine (parse_any s _).mono ?_
    rw [HP.out]
    rintro e w1 ⟨rfl, hb1⟩
    have HB1 := Lib.hid (((Below.refl w.heap.size w).alloc (Nat.le_refl _) _).trans (hb1.mono (by simp)))
    clear hb1
    go_wp2_with fail
    refine (format_yes a b c _ HV.out).mono ?_
    rintro e w2 ⟨rfl, hb2⟩
    have HB2 := Lib.hid ((HB1.out.alloc HB1.out.size (.cells #[.int .i64 a, .int .i64 b, .int .i64 c] 91)).trans (hb2.mono (by have := HB1.out.size; simp; omega)))
    clear hb2
    go_wp2_with fail
    go_ret2
    exact ⟨rfl, HB2.out⟩
  · rw [hd]
    have HP := Lib.hid hp
    clear hd hp
    go_enter Tryz.func168, Tryz.ntmps168
    go_wp2_with fail
    refine (parse_any s _).mono ?_
    rw [HP.out]
    rintro e w1 ⟨rfl, hb1⟩
    have HB1 := Lib.hid (((Below.refl w.heap.size w).alloc (Nat.le_refl _) _).trans (hb1.mono (by simp)))
    clear hb1
    go_wp2_with fail
    go_ret2
    exact ⟨rfl, HB1.out.alloc HB1.out.size _⟩
/-- eight digits of a day that exists -/
def readB (l : List UInt8) : Bool := bif decide (l.length = 8) then vldB (numI (l.take 4)) (numI ((l.drop 4).take 2)) (numI ((l.drop 6).take 2)) else false
theorem read_is (s : ByteArray) : ∃ a b c : Int, (bif decide (s.size = 8) then dateL (s.data.toList.take 4) ((s.data.toList.drop 4).take 2) ((s.data.toList.drop 6).take 2) else dateV false 0 0 0 4) = .tuple #[.agg #[.int .i64 a, .int .i64 b, .int .i64 c], .int .i64 (cd (readB s.data.toList) 4)] := by
  have hl : s.data.toList.length = s.size := by simp
  unfold readB
  rw [hl]
  cases decide (s.size = 8)
  · exact ⟨0, 0, 0, rfl⟩
  · exact ⟨_, _, _, rfl⟩
set_option maxHeartbeats 1000000 in
theorem kind1_any (vt vn vs : Value) (s : ByteArray) (w : World) :
    Calls Tryz.prog 169 #[.agg #[vt, vn, vs], .string s] w fun e w' => e = .returned (.bool (readB s.data.toList)) ∧ Below w.heap.size w w' := by
  obtain ⟨a, b, c, hr⟩ := read_is s
  have HR := Lib.hid hr; clear hr
  go_enter Tryz.func169, Tryz.ntmps169
  go_wp2_with fail
  refine (read_any s _).mono ?_
  rw [HR.out]
  obtain ⟨v, hv⟩ : ∃ v, readB s.data.toList = v := ⟨_, rfl⟩
  rw [hv]
  have HV := Lib.hid hv; clear hv HR
  rintro e w1 ⟨rfl, hb1⟩
  have HB1 := Lib.hid (((Below.refl w.heap.size w).alloc (Nat.le_refl _) _).trans (hb1.mono (by simp)))
  clear hb1
  cases v
  all_goals
    simp only [cd_false, cd_true]
    go_wp2_with fail
    go_ret
    exact ⟨ret_bool (by rw [HV.out]; try rfl), HB1.out.alloc HB1.out.size _⟩
set_option maxHeartbeats 1000000 in
theorem kind2_any (vt vn vs : Value) (s : ByteArray) (w : World) (hs : s.size ≤ 9223372036854775000) :
    Calls Tryz.prog 172 #[.agg #[vt, vn, vs], .string s] w fun e w' => e = .returned (pairV (codeN s.data.toList)) ∧ Below w.heap.size w w' := by
  go_enter Tryz.func172, Tryz.ntmps172
  go_wp2_with fail
  refine (code_any s _ hs).mono ?_
  unfold pairV
  rintro e w1 ⟨rfl, hb1⟩
  have HB1 := Lib.hid (((Below.refl w.heap.size w).alloc (Nat.le_refl _) _).trans (hb1.mono (by simp)))
  clear hb1
  go_wp2_with fail
  go_ret2
  exact ⟨rfl, HB1.out⟩
set_option maxHeartbeats 1000000 in
theorem kind3_any (vt vn vs : Value) (s : ByteArray) (w : World) (hs : s.size ≤ 9223372036854775000) :
    Calls Tryz.prog 174 #[.agg #[vt, vn, vs], .string s] w fun e w' => e = .returned (.bool (isOwn (codeN s.data.toList) s.data.toList)) ∧ Below w.heap.size w w' := by
  go_enter Tryz.func174, Tryz.ntmps174
  go_wp2_with fail
  refine (normed_any s _ hs).mono ?_
  rintro e w1 ⟨rfl, hb1⟩
  have HB1 := Lib.hid (((Below.refl w.heap.size w).alloc (Nat.le_refl _) _).trans (hb1.mono (by simp)))
  clear hb1
  go_wp2_with fail
  go_ret
  exact ⟨rfl, HB1.out⟩
end
section
set_option maxRecDepth 100000
open Go.RowKit Cal
attribute [local go_sem] toList_mk mk_size
abbrev F2 := List UInt8 × Int
def encF (x : F2) : List Value := [strV x.1, .int .i64 x.2]
structure SchemaL where
  fields : List F2
  rules : RulesL
def SchemaAt (w : World) (S : Nat → Prop) (vf vt vn vs : Value) (s : SchemaL) : Prop := Vec w S 2 encF vf s.fields ∧ RulesAt w S vt vn vs s.rules
theorem SchemaAt.below {w w' : World} {S : Nat → Prop} {vf vt vn vs : Value} {s : SchemaL} (h : SchemaAt w S vf vt vn vs s) (hb : Below w.heap.size w w') : SchemaAt w' S vf vt vn vs s := ⟨h.1.below hb, h.2.below hb⟩
theorem SchemaAt.any {w : World} {S : Nat → Prop} {vf vt vn vs : Value} {s : SchemaL} (h : SchemaAt w S vf vt vn vs s) : SchemaAt w Any1 vf vt vn vs s := ⟨h.1.any, h.2.any⟩
theorem Vec.take {α : Type} {w : World} {S : Nat → Prop} {k : Nat} {enc : α → List Value} {a : Option Addr} {n cap : Nat} {L : List α} (h : Vec w S k enc (.slice a n cap) L) (i : Nat) (hi : i ≤ L.length) : Vec w S k enc (.slice a i cap) (L.take i) := by
  obtain ⟨a', cap', h1, h2, h3⟩ := h
  cases h1
  refine ⟨a, cap, by rw [List.length_take, Nat.min_eq_left hi], by rw [List.length_take]; omega, fun h0 => ?_⟩
  rw [List.length_take] at h0
  obtain ⟨b, off, h4, h5, h5', h6⟩ := h3 (by omega)
  refine ⟨b, off, h4, h5, h5', fun j x hj => h6 j x ?_⟩
  rw [List.getElem?_take] at hj
  split at hj
  · exact hj
  · cases hj
theorem cells4 {w : World} {b : Nat} {x y z u : Value} {t : TypeId} {fr : Nat × Nat} (h : w.heap[b]? = some (.cells #[x, y, z, u] t fr)) :
    w.cell? ⟨b, 0, none⟩ = some x ∧ w.cell? ⟨b, 1, none⟩ = some y ∧ w.cell? ⟨b, 2, none⟩ = some z ∧ w.cell? ⟨b, 3, none⟩ = some u := by
  refine ⟨?_, ?_, ?_, ?_⟩ <;> (rw [cell_of_row _ _ _ _ _ _ h]; rfl)
theorem pred_field (nm : List UInt8) (B : Nat) (w : World) (hB : B < w.heap.size) (hcell : w.cell? ⟨B, 0, none⟩ = some (strV nm)) :
    PredBelow Tryz.prog 73 #[.pointer (some ⟨B, 0, none⟩)] (fun x => .agg (encF x).toArray) (fun x => x.1 == nm) w := fun W x hb => by
  have hc : W.cell? ⟨B, 0, none⟩ = some (strV nm) := (hb.cell (p := ⟨B, 0, none⟩) hB).trans hcell
  have hBW : B < W.heap.size := Nat.lt_of_lt_of_le hB hb.size
  have hne : B ≠ W.heap.size := by omega
  have HBb := Lib.hid hb; clear hb hcell
  obtain ⟨xn, xk⟩ := x
  show Calls Tryz.prog 73 #[.agg #[strV xn, .int .i64 xk], .pointer (some ⟨B, 0, none⟩)] W _
  go_enter Tryz.func73, Tryz.ntmps73
  go_wp2
  go_ret
  exact ⟨rfl, HBb.out.alloc HBb.out.size _⟩
set_option maxHeartbeats 400000 in
theorem idxF_nil (a : Option Addr) (c : Nat) (f : Value) (w : World) :
    Calls Tryz.prog 106 #[.slice a 0 c, f] w fun e w' => e = .returned (.int .i64 (-1)) ∧ w = w' := by
  go_enter Tryz.func106, Tryz.ntmps106
  go_wp2
  refine wp_loop_rounds 1 ?_; rw [rounds_succ]
  go_wp2
  go_ret
  exact ⟨rfl, rfl⟩
set_option maxHeartbeats 400000 in
theorem contF_nil (a : Option Addr) (c : Nat) (f : Value) (w : World) :
    Calls Tryz.prog 72 #[.slice a 0 c, f] w fun e w' => e = .returned (.bool false) ∧ w = w' := by
  go_enter Tryz.func72, Tryz.ntmps72
  go_wp2_with fail
  refine (idxF_nil a c _ _).mono ?_
  rintro e w1 ⟨rfl, rfl⟩
  go_wp2_with fail
  go_ret
  exact ⟨rfl, rfl⟩
theorem contF_any (p : F2 → Bool) (g : Nat) (lb : Array Value) (eg : ∀ args w, (callFunc g args).run Tryz.prog w = .ok (.enter g args) w) (S : Nat → Prop) (v : Value) (L : List F2) (w : World) (h : Vec w S 2 encF v L) (hn : L.length ≤ 1000000) (hp : PredBelow Tryz.prog g lb (fun x => .agg (encF x).toArray) p w) :
    Calls Tryz.prog 72 #[v, .func (.func g) #[] lb] w fun e w' => e = .returned (.bool (L.any p)) ∧ Below w.heap.size w w' := by
  obtain ⟨a, cap, rfl, hcap, h0⟩ := h
  by_cases hz : L = []
  · subst hz
    exact (contF_nil a cap _ w).mono fun e w' ⟨he, hw⟩ => ⟨he, by rw [← hw]; exact Below.refl _ _⟩
  · obtain ⟨b, off, rfl, _, hb, hc⟩ := h0 (List.length_pos_iff.2 hz)
    have hcon := AnyQ.slices_ContainsFunc Tryz.laysCF 2 Tryz.isAgg62 Tryz.sizeOf62 encF (fun _ => rfl) p g lb eg b off L.length cap L w hp (Nat.le_refl _) (by omega) hb (fun j hj i u hi => by
        have e : L[j]? = some L[j]! := by rw [List.getElem?_eq_getElem hj, getElem!_pos L j hj]
        exact hc j _ e i u hi)
    rw [List.take_of_length_le (Nat.le_refl _)] at hcon
    exact hcon
def fieldAtB (F : List F2) (j : Nat) : Bool := wordB (F.getD j default).1 && !((F.take j).any fun x => x.1 == (F.getD j default).1) && decide (1 ≤ (F.getD j default).2) && decide ((F.getD j default).2 ≤ 4)
def fieldsB (F : List F2) : Bool := (List.range F.length).all (fieldAtB F)
def checkS (s : SchemaL) : Int := if s.fields.length < 1 ∨ 5 < s.fields.length then 6 else if fieldsB s.fields = true then checkR s.rules else 6
set_option maxHeartbeats 4000000 in
theorem scheck_any (S : Nat → Prop) (vf vt vn vs : Value) (s : SchemaL) (w : World) (h : SchemaAt w S vf vt vn vs s) :
    Calls Tryz.prog 41 #[.agg #[vf, vt, vn, vs]] w fun e w' => e = .returned (.int .i64 (checkS s)) ∧ Below w.heap.size w w' := by
  obtain ⟨F, r⟩ := s
  obtain ⟨h1, h2⟩ := h
  dsimp only at h1 h2
  obtain ⟨af, cf, rfl⟩ := h1.slice
  have H1 := Lib.hid h1.any; have H2 := Lib.hid h2.any
  clear h1 h2
  have hfin : ∀ n : Int, checkS ⟨F, r⟩ = n → Ending.returned (.int .i64 n) = .returned (.int .i64 (checkS ⟨F, r⟩)) := fun n h => by rw [h]
  have HF := Lib.hid hfin; clear hfin
  by_cases g1 : F.length < 1
  · have d1 : decide ((F.length : Int) < 1) = true := by simp; omega
    go_enter Tryz.func41, Tryz.ntmps41
    go_wp2_with fail
    go_ret
    exact ⟨HF.out 6 (by unfold checkS; rw [if_pos (.inl g1)]), (Below.refl _ _).alloc (Nat.le_refl _) _⟩
  · have d1 : decide ((F.length : Int) < 1) = false := by simp; omega
    by_cases g2 : 5 < F.length
    · have d2 : decide ((5 : Int) < F.length) = true := by simp; omega
      go_enter Tryz.func41, Tryz.ntmps41
      go_wp2_with fail
      go_ret
      exact ⟨HF.out 6 (by unfold checkS; rw [if_pos (.inr g2)]), (Below.refl _ _).alloc (Nat.le_refl _) _⟩
    · have d2 : decide ((5 : Int) < F.length) = false := by simp; omega
      have HN := Lib.hid (show ¬ (F.length < 1 ∨ 5 < F.length) by omega)
      obtain ⟨b, off, rfl, _, hb, hc⟩ := vec_cell2 H1.out (by omega)
      have HC := Lib.hid hc; clear hc
      go_enter Tryz.func41, Tryz.ntmps41
      go_wp2_with fail
      clear d1 d2
      go_loopw [19] (fun i wr => ∃ k : Nat, k ≤ F.length ∧ i = .int .i64 k ∧ wr.heap[w.heap.size]? = some (.cells #[.slice (some ⟨b, off, none⟩) F.length cf, vt, vn, vs] 33 (0, 0)) ∧ Below w.heap.size w wr ∧ ∀ j, j < k → fieldAtB F j = true) (fun i _ => F.length - (intOf i).toNat)
      case atStart => exact ⟨0, by omega, rfl, blk_new rfl, (Below.refl _ _).alloc (Nat.le_refl _) _, fun j hj => by omega⟩
      case round =>
        obtain ⟨k, hk, rfl, hX, hbw, ha⟩ := hrel
        have HA := Lib.hid ha; clear ha
        obtain ⟨p0, p1, p2, p3⟩ := cells4 hX
        have zX := lt_of_blk hX
        have HX := Lib.hid hX; clear hX
        have HW := Lib.hid hbw
        by_cases hlt : k < F.length
        · have hq : decide ((k : Int) < F.length) = true := by simp; omega
          have hi : (k : Int) < (F.length : Int) := by omega
          have hcap := H1.out.len.2
          obtain ⟨x, hx⟩ : ∃ x, F.getD k default = x := ⟨_, rfl⟩
          have hc := HC.out k hlt
          rw [hx] at hc
          have c0 : wr.cell? ⟨b, off + k * 2, none⟩ = some (strV x.1) := (hbw.cell (p := ⟨b, off + k * 2, none⟩) hb).trans (hc 0 _ rfl)
          have c1 : wr.cell? ⟨b, off + k * 2 + 1, none⟩ = some (.int .i64 x.2) := (hbw.cell (p := ⟨b, off + k * 2 + 1, none⟩) hb).trans (hc 1 _ rfl)
          have hfa : fieldAtB F k = (wordB x.1 && !((F.take k).any fun y => y.1 == x.1) && decide (1 ≤ x.2) && decide (x.2 ≤ 4)) := by simp only [fieldAtB]; rw [hx]
          have HFa := Lib.hid hfa
          obtain ⟨nm, kd⟩ := x
          dsimp only at c0 c1 HFa
          clear hx hc hbw hfa
          go_wp2_with fail
          have eg : ∀ args w, (callFunc 73 args).run Tryz.prog w = .ok (.enter 73 args) w := enters_of Tryz.func73 (by kernel_rfl) rfl
          refine (contF_any (fun y => y.1 == nm) 73 #[.pointer (some ⟨wr.heap.size, 0, none⟩)] eg Any1 _ (F.take k) _ ((H1.out.take k (by omega)).below (HW.out.alloc HW.out.size _)) (by have := List.length_take_le k F; omega) (pred_field nm wr.heap.size _ (by simp) (by simp))).mono ?_
          obtain ⟨u, hu⟩ : ∃ u, (F.take k).any (fun y => y.1 == nm) = u := ⟨_, rfl⟩
          rw [hu] at HFa ⊢
          clear eg hu
          rintro e w2 ⟨rfl, hb2⟩
          have hX2 : w2.heap[w.heap.size]? = some (.cells #[.slice (some ⟨b, off, none⟩) F.length cf, vt, vn, vs] 33 (0, 0)) := blk_below hb2 (by simp; omega) (blk_old HX.out)
          have hY2 : w2.heap[wr.heap.size]? = some (.cells #[strV nm, .int .i64 kd] 62 (0, 0)) := blk_below hb2 (by simp) (blk_new rfl)
          have HW2 := Lib.hid ((HW.out.alloc HW.out.size (.cells #[strV nm, .int .i64 kd] 62)).trans (hb2.mono (by have := HW.out.size; simp; omega)))
          have q0 : w2.cell? ⟨wr.heap.size, 0, none⟩ = some (strV nm) := by rw [cell_of_row _ _ _ _ _ _ hY2]; rfl
          have q1 : w2.cell? ⟨wr.heap.size, 1, none⟩ = some (.int .i64 kd) := by rw [cell_of_row _ _ _ _ _ _ hY2]; rfl
          have zX2 := lt_of_blk hX2; have zY2 := lt_of_blk hY2
          have HX2 := Lib.hid hX2; have HY2 := Lib.hid hY2
          clear hb2 hX2 hY2 p0 p1 p2 p3 HX HW c0 c1
          go_wp2_with fail
          refine (word_is nm _).mono ?_
          obtain ⟨wb, hwb⟩ : ∃ wb, wordB nm = wb := ⟨_, rfl⟩
          rw [hwb] at HFa ⊢
          clear hwb
          rintro e w3 ⟨rfl, hb3⟩
          have q0 : w3.cell? ⟨wr.heap.size, 0, none⟩ = some (strV nm) := (hb3.cell (p := ⟨wr.heap.size, 0, none⟩) zY2).trans q0
          have q1 : w3.cell? ⟨wr.heap.size, 1, none⟩ = some (.int .i64 kd) := (hb3.cell (p := ⟨wr.heap.size, 1, none⟩) zY2).trans q1
          have HX3 := Lib.hid (blk_below hb3 zX2 HX2.out)
          have HW3 := Lib.hid (HW2.out.trans (hb3.mono HW2.out.size))
          clear hb3 HX2 HW2 HY2
          cases wb
          · have HFa := Lib.hid (show fieldAtB F k = false by rw [HFa.out]; rfl)
            go_wp2_with fail
            go_ret
            exact ⟨HF.out 6 (by unfold checkS; rw [if_neg HN.out, if_neg (by rw [fieldsB, all_false hlt HFa.out]; simp)]), HW3.out⟩
          · cases u
            · by_cases k1 : 1 ≤ kd
              · by_cases k4 : kd ≤ 4
                · have HFa := Lib.hid (show fieldAtB F k = true by rw [HFa.out]; simp [k1, k4])
                  go_wp2_with fail
                  go_roundw
                  case rel => exact ⟨k + 1, by omega, by go_num, HX3.out, HW3.out, fun j hj => by
                    by_cases e : j = k
                    · subst e; exact HFa.out
                    · exact HA.out j (by omega)⟩
                  case measure => simp [intOf]; omega
                · have HFa := Lib.hid (show fieldAtB F k = false by rw [HFa.out]; simp [k4])
                  have k5 : 4 < kd := by omega
                  go_wp2_with fail
                  go_ret
                  exact ⟨HF.out 6 (by unfold checkS; rw [if_neg HN.out, if_neg (by rw [fieldsB, all_false hlt HFa.out]; simp)]), HW3.out⟩
              · have HFa := Lib.hid (show fieldAtB F k = false by rw [HFa.out]; simp [k1])
                have k5 : kd < 1 := by omega
                go_wp2_with fail
                go_ret
                exact ⟨HF.out 6 (by unfold checkS; rw [if_neg HN.out, if_neg (by rw [fieldsB, all_false hlt HFa.out]; simp)]), HW3.out⟩
            · have HFa := Lib.hid (show fieldAtB F k = false by rw [HFa.out]; simp)
              go_wp2_with fail
              go_ret
              exact ⟨HF.out 6 (by unfold checkS; rw [if_neg HN.out, if_neg (by rw [fieldsB, all_false hlt HFa.out]; simp)]), HW3.out⟩
        · have hq : decide ((k : Int) < F.length) = false := by simp; omega
          clear hbw
          go_wp2_with fail
          refine (rcheck_any Any1 vt vn vs r _ (H2.out.below HW.out)).mono ?_
          obtain ⟨c, hc⟩ : ∃ c, checkR r = c := ⟨_, rfl⟩
          rw [hc]
          have HCc := Lib.hid hc; clear hc
          rintro e w3 ⟨rfl, hb3⟩
          have HW3 := Lib.hid (HW.out.trans (hb3.mono HW.out.size))
          clear hb3
          go_wp2_with fail
          go_ret
          exact ⟨HF.out c (by unfold checkS; rw [if_neg HN.out, if_pos (by rw [fieldsB]; exact all_true fun j hj => HA.out j (by have hj' : j < F.length := hj; omega))]; exact HCc.out), HW3.out⟩
end
section
set_option maxRecDepth 100000
open Go.RowKit Cal
attribute [local go_sem] toList_mk mk_size
/-- what is done with the values of kind k -/
def kindAt (k : Int) : Array Value := if k = 1 then kind1 else if k = 2 then kind2 else if k = 3 then kind3 else if k = 4 then kind4 else kind0
/-- the kind of a field, and the error -/
def findN (s : SchemaL) (f : Int) : Int × Int := if checkS s = 0 then (if 0 ≤ f ∧ f < s.fields.length then ((s.fields.getD f.toNat default).2, 0) else (0, 2)) else (0, checkS s)
def findV (p : Int × Int) : Value := .tuple #[.agg (kindAt p.1), .int .i64 p.2]
theorem check_fields {s : SchemaL} (h : checkS s = 0) : (1 ≤ s.fields.length ∧ s.fields.length ≤ 5) ∧ fieldsB s.fields = true ∧ checkR s.rules = 0 := by
  unfold checkS at h
  split at h
  · omega
  · split at h
    · rename_i h1 h2; exact ⟨by omega, h2, h⟩
    · omega
theorem field_kind {F : List F2} (h : fieldsB F = true) (j : Nat) (hj : j < F.length) : 1 ≤ (F.getD j default).2 ∧ (F.getD j default).2 ≤ 4 := by
  have := List.all_eq_true.1 h j (List.mem_range.2 hj)
  unfold fieldAtB at this
  simp only [Bool.and_eq_true, decide_eq_true_iff] at this
  exact ⟨this.1.2, this.2⟩
theorem heap_setRow {w : World} {g : Nat} {old cs : Array Value} {t : TypeId} {fr : Nat × Nat} (h : w.heap[g]? = some (.cells old t fr)) : (w.setRow g cs).heap[g]? = some (.cells cs t fr) := by
  have hlt := lt_of_blk h
  have h' : w.heap[g] = .cells old t fr := by simpa [Array.getElem?_eq_getElem hlt] using h
  show (w.heap.modify g _)[g]? = _
  rw [Array.getElem?_eq_getElem (by simpa using hlt), Array.getElem_modify_self, h']
theorem below_setRow {B g : Nat} {a w : World} {cs : Array Value} (h : Below B a w) (hg : B ≤ g) : Below B a (w.setRow g cs) := by
  refine ⟨h.os, h.tape, h.output, by simpa [World.setRow] using h.size, fun k hk => ?_⟩
  show (w.heap.modify g _)[k]? = _
  rw [Array.getElem?_modify, if_neg (by omega)]
  exact h.block k hk
set_option maxHeartbeats 1000000 in
theorem find_bad (S : Nat → Prop) (vf vt vn vs : Value) (s : SchemaL) (f : Int) (w : World) (h : SchemaAt w S vf vt vn vs s) (hc : checkS s ≠ 0) :
    Calls Tryz.prog 91 #[.agg #[vf, vt, vn, vs], .int .i64 f] w fun e w' => e = .returned (findV (findN s f)) ∧ Below w.heap.size w w' := by
  have HS := Lib.hid h.any
  have HF := Lib.hid (show findN s f = (0, checkS s) by unfold findN; rw [if_neg hc])
  have hne : (checkS s != 0) = true := by simpa using hc
  clear h hc
  go_enter Tryz.func91, Tryz.ntmps91
  go_wp2_with fail
  refine (scheck_any Any1 vf vt vn vs s _ (HS.out.below (((Below.refl _ _).alloc (Nat.le_refl _) _).alloc (by simp) _))).mono ?_
  obtain ⟨c, hcc⟩ : ∃ c, checkS s = c := ⟨_, rfl⟩
  rw [hcc] at hne HF ⊢
  clear hcc
  rintro e w1 ⟨rfl, hb1⟩
  have X1 : w1.heap[w.heap.size + 1]? = some (.cells kind0 124 (0, 0)) := blk_below hb1 (by simp) (heap_alloc2_new _ _ _)
  have HB1 := Lib.hid ((((Below.refl w.heap.size w).alloc (Nat.le_refl _) (.cells #[vf, vt, vn, vs] 33)).alloc (by simp) (.cells kind0 124)).trans (hb1.mono (by simp; omega)))
  have HX1 := Lib.hid X1
  have z1 := lt_of_blk X1
  clear hb1 X1
  go_wp2_with (refine wpList_store_row rfl 124 (.tmp 4) (.tmp 11) rfl (w.heap.size + 1) kind0 rfl rfl 124 kind0 HX1.out (by kernel_rfl) (by kernel_rfl) (by kernel_rfl) ?_)
  exact bodyPost_row2 rfl rfl (heap_setRow HX1.out) Tryz.underlying124 rfl (by kernel_rfl) ⟨by rw [HF.out]; rfl, below_setRow HB1.out (by omega)⟩
set_option maxHeartbeats 1000000 in
theorem find_out (S : Nat → Prop) (vf vt vn vs : Value) (s : SchemaL) (f : Int) (w : World) (h : SchemaAt w S vf vt vn vs s) (hc : checkS s = 0) (hf : f < 0 ∨ (s.fields.length : Int) ≤ f) :
    Calls Tryz.prog 91 #[.agg #[vf, vt, vn, vs], .int .i64 f] w fun e w' => e = .returned (findV (findN s f)) ∧ Below w.heap.size w w' := by
  obtain ⟨af, cf, rfl⟩ := h.1.slice
  have HS := Lib.hid h.any
  have HF := Lib.hid (show findN s f = (0, 2) by unfold findN; rw [if_pos hc, if_neg (by omega)])
  have HC := Lib.hid hc
  clear h hc
  have hf' : f < 0 ∨ (0 ≤ f ∧ (s.fields.length : Int) ≤ f) := by omega
  clear hf
  rcases hf' with hf | ⟨hf0, hf⟩
  all_goals
    go_enter Tryz.func91, Tryz.ntmps91
    go_wp2_with fail
    refine (scheck_any Any1 _ vt vn vs s _ (HS.out.below (((Below.refl _ _).alloc (Nat.le_refl _) _).alloc (by simp) _))).mono ?_
    rw [HC.out]
    rintro e w1 ⟨rfl, hb1⟩
    have X0 : w1.heap[w.heap.size]? = some (.cells #[.slice af s.fields.length cf, vt, vn, vs] 33 (0, 0)) := blk_below hb1 (by simp; omega) (heap_alloc2_old _ _ _)
    have X1 : w1.heap[w.heap.size + 1]? = some (.cells kind0 124 (0, 0)) := blk_below hb1 (by simp) (heap_alloc2_new _ _ _)
    have HB1 := Lib.hid ((((Below.refl w.heap.size w).alloc (Nat.le_refl _) (.cells #[.slice af s.fields.length cf, vt, vn, vs] 33)).alloc (by simp) (.cells kind0 124)).trans (hb1.mono (by simp; omega)))
    have HX1 := Lib.hid X1
    have z1 := lt_of_blk X1; have z0 := lt_of_blk X0
    obtain ⟨p0, p1, p2, p3⟩ := cells4 X0
    clear hb1 X1 X0
    go_wp2_with (refine wpList_store_row rfl 124 (.tmp 4) (.tmp 22) rfl (w.heap.size + 1) kind0 rfl rfl 124 kind0 HX1.out (by kernel_rfl) (by kernel_rfl) (by kernel_rfl) ?_)
    exact bodyPost_row2 rfl rfl (heap_setRow HX1.out) Tryz.underlying124 rfl (by kernel_rfl) ⟨by rw [HF.out]; rfl, below_setRow HB1.out (by omega)⟩
theorem setRow_other {w : World} {g k : Nat} {cs : Array Value} (h : k ≠ g) : (w.setRow g cs).heap[k]? = w.heap[k]? := by
  show (w.heap.modify g _)[k]? = _
  rw [Array.getElem?_modify, if_neg (fun e => h e.symm)]
theorem index_kind (kd : Int) (h1 : 1 ≤ kd) (h4 : kd ≤ 4) : ∀ w, (Instr.index 147 (.agg kindsV) (.int .i64 kd)).run Tryz.prog w = .ok (.agg (kindAt kd)) w := by
  obtain rfl | rfl | rfl | rfl : kd = 1 ∨ kd = 2 ∨ kd = 3 ∨ kd = 4 := by omega
  · exact fun w => by kernel_rfl
  · exact fun w => by kernel_rfl
  · exact fun w => by kernel_rfl
  · exact fun w => by kernel_rfl
theorem kindAt_one (kd : Int) : (kindAt kd).all (·.oneCell') = true ∧ (kindAt kd).size = 4 := by
  unfold kindAt
  repeat' split
  all_goals exact ⟨by kernel_rfl, by kernel_rfl⟩
set_option maxHeartbeats 4000000 in
theorem find_in' (S : Nat → Prop) (vf vt vn vs : Value) (s : SchemaL) (f : Nat) (w : World) (h : SchemaAt w S vf vt vn vs s) (hc : checkS s = 0) (hf : f < s.fields.length) :
    Calls Tryz.prog 91 #[.agg #[vf, vt, vn, vs], .int .i64 f] w fun e w' => e = .returned (findV (findN s f)) ∧ Below w.heap.size w w' := by
  obtain ⟨af, cf, rfl⟩ := h.1.slice
  obtain ⟨⟨g1, g2⟩, g3, g4⟩ := check_fields hc
  obtain ⟨b, off, rfl, _, hb, hcc⟩ := vec_cell2 h.1 (by omega)
  have hc1 := hcc f hf 1 _ rfl
  obtain ⟨k1, k4⟩ := field_kind g3 f hf
  have HF' := Lib.hid (show findN s f = ((s.fields.getD f default).2, 0) by unfold findN; rw [if_pos hc, if_pos (by omega)]; simp)
  obtain ⟨kd, hkd⟩ : ∃ kd, (s.fields.getD f default).2 = kd := ⟨_, rfl⟩
  rw [hkd] at HF' hc1 k1 k4
  have HF := HF'
  have HS := Lib.hid h.any
  have HC := Lib.hid hc
  have hix := index_kind kd k1 k4
  obtain ⟨ko, ks⟩ := kindAt_one kd
  have KO := Lib.hid ko; have KS := Lib.hid ks
  have HIX := Lib.hid hix
  have HC1 := Lib.hid hc1
  clear h hc g3 g4 hcc hkd HF' ko ks hix hc1
  have hlt' : (f : Int) < (s.fields.length : Int) := by omega
  go_enter Tryz.func91, Tryz.ntmps91
  go_wp2_with fail
  refine (scheck_any Any1 _ vt vn vs s _ (HS.out.below (((Below.refl _ _).alloc (Nat.le_refl _) _).alloc (by simp) _))).mono ?_
  rw [HC.out]
  rintro e w1 ⟨rfl, hb1⟩
  have X0 : w1.heap[w.heap.size]? = some (.cells #[.slice (some ⟨b, off, none⟩) s.fields.length cf, vt, vn, vs] 33 (0, 0)) := blk_below hb1 (by simp; omega) (heap_alloc2_old _ _ _)
  have X1 : w1.heap[w.heap.size + 1]? = some (.cells kind0 124 (0, 0)) := blk_below hb1 (by simp) (heap_alloc2_new _ _ _)
  have HB1 := Lib.hid ((((Below.refl w.heap.size w).alloc (Nat.le_refl _) (.cells #[.slice (some ⟨b, off, none⟩) s.fields.length cf, vt, vn, vs] 33)).alloc (by simp) (.cells kind0 124)).trans (hb1.mono (by simp; omega)))
  have c1 : w1.cell? ⟨b, off + f * 2 + 1, none⟩ = some (.int .i64 kd) := (HB1.out.cell (p := ⟨b, off + f * 2 + 1, none⟩) hb).trans HC1.out
  have HX1 := Lib.hid X1
  have z1 := lt_of_blk X1; have z0 := lt_of_blk X0
  have zb : b < w1.heap.size := Nat.lt_of_lt_of_le hb HB1.out.size
  obtain ⟨p0, p1, p2, p3⟩ := cells4 X0
  clear hb1 X1 X0
  go_wp2_with fail
  refine wp_region_noPanic ?_
  refine wp_region_held_drew (S := (fun w' => w'.cell? ⟨w.heap.size, 0, none⟩ = some (.slice (some ⟨b, off, none⟩) s.fields.length cf) ∧ w'.cell? ⟨b, off + f * 2 + 1, none⟩ = some (.int .i64 kd))) (by kernel_rfl) (⟨p0, c1⟩) (fun hHeld => ?_)
  refine tH 1 (h := ?_)
  try simp only [List.getElem_toArray, List.getElem_cons_zero, List.getElem_cons_succ, Act.put, List.setIfInBounds_toArray, List.set_cons_zero, List.set_cons_succ]
  refine tH 2 (h := ?_)
  try simp only [List.getElem_toArray, List.getElem_cons_zero, List.getElem_cons_succ, Act.put, List.setIfInBounds_toArray, List.set_cons_zero, List.set_cons_succ]
  refine tH 3 (h := ?_)
  try simp only [List.getElem_toArray, List.getElem_cons_zero, List.getElem_cons_succ, Act.put, List.setIfInBounds_toArray, List.set_cons_zero, List.set_cons_succ]
  refine tH 4 (h := ?_)
  try simp only [List.getElem_toArray, List.getElem_cons_zero, List.getElem_cons_succ, Act.put, List.setIfInBounds_toArray, List.set_cons_zero, List.set_cons_succ]
  refine tH 5 (h := ?_)
  try simp only [List.getElem_toArray, List.getElem_cons_zero, List.getElem_cons_succ, Act.put, List.setIfInBounds_toArray, List.set_cons_zero, List.set_cons_succ]
  refine tH 6 (h := ?_)
  try simp only [List.getElem_toArray, List.getElem_cons_zero, List.getElem_cons_succ, Act.put, List.setIfInBounds_toArray, List.set_cons_zero, List.set_cons_succ]
  refine wpAnyH_ready (rs := [0]) (by kernel_rfl) (by simp) ?_
  refine AllReadyH.cons rfl (fun K hK => ?_) AllReadyH.nil
  go_simp
  refine (kinds_any _).mono ?_; rintro e w2 ⟨rfl, hb2⟩; have p0a := (hb2.cell (p := ⟨w.heap.size, 0, none⟩) z0).trans p0; have c1a := (hb2.cell (p := ⟨b, off + f * 2 + 1, none⟩) zb).trans c1; have HB2 := Lib.hid (HB1.out.drew.trans (hb2.mono HB1.out.size)); have HX2 := Lib.hid (blk_below hb2 z1 HX1.out)
  refine hK.out _ _ (⟨p0a, c1a⟩) (fun hHeld => ?_)
  clear hK K
  try simp only [List.getElem_toArray, List.getElem_cons_zero, List.getElem_cons_succ, Act.put, List.setIfInBounds_toArray, List.set_cons_zero, List.set_cons_succ]
  have hix := HIX.out
  refine tH 7 (h := ?_)
  try simp only [List.getElem_toArray, List.getElem_cons_zero, List.getElem_cons_succ, Act.put, List.setIfInBounds_toArray, List.set_cons_zero, List.set_cons_succ]
  refine wpAnyH_ready (rs := [8]) (by kernel_rfl) (by simp) ?_
  refine AllReadyH.cons rfl (fun K hK => ?_) AllReadyH.nil
  refine wp_store_row 124 (.tmp 4) (.tmp 30) rfl (w.heap.size + 1) (kindAt kd) rfl rfl 124 kind0 HX2.out (by rw [KS.out]; kernel_rfl) (by rw [KS.out]; rfl) KO.out ?_
  have p0b : (w2.setRow (w.heap.size + 1) (kindAt kd)).cell? ⟨w.heap.size, 0, none⟩ = some (.slice (some ⟨b, off, none⟩) s.fields.length cf) := (World.cell?_of_block (w := w2) (a := ⟨w.heap.size, 0, none⟩) (setRow_other (show w.heap.size ≠ w.heap.size + 1 by omega))).trans p0a
  have c1b : (w2.setRow (w.heap.size + 1) (kindAt kd)).cell? ⟨b, off + f * 2 + 1, none⟩ = some (.int .i64 kd) := (World.cell?_of_block (w := w2) (a := ⟨b, off + f * 2 + 1, none⟩) (setRow_other (show b ≠ w.heap.size + 1 by omega))).trans c1a
  refine hK.out _ _ ⟨p0b, c1b⟩ (fun hHeld => ?_)
  clear hK K
  try simp only [List.getElem_toArray, List.getElem_cons_zero, List.getElem_cons_succ, Act.put, List.setIfInBounds_toArray, List.set_cons_zero, List.set_cons_succ]
  refine tH 9 (h := ?_)
  try simp only [List.getElem_toArray, List.getElem_cons_zero, List.getElem_cons_succ, Act.put, List.setIfInBounds_toArray, List.set_cons_zero, List.set_cons_succ]
  refine wpAnyH_done (by kernel_rfl) ?_ _
  refine NoPanic.normal ?_
  go_wp2_with fail
  exact bodyPost_row2 rfl rfl (heap_setRow HX2.out) Tryz.underlying124 rfl (by rw [KS.out]; kernel_rfl) ⟨by rw [HF.out]; rfl, below_setRow HB2.out (by omega)⟩
theorem find_s (S : Nat → Prop) (vf vt vn vs : Value) (s : SchemaL) (f : Int) (w : World) (h : SchemaAt w S vf vt vn vs s) :
    Calls Tryz.prog 91 #[.agg #[vf, vt, vn, vs], .int .i64 f] w fun e w' => e = .returned (findV (findN s f)) ∧ Below w.heap.size w w' := by
  by_cases hc : checkS s = 0
  · by_cases hf : 0 ≤ f ∧ f < s.fields.length
    · obtain ⟨n, rfl⟩ := Int.eq_ofNat_of_zero_le hf.1
      exact find_in' S vf vt vn vs s n w h hc (by omega)
    · exact find_out S vf vt vn vs s f w h hc (by omega)
  · exact find_bad S vf vt vn vs s f w h hc
end
section
set_option maxRecDepth 100000
open Go.RowKit Cal
attribute [local go_sem] toList_mk mk_size
def normK (k : Int) (r : RulesL) (l : List UInt8) : List UInt8 × Int := if k = 1 then nameN r l else if k = 2 then dayN l else if k = 3 then codeN l else addrN r l
/-- the normal form of a raw value, and the error -/
def valueN (s : SchemaL) (f : Int) (l : List UInt8) : List UInt8 × Int := if (findN s f).2 = 0 then (if l = [] then ([], 0) else normK (findN s f).1 s.rules l) else ([], (findN s f).2)
def ownK (k : Int) (r : RulesL) (l : List UInt8) : Bool := if k = 1 then isOwn (nameN r l) l else if k = 2 then readB l else if k = 3 then isOwn (codeN l) l else isOwn (addrN r l) l
/-- is a value in normal form -/
def normalB (s : SchemaL) (f : Int) (l : List UInt8) : Bool := if (findN s f).2 = 0 then (if l = [] then true else ownK (findN s f).1 s.rules l) else false
theorem findN_kind {s : SchemaL} {f : Int} (h : (findN s f).2 = 0) : (findN s f).1 = 1 ∨ (findN s f).1 = 2 ∨ (findN s f).1 = 3 ∨ (findN s f).1 = 4 := by
  by_cases hc : checkS s = 0
  · unfold findN at h ⊢
    rw [if_pos hc] at h ⊢
    by_cases hf : 0 ≤ f ∧ f < s.fields.length
    · rw [if_pos hf]
      have := field_kind (check_fields hc).2.1 f.toNat (by omega)
      dsimp only
      omega
    · rw [if_neg hf] at h
      simp at h
  · unfold findN at h
    rw [if_neg hc] at h
    exact absurd h hc
set_option maxHeartbeats 4000000 in
theorem value_any (S : Nat → Prop) (vf vt vn vs : Value) (s : SchemaL) (f : Int) (x : ByteArray) (w : World) (h : SchemaAt w S vf vt vn vs s) (hx : x.size ≤ 9223372036854775000) :
    Calls Tryz.prog 56 #[.agg #[vf, vt, vn, vs], .int .i64 f, .string x] w fun e w' => e = .returned (pairV (valueN s f x.data.toList)) ∧ Below w.heap.size w w' := by
  have HS := Lib.hid h.any
  have HL := Lib.hid (Lib.toList_data x)
  have hfin : ∀ p, valueN s f x.data.toList = p → Ending.returned (pairV p) = .returned (pairV (valueN s f x.data.toList)) := fun p h => by rw [h]
  have HF := Lib.hid hfin
  clear h hfin
  have K := find_s Any1 vf vt vn vs s f (w.alloc (.cells #[vf, vt, vn, vs] 33)) (HS.out.below ((Below.refl _ _).alloc (Nat.le_refl _) _))
  have hkk := findN_kind (s := s) (f := f)
  have hval : valueN s f x.data.toList = if (findN s f).2 = 0 then (if x.data.toList = [] then ([], 0) else normK (findN s f).1 s.rules x.data.toList) else ([], (findN s f).2) := rfl
  obtain ⟨⟨kd, er⟩, hp⟩ : ∃ p, findN s f = p := ⟨_, rfl⟩
  rw [hp] at K hkk hval
  dsimp only at hkk hval
  change Calls _ _ _ _ fun e w' => e = .returned (.tuple #[.agg (kindAt kd), .int .i64 er]) ∧ _ at K
  have HK := Lib.hid K
  have HVal := Lib.hid hval
  obtain ⟨ko, ks⟩ := kindAt_one kd
  have KO := Lib.hid ko; have KS := Lib.hid ks
  clear K hp hval ko ks
  by_cases he : er = 0
  · subst he
    have hkd := hkk rfl
    clear hkk
    by_cases hx0 : x.data.toList = []
    · have e1 : x.toList = [] := by rw [HL.out, hx0]
      have HE := Lib.hid (show valueN s f x.data.toList = ([], 0) by rw [HVal.out, if_pos rfl, if_pos hx0])
      clear hx0 hkd
      go_enter Tryz.func56, Tryz.ntmps56
      go_wp2_with fail
      refine HK.out.mono ?_
      rintro e w1 ⟨rfl, hb1⟩
      have HB1 := Lib.hid (((Below.refl w.heap.size w).alloc (Nat.le_refl _) (.cells #[vf, vt, vn, vs] 33)).trans (hb1.mono (by simp)))
      have HX1 := Lib.hid (blk_below (b := w.heap.size) (o := .cells #[vf, vt, vn, vs] 33 (0, 0)) hb1 (by simp) (blk_new rfl))
      clear hb1 HK
      go_wp2_with (refine wpList_store_row rfl 124 (.tmp 8) (.tmp 14) rfl w1.heap.size (kindAt kd) rfl rfl 124 kind0 (heap_alloc_new w1 _) (by rw [KS.out]; kernel_rfl) (by rw [KS.out]; rfl) KO.out ?_; rw [World.setRow_alloc_new])
      go_ret2
      exact ⟨HF.out _ HE.out, HB1.out.alloc HB1.out.size _⟩
    · have e1 : (x.toList == []) = false := by rw [HL.out]; simpa using hx0
      have e2 : x.toList.isEmpty = false := by rw [HL.out]; simpa using hx0
      have HE := Lib.hid (show valueN s f x.data.toList = normK kd s.rules x.data.toList by rw [HVal.out, if_pos rfl, if_neg hx0])
      clear hx0
      rcases hkd with rfl | rfl | rfl | rfl
      · have HE2 := Lib.hid (show valueN s f x.data.toList = nameN s.rules x.data.toList from HE.out)
        go_enter Tryz.func56, Tryz.ntmps56
        go_wp2_with fail
        refine HK.out.mono ?_
        rintro e w1 ⟨rfl, hb1⟩
        have HB1 := Lib.hid (((Below.refl w.heap.size w).alloc (Nat.le_refl _) (.cells #[vf, vt, vn, vs] 33)).trans (hb1.mono (by simp)))
        have HX1 := Lib.hid (blk_below (b := w.heap.size) (o := .cells #[vf, vt, vn, vs] 33 (0, 0)) hb1 (by simp) (blk_new rfl))
        clear hb1 HK
        have cf : (w1.alloc (.cells (kindAt 1) 124)).cell? ⟨w1.heap.size, 1, none⟩ = some (fnV 165) := by rw [cell_of_row _ _ _ _ _ _ (heap_alloc_new w1 _)]; rfl
        have z0 := lt_of_blk HX1.out
        obtain ⟨p0, p1, p2, p3⟩ := cells4 HX1.out
        go_wp2_with (refine wpList_store_row rfl 124 (.tmp 8) (.tmp 14) rfl w1.heap.size (kindAt 1) rfl rfl 124 kind0 (heap_alloc_new w1 _) (by rw [KS.out]; kernel_rfl) (by rw [KS.out]; rfl) KO.out ?_; rw [World.setRow_alloc_new])
        have HB2 := HB1.out.alloc HB1.out.size (.cells (kindAt 1) 124)
        have HB2' := Lib.hid HB2
        refine (norm_any Any1 vt vn vs s.rules x _ (HS.out.2.below HB2) hx).mono ?_
        clear HB2
        rw [← HE2.out]
        obtain ⟨⟨pl, pe⟩, hpp⟩ : ∃ p, valueN s f x.data.toList = p := ⟨_, rfl⟩
        rw [hpp]
        have HPP := Lib.hid hpp
        unfold pairV
        rintro e w3 ⟨rfl, hb3⟩
        have HB3 := Lib.hid (HB2'.out.trans (hb3.mono HB2'.out.size))
        clear hb3 hpp HE HE2 cf p0 p1 p2 p3
        go_wp2_with fail
        go_ret2
        exact ⟨HF.out _ HPP.out, HB3.out⟩
      · have HE2 := Lib.hid (show valueN s f x.data.toList = dayN x.data.toList from HE.out)
        go_enter Tryz.func56, Tryz.ntmps56
        go_wp2_with fail
        refine HK.out.mono ?_
        rintro e w1 ⟨rfl, hb1⟩
        have HB1 := Lib.hid (((Below.refl w.heap.size w).alloc (Nat.le_refl _) (.cells #[vf, vt, vn, vs] 33)).trans (hb1.mono (by simp)))
        have HX1 := Lib.hid (blk_below (b := w.heap.size) (o := .cells #[vf, vt, vn, vs] 33 (0, 0)) hb1 (by simp) (blk_new rfl))
        clear hb1 HK
        have cf : (w1.alloc (.cells (kindAt 2) 124)).cell? ⟨w1.heap.size, 1, none⟩ = some (fnV 168) := by rw [cell_of_row _ _ _ _ _ _ (heap_alloc_new w1 _)]; rfl
        have z0 := lt_of_blk HX1.out
        obtain ⟨p0, p1, p2, p3⟩ := cells4 HX1.out
        go_wp2_with (refine wpList_store_row rfl 124 (.tmp 8) (.tmp 14) rfl w1.heap.size (kindAt 2) rfl rfl 124 kind0 (heap_alloc_new w1 _) (by rw [KS.out]; kernel_rfl) (by rw [KS.out]; rfl) KO.out ?_; rw [World.setRow_alloc_new])
        have HB2 := HB1.out.alloc HB1.out.size (.cells (kindAt 2) 124)
        have HB2' := Lib.hid HB2
        refine (day_any vt vn vs x _).mono ?_
        clear HB2
        rw [← HE2.out]
        obtain ⟨⟨pl, pe⟩, hpp⟩ : ∃ p, valueN s f x.data.toList = p := ⟨_, rfl⟩
        rw [hpp]
        have HPP := Lib.hid hpp
        unfold pairV
        rintro e w3 ⟨rfl, hb3⟩
        have HB3 := Lib.hid (HB2'.out.trans (hb3.mono HB2'.out.size))
        clear hb3 hpp HE HE2 cf p0 p1 p2 p3
        go_wp2_with fail
        go_ret2
        exact ⟨HF.out _ HPP.out, HB3.out⟩
      · have HE2 := Lib.hid (show valueN s f x.data.toList = codeN x.data.toList from HE.out)
        go_enter Tryz.func56, Tryz.ntmps56
        go_wp2_with fail
        refine HK.out.mono ?_
        rintro e w1 ⟨rfl, hb1⟩
        have HB1 := Lib.hid (((Below.refl w.heap.size w).alloc (Nat.le_refl _) (.cells #[vf, vt, vn, vs] 33)).trans (hb1.mono (by simp)))
        have HX1 := Lib.hid (blk_below (b := w.heap.size) (o := .cells #[vf, vt, vn, vs] 33 (0, 0)) hb1 (by simp) (blk_new rfl))
        clear hb1 HK
        have cf : (w1.alloc (.cells (kindAt 3) 124)).cell? ⟨w1.heap.size, 1, none⟩ = some (fnV 172) := by rw [cell_of_row _ _ _ _ _ _ (heap_alloc_new w1 _)]; rfl
        have z0 := lt_of_blk HX1.out
        obtain ⟨p0, p1, p2, p3⟩ := cells4 HX1.out
        go_wp2_with (refine wpList_store_row rfl 124 (.tmp 8) (.tmp 14) rfl w1.heap.size (kindAt 3) rfl rfl 124 kind0 (heap_alloc_new w1 _) (by rw [KS.out]; kernel_rfl) (by rw [KS.out]; rfl) KO.out ?_; rw [World.setRow_alloc_new])
        have HB2 := HB1.out.alloc HB1.out.size (.cells (kindAt 3) 124)
        have HB2' := Lib.hid HB2
        refine (kind2_any vt vn vs x _ hx).mono ?_
        clear HB2
        rw [← HE2.out]
        obtain ⟨⟨pl, pe⟩, hpp⟩ : ∃ p, valueN s f x.data.toList = p := ⟨_, rfl⟩
        rw [hpp]
        have HPP := Lib.hid hpp
        unfold pairV
        rintro e w3 ⟨rfl, hb3⟩
        have HB3 := Lib.hid (HB2'.out.trans (hb3.mono HB2'.out.size))
        clear hb3 hpp HE HE2 cf p0 p1 p2 p3
        go_wp2_with fail
        go_ret2
        exact ⟨HF.out _ HPP.out, HB3.out⟩
      · have HE2 := Lib.hid (show valueN s f x.data.toList = addrN s.rules x.data.toList from HE.out)
        go_enter Tryz.func56, Tryz.ntmps56
        go_wp2_with fail
        refine HK.out.mono ?_
        rintro e w1 ⟨rfl, hb1⟩
        have HB1 := Lib.hid (((Below.refl w.heap.size w).alloc (Nat.le_refl _) (.cells #[vf, vt, vn, vs] 33)).trans (hb1.mono (by simp)))
        have HX1 := Lib.hid (blk_below (b := w.heap.size) (o := .cells #[vf, vt, vn, vs] 33 (0, 0)) hb1 (by simp) (blk_new rfl))
        clear hb1 HK
        have cf : (w1.alloc (.cells (kindAt 4) 124)).cell? ⟨w1.heap.size, 1, none⟩ = some (fnV 177) := by rw [cell_of_row _ _ _ _ _ _ (heap_alloc_new w1 _)]; rfl
        have z0 := lt_of_blk HX1.out
        obtain ⟨p0, p1, p2, p3⟩ := cells4 HX1.out
        go_wp2_with (refine wpList_store_row rfl 124 (.tmp 8) (.tmp 14) rfl w1.heap.size (kindAt 4) rfl rfl 124 kind0 (heap_alloc_new w1 _) (by rw [KS.out]; kernel_rfl) (by rw [KS.out]; rfl) KO.out ?_; rw [World.setRow_alloc_new])
        have HB2 := HB1.out.alloc HB1.out.size (.cells (kindAt 4) 124)
        have HB2' := Lib.hid HB2
        refine (addr_any Any1 vt vn vs s.rules x _ (HS.out.2.below HB2) hx).mono ?_
        clear HB2
        rw [← HE2.out]
        obtain ⟨⟨pl, pe⟩, hpp⟩ : ∃ p, valueN s f x.data.toList = p := ⟨_, rfl⟩
        rw [hpp]
        have HPP := Lib.hid hpp
        unfold pairV
        rintro e w3 ⟨rfl, hb3⟩
        have HB3 := Lib.hid (HB2'.out.trans (hb3.mono HB2'.out.size))
        clear hb3 hpp HE HE2 cf p0 p1 p2 p3
        go_wp2_with fail
        go_ret2
        exact ⟨HF.out _ HPP.out, HB3.out⟩
  · have hne : (er != 0) = true := by simpa using he
    have HE := Lib.hid (show valueN s f x.data.toList = ([], er) by rw [HVal.out, if_neg he])
    clear he hkk
    go_enter Tryz.func56, Tryz.ntmps56
    go_wp2_with fail
    refine HK.out.mono ?_
    rintro e w1 ⟨rfl, hb1⟩
    have HB1 := Lib.hid (((Below.refl w.heap.size w).alloc (Nat.le_refl _) (.cells #[vf, vt, vn, vs] 33)).trans (hb1.mono (by simp)))
    have HX1 := Lib.hid (blk_below (b := w.heap.size) (o := .cells #[vf, vt, vn, vs] 33 (0, 0)) hb1 (by simp) (blk_new rfl))
    clear hb1 HK
    go_wp2_with (refine wpList_store_row rfl 124 (.tmp 8) (.tmp 14) rfl w1.heap.size (kindAt kd) rfl rfl 124 kind0 (heap_alloc_new w1 _) (by rw [KS.out]; kernel_rfl) (by rw [KS.out]; rfl) KO.out ?_; rw [World.setRow_alloc_new])
    go_ret2
    exact ⟨HF.out _ HE.out, HB1.out.alloc HB1.out.size _⟩
end
end Go.Proofs.YthnfmolkppbbpaaGreatDoor
section
namespace Go.Proofs
open Go.Shelf
def Tryz.lays171_ren : Go.Shelf.Ren := ⟨fun | 171 => 39 | 243 => 71 | 246 => 105 | 283 => 137 | 284 => 138 | 285 => 139 | 286 => 140 | 129 => 186 | 317 => 185 | 318 => 187 | 319 => 188 | 320 => 189 | 337 => 221 | 338 => 222 | n => n, fun | 3 => 3 | 9 => 9 | 2 => 2 | 4 => 4 | 171 => 155 | 0 => 0 | 53 => 63 | 37 => 69 | 5 => 5 | 173 => 158 | 212 => 187 | 51 => 164 | 20 => 20 | 213 => 188 | 46 => 87 | 232 => 227 | 233 => 228 | n => n, fun | 17 => 1 | 18 => 4 | 19 => 5 | n => n⟩
theorem Tryz.lays171 : Go.Proofs.Lays.n171 Tryz.prog Tryz.lays171_ren := {
  mixed := by kernel_rfl
  f129 := Tryz.func186.trans (congrArg some (by kernel_rfl))
  f171 := Tryz.func39.trans (congrArg some (by kernel_rfl))
  f243 := Tryz.func71.trans (congrArg some (by kernel_rfl))
  f246 := Tryz.func105.trans (congrArg some (by kernel_rfl))
  f283 := Tryz.func137.trans (congrArg some (by kernel_rfl))
  f284 := Tryz.func138.trans (congrArg some (by kernel_rfl))
  f285 := Tryz.func139.trans (congrArg some (by kernel_rfl))
  f286 := Tryz.func140.trans (congrArg some (by kernel_rfl))
  f317 := Tryz.func185.trans (congrArg some (by kernel_rfl))
  f318 := Tryz.func187.trans (congrArg some (by kernel_rfl))
  f319 := Tryz.func188.trans (congrArg some (by kernel_rfl))
  f320 := Tryz.func189.trans (congrArg some (by kernel_rfl))
  f337 := Tryz.func221.trans (congrArg some (by kernel_rfl))
  f338 := Tryz.func222.trans (congrArg some (by kernel_rfl))
  t0 := Tryz.underlying0
  a0 := Tryz.isAgg0
  z0 := Tryz.sizeOf0
  v0 := Tryz.zeroValue0
  t2 := Tryz.underlying2
  a2 := Tryz.isAgg2
  z2 := Tryz.sizeOf2
  v2 := Tryz.zeroValue2
  t3 := Tryz.underlying3
  a3 := Tryz.isAgg3
  z3 := Tryz.sizeOf3
  v3 := Tryz.zeroValue3
  t4 := Tryz.underlying4
  a4 := Tryz.isAgg4
  z4 := Tryz.sizeOf4
  v4 := Tryz.zeroValue4
  t5 := Tryz.underlying5
  a5 := Tryz.isAgg5
  z5 := Tryz.sizeOf5
  v5 := Tryz.zeroValue5
  t9 := Tryz.underlying9
  a9 := Tryz.isAgg9
  z9 := Tryz.sizeOf9
  v9 := Tryz.zeroValue9
  t20 := Tryz.underlying20
  a20 := Tryz.isAgg20
  z20 := Tryz.sizeOf20
  v20 := Tryz.zeroValue20
  t37 := Tryz.underlying69
  a37 := Tryz.isAgg69
  z37 := Tryz.sizeOf69
  v37 := Tryz.zeroValue69
  t46 := Tryz.underlying87
  a46 := Tryz.isAgg87
  z46 := Tryz.sizeOf87
  v46 := Tryz.zeroValue87
  t51 := Tryz.underlying164
  a51 := Tryz.isAgg164
  z51 := Tryz.sizeOf164
  v51 := Tryz.zeroValue164
  t53 := Tryz.underlying63
  a53 := Tryz.isAgg63
  z53 := Tryz.sizeOf63
  v53 := Tryz.zeroValue63
  t171 := Tryz.underlying155
  a171 := Tryz.isAgg155
  z171 := Tryz.sizeOf155
  v171 := Tryz.zeroValue155
  t173 := Tryz.underlying158
  a173 := Tryz.isAgg158
  z173 := Tryz.sizeOf158
  v173 := Tryz.zeroValue158
  t212 := Tryz.underlying187
  a212 := Tryz.isAgg187
  z212 := Tryz.sizeOf187
  v212 := Tryz.zeroValue187
  t213 := Tryz.underlying188
  a213 := Tryz.isAgg188
  z213 := Tryz.sizeOf188
  t232 := Tryz.underlying227
  a232 := Tryz.isAgg227
  z232 := Tryz.sizeOf227
  v232 := Tryz.zeroValue227
  t233 := Tryz.underlying228
  a233 := Tryz.isAgg228
  z233 := Tryz.sizeOf228
  v233 := Tryz.zeroValue228
  g17 := by kernel_rfl
  g18 := by kernel_rfl
  g19 := by kernel_rfl }
open Go.RowKit Go.Sort Go.Lib in
/-- THE ROAD WITHOUT THE TABLE: 0 <= i < 100: NO PREMISE ON THE WORLD, AND THE WORLD IS AS IT WAS: a row that keeps its argument in that range need list no table ('laid = []'). (LAID: no walk: one application.) -/
theorem Tryz.strconv_Itoa_small (i : Nat) (hi : i < 100) (w : World) :
    Calls Tryz.prog 39 #[.int .i64 i] w fun e w' => e = .returned (.string ⟨(Lib.decDigits i).toArray⟩) ∧ w' = w := Any.strconv_Itoa_small Tryz.lays171 i hi w
end Go.Proofs
end
namespace Go.Proofs.YthnfmolkppbbpaaGreatDoor
section
theorem extract_take (t : List UInt8) (m : Nat) : (⟨t.toArray⟩ : ByteArray).extract 0 m = ⟨(t.take m).toArray⟩ := by
  apply ByteArray.ext
  simp [ByteArray.data_extract]
theorem beq_dec (x y : Int) : (x == y) = decide (x = y) := by by_cases h : x = y <;> simp [h]
end
section
set_option maxRecDepth 100000
open Go.RowKit Go.Shelf
attribute [local go_sem] Oper.semAt_some toList_mk mk_size
def endNo : List UInt8 := [101, 110, 100, 32, 48, 10]
def endRow : List UInt8 := [101, 110, 100, 32, 48]
theorem rows_end : rowsL endNo = [(endRow, [])] := rfl
def prefB (s p : List UInt8) : Bool := decide (p.length ≤ s.length) && (s.take p.length == p)
set_option maxHeartbeats 400000 in
theorem slite_any (s p : List UInt8) (w : World) (hs : s.length ≤ 1000000000) (hp : p.length ≤ 1000000000) : Calls Tryz.prog 78 #[strV s, strV p] w fun e w' => e = .returned (.bool (prefB s p)) ∧ w = w' := by
  by_cases h : p.length ≤ s.length
  · have d : decide ((p.length : Int) ≤ (s.length : Int)) = true := decide_eq_true (by omega)
    have hx := extract_take s p.length
    have hle : (p.length : Int) ≤ (s.length : Int) := by omega
    have e : prefB s p = (s.take p.length == p) := by unfold prefB; rw [decide_eq_true h, Bool.true_and]
    rw [e]
    go_enter Tryz.func78, Tryz.ntmps78
    go_wp2_with fail
    go_ret
    simp
  · have d : decide ((p.length : Int) ≤ (s.length : Int)) = false := decide_eq_false (by omega)
    have e : prefB s p = false := by unfold prefB; rw [decide_eq_false h, Bool.false_and]
    rw [e]
    go_enter Tryz.func78, Tryz.ntmps78
    go_wp2_with fail
    go_ret
    exact ⟨rfl, rfl⟩
set_option maxHeartbeats 400000 in
theorem prefix_any (s p : List UInt8) (w : World) (hs : s.length ≤ 1000000000) (hp : p.length ≤ 1000000000) : Calls Tryz.prog 43 #[strV s, strV p] w fun e w' => e = .returned (.bool (prefB s p)) ∧ Below w.heap.size w w' := by
  go_enter Tryz.func43, Tryz.ntmps43
  go_wp2_with fail
  refine (slite_any s p _ hs hp).mono ?_
  rintro e w1 ⟨rfl, rfl⟩
  go_wp2_with fail
  go_ret
  exact ⟨rfl, Below.refl _ _⟩
theorem callsIn_world {F : Fence} {n : Nat} {P : Program} {f : Nat} {args : Array Value} {w : World} {R : Ending → World → Prop} (h : ∀ W, W = w → CallsIn F n P f args W R) : CallsIn F n P f args w R := h w rfl
structure RdAt0 (b : Nat) (vf vt vn vs : Value) (t : List UInt8) (W : World) : Prop where
  s : W.heap[b]? = some (.cells #[vf, vt, vn, vs] 33 (0, 0))
  t : W.heap[b + 1]? = some (.cells #[strV t] 9 (0, 0))
  r1 : W.heap[b + 1 + 1]? = some (.cells #[.slice none 0 0] 35 (0, 0))
  r2 : W.heap[b + 1 + 1 + 1]? = some (.cells #[.int .i64 0] 3 (0, 0))
  r3 : W.heap[b + 1 + 1 + 1 + 1]? = some (.cells #[.int .i64 0] 37 (0, 0))
/-- what Read holds while it reads -/
structure RdAt (b k : Nat) (t : List UInt8) (W : World) : Prop where
  t : W.heap[b + 1]? = some (.cells #[strV t] 9 (0, 0))
  r1 : W.heap[b + 1 + 1]? = some (.cells #[.slice none 0 0] 35 (0, 0))
  r2 : W.heap[b + 1 + 1 + 1]? = some (.cells #[.int .i64 0] 3 (0, 0))
  r3 : W.heap[b + 1 + 1 + 1 + 1]? = some (.cells #[.int .i64 0] 37 (0, 0))
  l : W.heap[k]? = some (.cells #[.slice none 0 0] 35 (0, 0))
  n : W.heap[k + 1]? = some (.cells #[.int .i64 0] 3 (0, 0))
theorem RdAt0.below {b : Nat} {vf vt vn vs : Value} {t : List UInt8} {W W' : World} (h : RdAt0 b vf vt vn vs t W) (hb : Below W.heap.size W W') : RdAt0 b vf vt vn vs t W' :=
  ⟨blk_below hb (lt_of_blk h.s) h.s, blk_below hb (lt_of_blk h.t) h.t, blk_below hb (lt_of_blk h.r1) h.r1, blk_below hb (lt_of_blk h.r2) h.r2, blk_below hb (lt_of_blk h.r3) h.r3⟩
theorem KeepsRow.trans {bx : Nat} {A B C : World} (h : KeepsRow bx A B) (k : KeepsRow bx B C) : KeepsRow bx A C := ⟨k.1.trans h.1, fun m hm => k.2 m (h.2 m hm)⟩
theorem KeepsRow.put {bx : Nat} {w : World} (hb : bx < w.heap.size) (hg : Tryz.laysM145_ren.g 1 < w.heap.size) (W : World) (x : Nat) (o o' : Obj) (hx : w.heap.size ≤ x) (ho : W.heap[x]? = some o) (_ : o.isCells = false) (_ : o.isWalk = false) : KeepsRow bx W (W.putObj x o') :=
  ⟨World.putObj_heap_other (by omega), fun m hm => by
    have e : (W.putObj x o').heap[Tryz.laysM145_ren.g 1]? = W.heap[Tryz.laysM145_ren.g 1]? := World.putObj_heap_other (by omega)
    rw [← hm]; unfold World.cell?; rw [e]⟩
def IRd (w : World) (b k : Nat) : Option Code → List (List UInt8 × List UInt8) → World → Prop
  | none, pre, W => pre = [] ∧ RdAt b k endNo W ∧ Below b w W
  | some c, _, W => c = .ret ∧ W.heap[b + 1 + 1]? = some (.cells #[.slice none 0 0] 35 (0, 0)) ∧ W.heap[b + 1 + 1 + 1]? = some (.cells #[.int .i64 6] 3 (0, 0)) ∧ W.heap[b + 1 + 1 + 1 + 1]? = some (.cells #[.int .i64 0] 37 (0, 0)) ∧ Below b w W
theorem kept_row {A C : World} {B x : Nat} {row : Option Nat} {cs : Array Value} {t : TypeId} {fr : Nat × Nat} (hg : A.grownBy C row) (hr : ∀ r, row = some r → B ≤ r ∧ ∃ o : Obj, A.heap[r]? = some o ∧ o.isCells = false) (h : A.heap[x]? = some (.cells cs t fr)) : C.heap[x]? = some (.cells cs t fr) :=
  (grownBy_keeps_cells hg (fun r e => (hr r e).2) h rfl).trans h
theorem IRd.own {w : World} {k B : Nat} (hB : w.heap.size ≤ B) (j : Option Code) : OwnFrom B (IRd w w.heap.size k j) := by
  cases j with
  | none => exact fun s A C row hs hg hr => ⟨hs.1, ⟨kept_row hg hr hs.2.1.t, kept_row hg hr hs.2.1.r1, kept_row hg hr hs.2.1.r2, kept_row hg hr hs.2.1.r3, kept_row hg hr hs.2.1.l, kept_row hg hr hs.2.1.n⟩, ownFrom_below (β := Unit) (Nat.le_refl _) hB () A C row hs.2.2 hg hr⟩
  | some c => exact fun s A C row hs hg hr => ⟨hs.1, kept_row hg hr hs.2.1, kept_row hg hr hs.2.2.1, kept_row hg hr hs.2.2.2.1, ownFrom_below (β := Unit) (Nat.le_refl _) hB () A C row hs.2.2.2.2 hg hr⟩
theorem IRd.box {w : World} {k : Nat} (hk : w.heap.size + 1 + 1 + 1 + 1 < k) (j : Option Code) (s : List (List UInt8 × List UInt8)) (A : World) (v : Value) (h : IRd w w.heap.size k j s A) : IRd w w.heap.size k j s (A.setCell ⟨k + 2, 0, none⟩ v) := by
  cases j with
  | none => exact ⟨h.1, ⟨blk_far h.2.1.t (by show w.heap.size + 1 ≠ k + 2; omega), blk_far h.2.1.r1 (by show w.heap.size + 1 + 1 ≠ k + 2; omega), blk_far h.2.1.r2 (by show w.heap.size + 1 + 1 + 1 ≠ k + 2; omega), blk_far h.2.1.r3 (by show w.heap.size + 1 + 1 + 1 + 1 ≠ k + 2; omega), blk_far h.2.1.l (by show k ≠ k + 2; omega), blk_far h.2.1.n (by show k + 1 ≠ k + 2; omega)⟩, h.2.2.setCell (p := ⟨k + 2, 0, none⟩) (by show w.heap.size ≤ k + 2; omega) _⟩
  | some c => exact ⟨h.1, blk_far h.2.1 (by show w.heap.size + 1 + 1 ≠ k + 2; omega), blk_far h.2.2.1 (by show w.heap.size + 1 + 1 + 1 ≠ k + 2; omega), blk_far h.2.2.2.1 (by show w.heap.size + 1 + 1 + 1 + 1 ≠ k + 2; omega), h.2.2.2.2.setCell (p := ⟨k + 2, 0, none⟩) (by show w.heap.size ≤ k + 2; omega) _⟩
theorem RdAt.below {b k : Nat} {t : List UInt8} {W W' : World} (h : RdAt b k t W) (hb : Below W.heap.size W W') : RdAt b k t W' :=
  ⟨blk_below hb (lt_of_blk h.t) h.t, blk_below hb (lt_of_blk h.r1) h.r1, blk_below hb (lt_of_blk h.r2) h.r2, blk_below hb (lt_of_blk h.r3) h.r3, blk_below hb (lt_of_blk h.l) h.l, blk_below hb (lt_of_blk h.n) h.n⟩
theorem IRd.drew {w : World} {b k : Nat} {j : Option Code} {s : List (List UInt8 × List UInt8)} {A : World} (h : IRd w b k j s A) : IRd w b k j s A.drew := by
  cases j with
  | none => exact ⟨h.1, ⟨h.2.1.t, h.2.1.r1, h.2.1.r2, h.2.1.r3, h.2.1.l, h.2.1.n⟩, h.2.2.drew⟩
  | some c => exact ⟨h.1, h.2.1, h.2.2.1, h.2.2.2.1, h.2.2.2.2.drew⟩
theorem keeps_below {W W' : World} (hb : Below W.heap.size W W') : KeepsOthers W W' := ⟨hb.size, fun k o h _ => blk_below hb (lt_of_blk h) h⟩
theorem itoa0 (w : World) : Calls Tryz.prog 39 #[.int .i64 0] w fun e w' => e = .returned (strV [48]) ∧ Below w.heap.size w w' :=
  (Tryz.strconv_Itoa_small 0 (by decide) w).mono (by rintro e w' ⟨rfl, rfl⟩; exact ⟨by rw [show Lib.decDigits 0 = [48] from by decide +kernel], Below.refl _ _⟩)
set_option maxHeartbeats 400000 in
theorem rows_any (t : List UInt8) (w : World) : Calls Tryz.prog 42 #[strV t] w fun e w' => e = .returned (.func (.func 76) #[] #[.pointer (some ⟨w.heap.size, 0, none⟩)]) ∧ w' = w.alloc (.cells #[strV t] 9) := by
  go_enter Tryz.func42, Tryz.ntmps42
  go_wp2_with fail
  go_ret
  exact ⟨rfl, rfl⟩
set_option maxHeartbeats 4000000 in
theorem rread_none (S : Nat → Prop) (vf vt vn vs : Value) (s : SchemaL) (w : World) (hm : MaxAt w) (h : SchemaAt w S vf vt vn vs s) (hc : checkS s = 0) :
    Calls Tryz.prog 11 #[.agg #[vf, vt, vn, vs], strV endNo] w fun e w' => e = .returned (.tuple #[.slice none 0 0, .int .i64 6, .int .i64 0]) ∧ Below w.heap.size w w' := by
  have HS := Lib.hid h; have HC := Lib.hid hc; have HM := Lib.hid hm
  clear h hc hm
  refine (callsIn_wide (n := 6)).1 ?_
  refine callsIn_of_wp_marks Tryz.func11 rfl trivial ?_ rfl
  simp only [Tryz.ntmps11, List.size_toArray, List.length_cons, List.length_nil, Nat.reduceAdd, Nat.reduceSub, Array.replicate_succ, Array.replicate_zero, List.push_toArray, List.append_toArray, List.nil_append, List.cons_append]
  gi_wp2
  refine ⟨trivial, callsIn_world fun W hW => ?_⟩
  have hb0 : Below w.heap.size w W := by rw [hW]; exact (((((Below.refl w.heap.size w).alloc (Nat.le_refl _) _).alloc (by simp) _).alloc (by simp; omega) _).alloc (by simp; omega) _).alloc (by simp; omega) _
  have h0 : W.heap[w.heap.size]? = some (.cells #[vf, vt, vn, vs] 33 (0, 0)) := by rw [hW]; exact blk_old (blk_old (blk_old (blk_old (blk_new rfl))))
  have h1 : W.heap[w.heap.size + 1]? = some (.cells #[strV endNo] 9 (0, 0)) := by rw [hW]; exact blk_old (blk_old (blk_old (blk_new (by simp))))
  have h2 : W.heap[w.heap.size + 1 + 1]? = some (.cells #[.slice none 0 0] 35 (0, 0)) := by rw [hW]; exact blk_old (blk_old (blk_new (by simp)))
  have h3 : W.heap[w.heap.size + 1 + 1 + 1]? = some (.cells #[.int .i64 0] 3 (0, 0)) := by rw [hW]; exact blk_old (blk_new (by simp))
  have h4 : W.heap[w.heap.size + 1 + 1 + 1 + 1]? = some (.cells #[.int .i64 0] 37 (0, 0)) := by rw [hW]; exact blk_new (by simp)
  clear hW
  refine (callsIn_wide.2 (scheck_any S vf vt vn vs s W (HS.out.below hb0))).mono ?_
  rw [HC.out]
  rintro e w1 ⟨rfl, hb⟩
  have h0' := blk_below hb (lt_of_blk h0) h0; have h1' := blk_below hb (lt_of_blk h1) h1; have h2' := blk_below hb (lt_of_blk h2) h2; have h3' := blk_below hb (lt_of_blk h3) h3; have h4' := blk_below hb (lt_of_blk h4) h4
  have HB1 := Lib.hid (hb0.trans (hb.mono hb0.size))
  have HM1 := Lib.hid (HM.out.old HB1.out)
  have hd : RdAt0 w.heap.size vf vt vn vs endNo w1 := ⟨h0', h1', h2', h3', h4'⟩
  have HD := Lib.hid hd
  have c1 : ((w1.alloc (.cells #[.slice none 0 0] 35)).alloc (.cells #[.int .i64 0] 3)).cell? ⟨w.heap.size + 1, 0, none⟩ = some (strV endNo) := cell1R (blk_old (blk_old h1'))
  have dz : ((0 : Int) != 0) = false := rfl
  clear hb hb0 h0 h1 h2 h3 h4 h0' h1' h2' h3' h4' hd
  gi_wp2
  refine ⟨trivial, callsIn_world fun W2 hW2 => ?_⟩
  have hb2 : Below w1.heap.size w1 W2 := by rw [hW2]; exact ((Below.refl w1.heap.size w1).alloc (Nat.le_refl _) _).alloc (by simp) _
  have hl2 : W2.heap[w1.heap.size]? = some (.cells #[.slice none 0 0] 35 (0, 0)) := by rw [hW2]; exact blk_old (blk_new rfl)
  have hn2 : W2.heap[w1.heap.size + 1]? = some (.cells #[.int .i64 0] 3 (0, 0)) := by rw [hW2]; exact blk_new (by simp)
  have z2 : W2.heap.size = w1.heap.size + 2 := by rw [hW2]; simp
  clear hW2 c1
  refine (callsIn_wide.2 (rows_any endNo W2)).mono ?_
  rintro e w3 ⟨rfl, hw3⟩
  have hb3 : Below w1.heap.size w1 w3 := by rw [hw3]; exact hb2.alloc hb2.size _
  have hd3 : RdAt w.heap.size w1.heap.size endNo w3 := by
    have h1 := (HD.out.below hb2)
    rw [hw3]
    exact ⟨blk_old h1.t, blk_old h1.r1, blk_old h1.r2, blk_old h1.r3, blk_old hl2, blk_old hn2⟩
  have hx3 : w3.heap[w1.heap.size + 2]? = some (.cells #[strV endNo] 9 (0, 0)) := by rw [hw3]; exact blk_new z2.symm
  have HB3 := Lib.hid (HB1.out.trans (hb3.mono HB1.out.size)); have HM3 := Lib.hid (HM1.out.old hb3); have HD3 := Lib.hid hd3; have HX3 := Lib.hid hx3
  rw [z2]
  have zk : w.heap.size + 1 + 1 + 1 + 1 < w1.heap.size := lt_of_blk HD.out.r3
  clear hb2 hl2 hn2 hb3 hd3 hx3 hw3 z2
  gi_wp2
  refine wpIn_range_box rfl (by omega) (gf := 76) (lb := #[.pointer (some ⟨w1.heap.size + 2, 0, none⟩)]) rfl trivial (enters_of Tryz.func76 (by kernel_rfl) rfl)
    (rows1_box 5 (by decide) (w1.heap.size + 2) endNo w3 (by decide) HM3.out HX3.out (by have := HM1.out.lt; omega)) (lt_of_blk HX3.out)
    KeepsRow.trans (KeepsRow.put (lt_of_blk HX3.out) HM3.out.lt) (fun _ => rfl)
    (IRd w w.heap.size w1.heap.size) (IRd.own (Nat.le_trans HB3.out.size (Nat.le_refl _))) (IRd.box (by omega)) ⟨rfl, HD3.out, HB3.out⟩
    (fun x => { tmps := #[.agg #[vf, vt, vn, vs], strV endNo, .pointer (some ⟨w.heap.size, 0, none⟩), .pointer (some ⟨w.heap.size + 1, 0, none⟩), .pointer (some ⟨w.heap.size + 1 + 1, 0, none⟩), .pointer (some ⟨w.heap.size + 1 + 1 + 1, 0, none⟩), .pointer (some ⟨w.heap.size + 1 + 1 + 1 + 1, 0, none⟩), .int .i64 0, .pointer (some ⟨w1.heap.size, 0, none⟩), .pointer (some ⟨w1.heap.size + 1, 0, none⟩), strV x.1, strV x.2, undef, undef, .agg #[vf, vt, vn, vs], .int .i64 0, .int .i64 0, .bool false, undef, strV endNo, .func (.func 76) #[] #[.pointer (some ⟨w1.heap.size + 2, 0, none⟩)], strV x.1, strV x.2, undef, undef, undef, undef, undef, undef, undef, undef, undef, undef, undef, undef, undef, undef, undef, undef, undef, undef, undef, undef, undef, undef, undef, undef, undef, undef, undef, undef, undef, undef, undef, undef, undef, undef, undef, undef, undef, undef, undef, undef], defers := [] }) ?assign ?body ?done ?stop
  case assign =>
    intro l x W K hK
    dsimp only [encsR]
    gi_wp2
    exact hK
  case body =>
    rintro l pre x W ⟨rfl, hd, hB⟩ hpre
    obtain rfl : x = (endRow, []) := by
      rw [rows_end] at hpre
      obtain ⟨r, hr⟩ := hpre
      simp at hr; exact hr.1
    dsimp only
    have HDd := Lib.hid hd; have HBd := Lib.hid hB
    clear hd hB
    gi_wp2
    refine ⟨trivial, (CallsIn.inRound l (callsIn_wide.2 (prefix_any endRow [101, 110, 100, 32] W (by decide) (by decide)))).mono ?_⟩
    rw [show prefB endRow [101, 110, 100, 32] = true from by decide]
    rintro e W2 ⟨rfl, hb⟩
    have HD2 := Lib.hid (HDd.out.below hb); have HB2 := Lib.hid (HBd.out.trans (hb.mono HBd.out.size)); have HK2 := Lib.hid (keeps_below hb)
    have cl := cell1R HD2.out.l
    clear hb
    gi_wp2
    refine ⟨trivial, (CallsIn.inRound l (callsIn_wide.2 (itoa0 W2))).mono ?_⟩
    rintro e W3 ⟨rfl, hb⟩
    have HD3' := HD2.out.below hb
    have HBB := Lib.hid (HB2.out.trans (hb.mono HB2.out.size)); have HKK := Lib.hid (HK2.out.trans (keeps_below hb)); have HDD := Lib.hid HD3'
    have cl3 := cell1R HD3'.l; have ct3 := cell1R HD3'.t; have cr1 := cell1R HD3'.r1; have cr2 := cell1R HD3'.r2; have cr3 := cell1R HD3'.r3
    have fr1 := frozen_of_row _ _ 0 _ _ HD3'.r1; have fr2 := frozen_of_row _ _ 0 _ _ HD3'.r2; have fr3 := frozen_of_row _ _ 0 _ _ HD3'.r3
    have hne : (!(endRow == (({ data := #[101, 110, 100, 32] } : ByteArray) ++ { data := #[48] }).toList)) = false := by decide +kernel
    have mixed : Tryz.prog.follows .mixedOrders = true := by kernel_rfl
    clear hb HD3' cl
    have n1 : w.heap.size + 1 + 1 ≠ w.heap.size + 1 + 1 + 1 := by omega
    have n2 : w.heap.size + 1 + 1 ≠ w.heap.size + 1 + 1 + 1 + 1 := by omega
    have n3 : w.heap.size + 1 + 1 + 1 ≠ w.heap.size + 1 + 1 + 1 + 1 := by omega
    have hI : IRd w w.heap.size w1.heap.size (some .ret) [(endRow, [])] ((((W3.setCell ⟨w.heap.size + 1 + 1, 0, none⟩ (.slice none 0 0)).setCell ⟨w.heap.size + 1 + 1 + 1, 0, none⟩ (.int .i64 6)).setCell ⟨w.heap.size + 1 + 1 + 1 + 1, 0, none⟩ (.int .i64 0))) :=
      ⟨rfl, blk_far (a := ⟨w.heap.size + 1 + 1 + 1 + 1, 0, none⟩) (blk_far (a := ⟨w.heap.size + 1 + 1 + 1, 0, none⟩) (blk_set (i := 0) (v := .slice none 0 0) HDD.out.r1) n1) n2,
        blk_far (a := ⟨w.heap.size + 1 + 1 + 1 + 1, 0, none⟩) (blk_set (i := 0) (v := .int .i64 6) (blk_far (a := ⟨w.heap.size + 1 + 1, 0, none⟩) HDD.out.r2 n1.symm)) n3,
        blk_set (i := 0) (v := .int .i64 0) (blk_far (a := ⟨w.heap.size + 1 + 1 + 1, 0, none⟩) (blk_far (a := ⟨w.heap.size + 1 + 1, 0, none⟩) HDD.out.r3 n2.symm) n3.symm),
        ((HBB.out.setCell (p := ⟨w.heap.size + 1 + 1, 0, none⟩) (by show w.heap.size ≤ w.heap.size + 1 + 1; omega) _).setCell (p := ⟨w.heap.size + 1 + 1 + 1, 0, none⟩) (by show w.heap.size ≤ w.heap.size + 1 + 1 + 1; omega) _).setCell (p := ⟨w.heap.size + 1 + 1 + 1 + 1, 0, none⟩) (by show w.heap.size ≤ w.heap.size + 1 + 1 + 1 + 1; omega) _⟩
    have HI := Lib.hid hI
    clear hI
    gi_wp2
    gi_region_with_o (fail)
    all_goals gi_wp2
    all_goals exact ⟨some .ret, rfl, (((HKK.out.trans (KeepsOthers.setCell _ _ _)).trans (KeepsOthers.setCell _ _ _)).trans (KeepsOthers.setCell _ _ _)).trans (KeepsOthers.drew _), (fun h => nomatch h), HI.out.drew⟩
  case done =>
    rintro D W hD ⟨hn, _⟩ hK
    rw [rows_end] at hn; cases hn
  case stop =>
    rintro D c pre W hD hpre ⟨rfl, g1, g2, g3, hB⟩ hK
    gi_wp2
    have hne : ∀ x, x < w1.heap.size → x ≠ D := fun x hx => by have := lt_of_blk HX3.out; omega
    have d1 : ∀ x, x < w1.heap.size → (W.putObj D (.deferred none)).heap[x]? = W.heap[x]? := fun x hx => World.putObj_heap_other (hne x hx)
    have c1 : (W.putObj D (.deferred none)).cell? ⟨w.heap.size + 1 + 1, 0, none⟩ = some (.slice none 0 0) := cell1R ((d1 _ (by omega)).trans g1)
    have c2 : (W.putObj D (.deferred none)).cell? ⟨w.heap.size + 1 + 1 + 1, 0, none⟩ = some (.int .i64 6) := cell1R ((d1 _ (by omega)).trans g2)
    have c3 : (W.putObj D (.deferred none)).cell? ⟨w.heap.size + 1 + 1 + 1 + 1, 0, none⟩ = some (.int .i64 0) := cell1R ((d1 _ (by omega)).trans g3)
    refine ⟨by simp, .inl ⟨_, _, rfl, run_takeDeferred hK, ?_⟩⟩
    refine ⟨.tuple #[.slice none 0 0, .int .i64 6, .int .i64 0], ?_, rfl, hB.trans (belowK_b (w := w) (Nat.le_refl _) W D _ _ (by have := lt_of_blk HX3.out; omega) hK rfl rfl)⟩
    simp [results, Tryz.f11, go_sem, c1, c2, c3]
end
section
open Go.RowKit
def xr (a b : Int) : Int := bits .xor .u64 a b
def ad (a b : Int) : Int := IntKind.u64.wrap (a + b)
/-- turned left by p, where p * q = 2 ^ 64 -/
def rotP (p q x : Int) : Int := bits .or .u64 (IntKind.u64.wrap (x * p)) (x / q)
structure Sip where
  a : Int
  b : Int
  c : Int
  d : Int
def rndP (s : Sip) : Sip :=
  let a := ad s.a s.b
  let b := xr (rotP 8192 2251799813685248 s.b) a
  let a := rotP 4294967296 4294967296 a
  let c := ad s.c s.d
  let d := xr (rotP 65536 281474976710656 s.d) c
  let a := ad a d
  let d := xr (rotP 2097152 8796093022208 d) a
  let c := ad c b
  let b := xr (rotP 131072 140737488355328 b) c
  ⟨a, b, rotP 4294967296 4294967296 c, d⟩
def wordP (s : Sip) (m : Int) : Sip :=
  let s := rndP (rndP ⟨s.a, s.b, s.c, xr s.d m⟩)
  ⟨xr s.a m, s.b, s.c, s.d⟩
/-- the first bytes, the least first -/
def numP (i : Nat) (m : Int) : List UInt8 → Int
  | [] => m
  | x :: l => numP (i + 1) (bits .or .u64 m (IntKind.u64.wrap (IntKind.u64.wrap (x.toNat : Int) * 2 ^ (8 * i)))) l
def eachP (s : Sip) (l : List UInt8) : Nat → Sip × List UInt8
  | 0 => (s, l)
  | n + 1 => eachP (wordP s (numP 0 0 (l.take 8))) (l.drop 8) n
def sumP (ka kb : Int) (l : List UInt8) : Int :=
  let p := eachP ⟨xr ka 8317987319222330741, xr kb 7237128888997146477, xr ka 7816392313619706465, xr kb 8387220255154660723⟩ l (l.length / 8)
  let s := wordP p.1 (bits .or .u64 (numP 0 0 p.2) (IntKind.u64.wrap ((l.length : Int) * 72057594037927936)))
  let s := rndP (rndP (rndP (rndP ⟨s.a, s.b, xr s.c 255, s.d⟩)))
  xr (xr (xr s.a s.b) s.c) s.d
def partP (t : List UInt8) : List UInt8 := UInt8.ofNat (min t.length 65535 / 256) :: UInt8.ofNat (min t.length 65535) :: t.take 65535
def partsP (ka kb : Int) (L : List (List UInt8)) : Int := sumP ka kb (L.flatMap partP)
end
end Go.Proofs.YthnfmolkppbbpaaGreatDoor
