/-
  For every input the law EncodeEqual returns true, and its arguments read afterwards as they read before; no condition.
-/
import Derived.Test.YtmakailcpkogdaaGreatDoorPartEncodeEqual7
import Derived.Deep.RegionWith
import Derived.Laws.AppendOwnNone
import Derived.Deep.DeepCutAuto
import Derived.Deep.RegionHeld3
import Derived.Test.YtmakailcpkogdaaGreatDoorRows
import Derived.WalkKit
import Derived.ProofKit
import Derived.OpenShut
import Derived.ShutString
import Derived.ChangeOld
import Derived.Below
import Derived.Lib.SmallJoins
import Derived.Test.YtmakailcpkogdaaGreatDoorCards
import Derived.Test.YtmakailcpkogdaaGreatDoorTie
import Derived.LaidMore
import Derived.Lay
import Derived.SevenTiedAt
import Derived.Stop.Joined
section
/- The reference of layer 4 (address): Code, Normed. -/
set_option linter.unusedSimpArgs false
set_option linter.unusedVariables false
set_option maxRecDepth 100000
namespace Go.Proofs.YtmakailcpkogdaaGreatDoor
open Go.RowKit
attribute [local go_sem] toList_mk mk_size bytes_append
def noSp (l : List UInt8) : List UInt8 := l.filter (· != 32)
theorem flat_noSp (l : List UInt8) : ∀ p, (toksA p l).flatten = p ++ noSp l := by
  induction l with
  | nil =>
    intro p
    by_cases hp : p = []
    · subst hp; simp [toksA, noSp]
    · rw [toksA_end _ hp]; simp [noSp]
  | cons c l ih =>
    intro p
    by_cases hc : c = 32
    · subst hc
      have e : noSp (32 :: l) = noSp l := by simp [noSp]
      by_cases hp : p = []
      · subst hp; rw [toksA_sp0, ih, e]
      · rw [toksA_sp _ _ hp, List.flatten_cons, ih, e]; simp
    · have e : noSp (c :: l) = c :: noSp l := by simp [noSp, hc]
      rw [toksA_ch _ _ _ hc, ih, e]; simp
theorem noSp_snoc (l : List UInt8) (c : UInt8) : noSp (l ++ [c]) = if c = 32 then noSp l else noSp l ++ [c] := by
  unfold noSp
  by_cases h : c = 32 <;> simp [List.filter_append, h]
set_option maxHeartbeats 2000000 in
theorem rcode_yes (s : ByteArray) (w : World) (hv : foldV s.data.toList = true) :
    Calls Tryz.prog 121 #[.string s] w fun e w' => e = .returned (pairV (codeN s.data.toList)) ∧ Below w.heap.size w w' := by
  have hfl := fold_len s.data.toList
  have h64 := foldV_len hv
  have hcode : codeN s.data.toList = if 12 < (noSp (foldL s.data.toList)).length then ([], 1) else (noSp (foldL s.data.toList), 0) := by
    unfold codeN toks
    rw [if_pos hv, flat_noSp]; rfl
  have HV := Lib.hid hv
  obtain ⟨fl, hfl'⟩ : ∃ fl, foldL s.data.toList = fl := ⟨_, rfl⟩
  have hc := rfold_yes s w hv
  rw [hfl'] at hfl hcode hc
  have HC := Lib.hid hc; have HCode := Lib.hid hcode
  have hl : fl.length ≤ 64 := by omega
  clear hv hfl' hcode hc hfl h64
  go_enter Tryz.func121, Tryz.ntmps121
  go_wp2_with fail
  refine HC.out.mono ?_
  rintro e w1 ⟨rfl, hb1⟩
  have HB1 := Lib.hid hb1; clear hb1 HC
  obtain ⟨sf, hsf⟩ : ∃ sf : ByteArray, (⟨fl.toArray⟩ : ByteArray) = sf := ⟨_, rfl⟩
  have hsl : sf.data.toList = fl := by rw [← hsf]
  have hss : sf.size = fl.length := by rw [← hsf]; exact mk_size fl
  rw [show strV fl = .string sf by rw [← hsf]]
  have HSL := Lib.hid hsl; have HSS := Lib.hid hss
  have hsb : sf.size ≤ 64 := by omega
  clear hsf hsl hss hl
  go_wp2_with fail
  go_loop [6, 7] (fun o i => ∃ k : Nat, k ≤ sf.size ∧ i = .int .i64 k ∧ o = strV (noSp (fl.take k))) (fun _ i => sf.size - (intOf i).toNat)
  case atStart => exact ⟨0, by omega, rfl, rfl⟩
  case round =>
    obtain ⟨k, hk, rfl, rfl⟩ := hrel
    have hol : (noSp (fl.take k)).length ≤ 64 := by
      have := List.length_filter_le (fun c : UInt8 => c != 32) (fl.take k)
      have := List.length_take_le k fl
      unfold noSp; omega
    by_cases hlt : k < sf.size
    · have hq : decide ((k : Int) < sf.size) = true := by simp; omega
      have hb := sf[k].toNat_lt
      have hts := take_snoc' sf k hlt
      rw [HSL.out] at hts
      have hns := noSp_snoc (fl.take k) sf[k]
      rw [← hts] at hns
      have HNs := Lib.hid hns
      clear hts hns
      by_cases hsp : sf[k] = 32
      · have e1 : ((sf[k].toNat : Int) != 32) = false := by rw [hsp]; rfl
        have HSp := Lib.hid hsp; clear hsp
        go_wp2_with fail
        go_round
        case rel => exact ⟨k + 1, by omega, by go_num, by rw [HNs.out, if_pos HSp.out]⟩
        case measure => simp [intOf]; omega
      · have e1 : ((sf[k].toNat : Int) != 32) = true := by
          simp only [bne_iff_ne, ne_eq]; intro e; apply hsp; rw [← UInt8.toNat_inj]; simp; omega
        have hext := ext_one sf k hlt
        have HSp := Lib.hid hsp; clear hsp
        go_wp2_with fail
        go_round
        case rel => exact ⟨k + 1, by omega, by go_num, by rw [HNs.out, if_neg HSp.out]⟩
        case measure => simp [intOf]; omega
    · have hq : decide ((k : Int) < sf.size) = false := by simp; omega
      have htk : fl.take k = fl := List.take_of_length_le (by rw [← HSS.out]; omega)
      rw [htk] at hol ⊢
      obtain ⟨O, hO⟩ : ∃ O, noSp fl = O := ⟨_, rfl⟩
      rw [hO] at hol HCode ⊢
      clear htk hO
      by_cases g : 12 < O.length
      · have d1 : decide ((12 : Int) < O.length) = true := by simp; omega
        have HF := Lib.hid (show codeN s.data.toList = ([], 1) by rw [HCode.out, if_pos g])
        clear g
        go_wp2_with fail
        go_ret2
        exact ⟨by rw [HF.out]; rfl, HB1.out⟩
      · have d1 : decide ((12 : Int) < O.length) = false := by simp; omega
        have HF := Lib.hid (show codeN s.data.toList = (O, 0) by rw [HCode.out, if_neg g])
        clear g
        go_wp2_with fail
        go_ret2
        exact ⟨by rw [HF.out]; rfl, HB1.out⟩
set_option maxHeartbeats 400000 in
theorem rcode_no (s : ByteArray) (w : World) (hs : s.size ≤ 9223372036854775000) (hv : foldV s.data.toList = false) :
    Calls Tryz.prog 121 #[.string s] w fun e w' => e = .returned (pairV (codeN s.data.toList)) ∧ Below w.heap.size w w' := by
  have HF := Lib.hid (show codeN s.data.toList = ([], 3) by unfold codeN; rw [if_neg (by rw [hv]; simp)])
  have HV := Lib.hid hv; clear hv
  go_enter Tryz.func121, Tryz.ntmps121
  go_wp2_with fail
  refine (rfold_no s _ hs HV.out).mono ?_
  rintro e w1 ⟨rfl, hb1⟩
  have HB1 := Lib.hid hb1; clear hb1
  go_wp2_with fail
  go_ret2
  exact ⟨by rw [HF.out]; rfl, HB1.out⟩
theorem rcode_any (s : ByteArray) (w : World) (hs : s.size ≤ 9223372036854775000) :
    Calls Tryz.prog 121 #[.string s] w fun e w' => e = .returned (pairV (codeN s.data.toList)) ∧ Below w.heap.size w w' := by
  cases hv : foldV s.data.toList with
  | true => exact rcode_yes s w hv
  | false => exact rcode_no s w hs hv
set_option maxHeartbeats 1000000 in
theorem rnormed_any (s : ByteArray) (w : World) (hs : s.size ≤ 9223372036854775000) :
    Calls Tryz.prog 252 #[.string s] w fun e w' => e = .returned (.bool (isOwn (codeN s.data.toList) s.data.toList)) ∧ Below w.heap.size w w' := by
  have HS := Lib.hid (Lib.toList_data s)
  go_enter Tryz.func252, Tryz.ntmps252
  go_wp2_with fail
  refine (rcode_any s _ hs).mono ?_
  obtain ⟨p, hp⟩ : ∃ p, codeN s.data.toList = p := ⟨_, rfl⟩
  rw [hp]
  have HP := Lib.hid hp; clear hp
  obtain ⟨pl, pe⟩ := p
  unfold pairV
  rintro e w1 ⟨rfl, hb1⟩
  have HB1 := Lib.hid hb1; clear hb1
  cases he : (pe == 0)
  all_goals
    go_wp2_with fail
    go_ret
    refine ⟨ret_bool ?_, HB1.out⟩
    rw [HP.out]
    simp [isOwn, he, HS.out]
end Go.Proofs.YtmakailcpkogdaaGreatDoor
end
section
/- The reference of layer 4 (address): Normalise, Normal. -/
set_option linter.unusedSimpArgs false
set_option linter.unusedVariables false
set_option maxRecDepth 100000
namespace Go.Proofs.YtmakailcpkogdaaGreatDoor
open Go.RowKit
attribute [local go_sem] toList_mk mk_size bytes_append
theorem flat_setS (L : List (List UInt8)) (y : List UInt8) : ∀ k, (L.set k y).flatMap encS = (L.flatMap encS).set k (strV y) := by
  induction L with
  | nil => intro k; rfl
  | cons a L ih =>
    intro k
    cases k with
    | zero => rfl
    | succ k =>
      rw [List.set_cons_succ, List.flatMap_cons, List.flatMap_cons, ih]
      rfl
theorem TwoAt.store {w wr : World} {v : Value} {Y N : List (List UInt8)} {g c : Nat} (h : TwoAt w v (.slice (some ⟨g, 0, none⟩) N.length c) Y N wr) (k : Nat) (y : List UInt8) : TwoAt w v (.slice (some ⟨g, 0, none⟩) N.length c) Y (N.set k y) (wr.setCell ⟨g, k, none⟩ (strV y)) := by
  obtain ⟨h1, h2, h3, h4⟩ := h
  obtain ⟨s1, s2⟩ := h2.stored k (strV y)
  refine ⟨own_kept h1 s2 (fun q hq e => ?_), by rw [List.length_set, flat_setS]; exact s1, h3, h4.setCell (h2.lt g rfl).1 _⟩
  have := h3 q hq
  exact this (by rw [← e]; rfl)
theorem own_ptr {w : World} {B e size n c : Nat} {a : Option Addr} {xs : List Value} (h : w.ownsRow B e size (.slice a n c) n xs) (hn : 0 < n) : ∃ g, a = some ⟨g, 0, none⟩ ∧ B ≤ g ∧ g < w.heap.size := by
  rcases h.2 with ⟨_, h0⟩ | ⟨g, cap, cur, hv, hg, hh, _⟩
  · omega
  · cases hv; exact ⟨g, rfl, hg, lt_of_blk hh⟩
theorem flat_cell (L : List (List UInt8)) (k : Nat) (h : k < L.length) : (L.flatMap encS)[k]? = some (strV (L.getD k [])) := flat_get1 L k h
theorem parts_len (T : List (List UInt8)) : (T.filter fun x => !numB x).length + (T.filter numB).length = T.length := by
  induction T with
  | nil => rfl
  | cons x T ih => cases hx : numB x <;> simp [List.filter_cons, hx] <;> omega
theorem addr_num {r : RulesL} (h : pairsB r.streets = true) (x : List UInt8) : numB (addrTok r x) = numB x := by
  by_cases hn : numB x = true
  · have e : addrTok r x = shortL x := by unfold addrTok; rw [if_pos hn]
    rw [e, hn]; exact short_num x
  · have e : addrTok r x = canonL r.streets x := by unfold addrTok; rw [if_neg hn]
    rw [e]
    rcases canon_cases h x with hs | ⟨k, hk, e1, e2, e3⟩
    · rw [hs]
    · rw [low_not_num (token_low e2).2]; simpa using hn
theorem order_parts {r : RulesL} (h : pairsB r.streets = true) (T : List (List UInt8)) : order2 (T.map (addrTok r)) = (T.filter fun x => !numB x).map (canonL r.streets) ++ (T.filter numB).map shortL := by
  unfold order2
  congr 1
  · induction T with
    | nil => rfl
    | cons x T ih =>
      cases hx : numB x
      · simp only [List.map_cons, List.filter_cons, addr_num h, hx, Bool.not_false, if_true, ih]
        congr 1
        unfold addrTok; rw [hx]; simp
      · simp only [List.map_cons, List.filter_cons, addr_num h, hx, Bool.not_true, Bool.false_eq_true, if_false, ih]
  · induction T with
    | nil => rfl
    | cons x T ih =>
      cases hx : numB x
      · simp only [List.map_cons, List.filter_cons, addr_num h, hx, Bool.false_eq_true, if_false, ih]
      · simp only [List.map_cons, List.filter_cons, addr_num h, hx, if_true, ih]
        congr 1
        unfold addrTok; rw [hx]; simp
set_option maxHeartbeats 8000000 in
theorem raddr_yes (S : Nat → Prop) (vt vn vs : Value) (r : RulesL) (s : ByteArray) (w : World) (h : RulesAt w S vt vn vs r) (hc : checkR r = 0) (hv : foldV s.data.toList = true) :
    Calls Tryz.prog 122 #[.agg #[vt, vn, vs], .string s] w fun e w' => e = .returned (pairV (addrN r s.data.toList)) ∧ Below w.heap.size w w' := by
  obtain ⟨⟨k1, k2, k3⟩, g1, g2, g3, g4⟩ := check_zero hc
  have hfl := fold_len s.data.toList
  have h64 := foldV_len hv
  obtain ⟨avs, cvs, rfl⟩ := h.2.2.slice
  have G3 := Lib.hid g3
  have HR := Lib.hid h.any
  have HC := Lib.hid hc; have HV := Lib.hid hv
  have hfin : addrN r s.data.toList = (if 6 < (toks (foldL s.data.toList)).length ∨ 64 < (joinL (order2 ((toks (foldL s.data.toList)).map (addrTok r)))).length then ([], 1) else (joinL (order2 ((toks (foldL s.data.toList)).map (addrTok r))), 0)) := by
    unfold addrN; rw [if_pos HC.out, if_pos HV.out]
  have HF := Lib.hid hfin
  clear h hc hv g1 g2 g3 g4 hfin
  go_enter Tryz.func122, Tryz.ntmps122
  go_wp2_with fail
  refine (rncheck_any Any1 vt vn _ r _ (HR.out.below ((Below.refl _ _).alloc (Nat.le_refl _) _))).mono ?_
  rw [HC.out]
  rintro e w1 ⟨rfl, hb1⟩
  have HX1 := Lib.hid (show w1.heap[w.heap.size]? = some (.cells #[vt, vn, .slice avs r.streets.length cvs] 30 (0, 0)) from blk_below hb1 (by simp) (blk_new rfl))
  have HB1 := Lib.hid (((Below.refl w.heap.size w).alloc (Nat.le_refl _) _).trans (hb1.mono (by simp)))
  clear hb1
  go_wp2_with fail
  refine (rfold_yes s _ HV.out).mono ?_
  rintro e w2 ⟨rfl, hb2⟩
  have HX2 := Lib.hid (blk_below hb2 (lt_of_blk HX1.out) HX1.out)
  have HB2 := Lib.hid (HB1.out.trans (hb2.mono HB1.out.size))
  clear hb2 HX1 HB1
  obtain ⟨fl, hfl'⟩ : ∃ fl, foldL s.data.toList = fl := ⟨_, rfl⟩
  rw [hfl'] at hfl HF ⊢
  clear hfl'
  go_wp2_with fail
  refine (rtokens_any ⟨fl.toArray⟩ _ (by rw [mk_size]; omega)).mono ?_
  rw [show (⟨fl.toArray⟩ : ByteArray).data.toList = fl by simp]
  rintro e w3 ⟨v3, rfl, ho⟩
  obtain ⟨hT1, hT2⟩ := toks_len fl (by omega)
  obtain ⟨T, hT⟩ : ∃ T, toks fl = T := ⟨_, rfl⟩
  rw [hT] at ho hT1 hT2 HF
  have HX3 := Lib.hid (blk_below ho.2 (lt_of_blk HX2.out) HX2.out)
  have HB3 := Lib.hid (HB2.out.trans (ho.2.mono HB2.out.size))
  have HV3 := Lib.hid (Vec.owns (S := Any1) (k := 1) (enc := encS) (fun _ => rfl) ho.1 (fun _ _ _ => trivial))
  have HT2 := Lib.hid hT2
  clear ho hT hT2 HX2 HB2
  go_wp2_with fail
  refine (rparts_any Any1 _ T _ HV3.out (by omega)).mono ?_
  rintro e w4 ⟨u, v, rfl, ht⟩
  have hO := List.length_filter_le (fun x => !numB x) T
  have hN := List.length_filter_le numB T
  have hnum : ∀ x ∈ T.filter numB, numB x = true := fun x hx => (List.mem_filter.1 hx).2
  have hnl : ∀ x ∈ T.filter numB, x.length ≤ 64 := fun x hx => HT2.out x (List.mem_filter.1 hx).1
  have hol : ∀ x ∈ T.filter (fun x => !numB x), x.length ≤ 64 := fun x hx => HT2.out x (List.mem_filter.1 hx).1
  have hord := order_parts G3.out T
  have hsum := parts_len T
  rw [hord] at HF
  obtain ⟨O, hOe⟩ : ∃ O, (T.filter fun x => !numB x) = O := ⟨_, rfl⟩
  obtain ⟨N, hNe⟩ : ∃ N, T.filter numB = N := ⟨_, rfl⟩
  rw [hOe] at ht hO hol HF hsum
  rw [hNe] at ht hN hnum hnl HF hsum
  have HSum := Lib.hid hsum; clear hsum
  obtain ⟨au, cu, rfl⟩ := own_slice ht.2.1
  obtain ⟨av, cv, rfl⟩ := own_slice ht.1
  have HT := Lib.hid ht; have HNum := Lib.hid hnum; have HNl := Lib.hid hnl; have HOl := Lib.hid hol
  have z3 := lt_of_blk HX3.out
  clear ht hnum hnl hol hord hOe hNe HV3
  go_wp2_with fail
  go_loopw [11] (fun i wr => ∃ k : Nat, k ≤ O.length ∧ i = .int .i64 k ∧ TwoAt w3 (.slice av N.length cv) (.slice au O.length cu) N (midL (canonL r.streets) O k) wr) (fun i _ => O.length - (intOf i).toNat)
  case atStart => exact ⟨0, by omega, rfl, by simpa [midL] using HT.out⟩
  case round =>
    obtain ⟨k, hk, rfl, ht⟩ := hrel
    have HW := Lib.hid ht.2.2.2
    have HTk := Lib.hid ht
    have HXk := Lib.hid (blk_below ht.2.2.2 z3 HX3.out)
    have zk := lt_of_blk HXk.out
    obtain ⟨p0, p1, p2⟩ := cells3 HXk.out
    clear ht
    by_cases hlt : k < O.length
    · have hq : decide ((k : Int) < O.length) = true := by simp; omega
      have hi : (k : Int) < (O.length : Int) := by omega
      have hml : (midL (canonL r.streets) O k).length = O.length := mid_len _ _ _ hk
      have hown := HTk.out.2.1
      rw [hml] at hown
      obtain ⟨g, rfl, hg1, hg2⟩ := own_ptr hown (by omega)
      have c1 := hown.cellAt k (by omega)
      rw [flat_cell _ k (by omega), mid_get _ _ _ hlt] at c1
      have f1 := hown.frozenAt k
      have hset := mid_set (canonL r.streets) O k hlt _ rfl
      obtain ⟨x, hx⟩ : ∃ x, O.getD k [] = x := ⟨_, rfl⟩
      rw [hx] at c1 hset
      have HSet := Lib.hid hset
      have hK := Lib.hid (fun (W : World) (hW : Below wr.heap.size wr W) => rreplace_any Any1 (.slice avs r.streets.length cvs) r.streets x W (HR.out.2.2.below (HB3.out.trans ((HW.out.trans (hW.mono HW.out.size)).mono HB3.out.size))) (by omega))
      have hst := HTk.out
      rw [← hml] at hst
      have HSt := Lib.hid hst
      have hne : w.heap.size ≠ g := by have := HB3.out.size; omega
      clear hown hset hx hst
      go_wp2_with fail
      go_region_with ((refine (hK.out _ (Below.refl _ _).drew).mono ?_; rintro e w' ⟨rfl, rfl⟩))
      all_goals
        have HN2 := Lib.hid ((HSt.out.store k (canonL r.streets x)).below (Below.refl _ _).drew)
        rw [HSet.out, hml] at HN2
        go_wp2_with fail
        go_roundw
        case rel => exact ⟨k + 1, by omega, by go_num, HN2.out⟩
        case measure => simp [intOf]; omega
    · have hq : decide ((k : Int) < O.length) = false := by simp; omega
      have hmid : midL (canonL r.streets) O k = O.map (canonL r.streets) := by unfold midL; rw [List.take_of_length_le (by omega), List.drop_eq_nil_of_le (by omega), List.append_nil]
      rw [hmid] at HTk
      have hml : (O.map (canonL r.streets)).length = O.length := List.length_map _
      have hsmall : ∀ x ∈ O.map (canonL r.streets), x.length ≤ 64 := by
        intro x hx
        obtain ⟨y, hy, rfl⟩ := List.mem_map.1 hx
        exact canon_len G3.out y (HOl.out y hy)
      obtain ⟨O2, hO2⟩ : ∃ O2, O.map (canonL r.streets) = O2 := ⟨_, rfl⟩
      rw [hO2] at HTk hml hsmall HF
      have HSm := Lib.hid hsmall
      obtain ⟨wo, rfl⟩ : ∃ wo : World, wo = wr := ⟨_, rfl⟩
      clear hmid hO2 hsmall
      go_wp2_with fail
      go_loopw [12] (fun i wr => ∃ k : Nat, k ≤ N.length ∧ i = .int .i64 k ∧ TwoAt w3 (.slice av N.length cv) (.slice au O.length cu) (midL shortL N k) O2 wr) (fun i _ => N.length - (intOf i).toNat)
      case atStart => exact ⟨0, by omega, rfl, by simpa [midL] using HTk.out⟩
      case round =>
        obtain ⟨k, hk2, rfl, ht⟩ := hrel
        have HW2 := Lib.hid ht.2.2.2
        have HTj := Lib.hid ht
        clear ht
        by_cases hlt2 : k < N.length
        · have hq2 : decide ((k : Int) < N.length) = true := by simp; omega
          have hi : (k : Int) < (N.length : Int) := by omega
          have hml2 : (midL shortL N k).length = N.length := mid_len _ _ _ hk2
          have hown := HTj.out.1
          rw [hml2] at hown
          obtain ⟨g, rfl, hg1, hg2⟩ := own_ptr hown (by omega)
          have c1 := hown.cellAt k (by omega)
          rw [flat_cell _ k (by omega), mid_get _ _ _ hlt2] at c1
          have f1 := hown.frozenAt k
          have hset := mid_set shortL N k hlt2 _ rfl
          have hmem : N.getD k [] ∈ N := by rw [List.getD, List.getElem?_eq_getElem hlt2]; exact List.getElem_mem hlt2
          obtain ⟨x, hx⟩ : ∃ x, N.getD k [] = x := ⟨_, rfl⟩
          rw [hx] at c1 hset hmem
          have HSet := Lib.hid hset
          have hst := HTj.out.swap
          rw [← hml2] at hst
          have HSt := Lib.hid hst
          have HK := Lib.hid (fun W => rtrimmed_any x W (HNum.out x hmem) (by have := HNl.out x hmem; omega))
          clear hown hset hx hst hmem
          go_wp2_with fail
          refine (HK.out _).mono ?_
          rintro e w' ⟨rfl, rfl⟩
          have HN2 := Lib.hid ((HSt.out.store k (shortL x)).swap)
          rw [HSet.out, hml2] at HN2
          go_wp2_with fail
          go_roundw
          case rel => exact ⟨k + 1, by omega, by go_num, HN2.out⟩
          case measure => simp [intOf]; omega
        · have hq2 : decide ((k : Int) < N.length) = false := by simp; omega
          have hmid : midL shortL N k = N.map shortL := by unfold midL; rw [List.take_of_length_le (by omega), List.drop_eq_nil_of_le (by omega), List.append_nil]
          rw [hmid] at HTj
          have hml2 : (N.map shortL).length = N.length := List.length_map _
          have hsmall2 : ∀ x ∈ N.map shortL, x.length ≤ 65 := by
            intro x hx
            obtain ⟨y, hy, rfl⟩ := List.mem_map.1 hx
            have := short_len y; have := HNl.out y hy; omega
          obtain ⟨N2, hN2⟩ : ∃ N2, N.map shortL = N2 := ⟨_, rfl⟩
          rw [hN2] at HTj hml2 hsmall2 HF
          have HSm2 := Lib.hid hsmall2
          have ho1 := HTj.out.2.1
          have ho2 := HTj.out.1
          rw [hml] at ho1
          rw [hml2] at ho2
          have HO1 := Lib.hid ho1; have HO2 := Lib.hid ho2
          have hjl := join_le (m := 65) (O2 ++ N2) (fun x hx => by
            rcases List.mem_append.1 hx with hx | hx
            · have := HSm.out x hx; omega
            · have := HSm2.out x hx; omega)
          clear hmid hN2 hsmall2 ho1 ho2
          obtain ⟨i0, hi, hz0, hz1, hz2⟩ := info_parts infoS
          have hlenJ : (O2 ++ N2).length = O.length + N.length := by rw [List.length_append, hml, hml2]
          have hTJ : T.length = (O2 ++ N2).length := by rw [hlenJ]; exact HSum.out.symm
          rw [hTJ] at HF
          have HLJ := Lib.hid hlenJ
          have hJ65 : (O2 ++ N2).length ≤ 65 := by omega
          have hJl : (joinL (O2 ++ N2)).length ≤ 1000000 := by
            have : (O2 ++ N2).length * 66 ≤ 65 * 66 := Nat.mul_le_mul_right 66 hJ65
            omega
          have HHi := Lib.hid hi; have HZ0 := Lib.hid hz0; have HZ1 := Lib.hid hz1; have HZ2 := Lib.hid hz2
          have hbz := HW2.out.size
          have hol2 : O.length ≤ 65 := by omega
          have hnl2 : N.length ≤ 65 := by omega
          clear hTJ hlenJ hjl hi hz0 hz1 hz2 hml hml2
          go_upto_region 16 with (fail)
          go_cut [13] (fun s13 wx => ∃ a c, s13 = .slice a (O2 ++ N2).length c ∧ Vec wx Any1 1 encS s13 (O2 ++ N2) ∧ Below w3.heap.size w3 wx)
          case first =>
            rcases HO2.out.2 with ⟨hv, h0⟩ | ⟨g, cap, cur, hv, hg, hh, _⟩
            · obtain rfl : N = [] := List.length_eq_zero_iff.1 h0
              simp only [Value.slice.injEq, List.length_nil, true_and] at hv
              obtain ⟨rfl, rfl⟩ := hv
              have hfin : wr.ownsRow w3.heap.size 9 1 (.slice au O.length cu) (O2 ++ N2).length ((O2 ++ N2).flatMap encS) := by
                have h1 := HO1.out
                have h2 : N2 = [] := by
                  have := HLJ.out
                  have h3 := HO1.out.1
                  rw [flat_len (k := 1) (enc := encS) (fun _ => rfl)] at h3
                  refine List.length_eq_zero_iff.1 ?_
                  simp only [List.length_append, List.length_nil] at this
                  omega
                rw [h2, List.append_nil]
                have h3 := HO1.out.1
                rw [flat_len (k := 1) (enc := encS) (fun _ => rfl)] at h3
                rw [show O2.length = O.length by omega]; exact h1
              have HFin := Lib.hid (Vec.owns (S := Any1) (k := 1) (enc := encS) (fun _ => rfl) hfin (fun _ _ _ => trivial))
              have hlenO : O.length = (O2 ++ N2).length := by have := HLJ.out; simpa using this.symm
              have HLO := Lib.hid hlenO
              clear h0 hfin hlenO
              go_wp2_with (at_builtin; refine wpList_append_own_none rfl _ _ 27 rfl w3.heap.size 9 i0 1 Tryz.underlying27 HHi.out _ _ _ rfl HO1.out rfl ?_)
              go_meet
              exact ⟨au, cu, by rw [← HLO.out], HFin.out, HW2.out⟩
            · simp only [Value.slice.injEq, true_and] at hv
              obtain ⟨rfl, rfl⟩ := hv
              have hcells := HO2.out
              have hl : (N2.flatMap encS).length = N.length * 1 := HO2.out.1
              have hnews : ∀ j u, (N2.flatMap encS)[j]? = some u → wr.cell? ((⟨g, 0, none⟩ : Addr).add j) = some u := fun j u hu => by
                have hj := (List.getElem?_eq_some_iff.1 hu).1
                rw [add_plain, Nat.zero_add, hcells.cellAt j (by omega)]; exact hu
              have hone : ∀ u ∈ N2.flatMap encS, u.oneCell' = true := by
                intro u hu
                obtain ⟨y, _, hy⟩ := List.mem_flatMap.1 hu
                simp at hy; subst hy; rfl
              have HL := Lib.hid hl; have HNews := Lib.hid hnews; have HOne := Lib.hid hone
              clear hcells hl hnews hone hh
              go_wp2_with (at_builtin; refine wpList_append_own _ rfl _ _ 27 rfl w3.heap.size 9 i0 (.string ⟨#[]⟩) 1 16 Tryz.underlying27 HHi.out HZ0.out HZ1.out HZ2.out rfl (by decide) _ _ _ rfl HO1.out ⟨g, 0, none⟩ N.length _ (N2.flatMap encS) rfl HL.out HNews.out HOne.out (by unfold maxLen; omega) (by omega) hbz ?_; intro v' w8 ho8 hg8 _)
              go_meet
              have ho9 := ho8
              rw [← List.flatMap_append, ← HLJ.out] at ho9
              obtain ⟨a9, c9, rfl⟩ := own_slice ho9
              refine ⟨a9, c9, by rw [HLJ.out], ?_, HW2.out.grown hg8 hbz fun q hq => (HO1.out.lt q hq).1⟩
              rw [HLJ.out] at ho9
              exact Vec.owns (S := Any1) (k := 1) (enc := encS) (fun _ => rfl) (by rw [HLJ.out]; exact ho9) (fun _ _ _ => trivial)
          case rest =>
            obtain ⟨aj, cj, rfl, hvj, hbj⟩ := hcut
            have HVj := Lib.hid hvj
            have HBj := Lib.hid (HB3.out.trans (hbj.mono HB3.out.size))
            clear hvj hbj HO1 HO2 HLJ
            obtain ⟨J, hJ⟩ : ∃ J, O2 ++ N2 = J := ⟨_, rfl⟩
            rw [hJ] at HVj HF hJ65 hJl ⊢
            clear hJ
            go_wp2_with fail
            refine (rjoin_any Any1 _ J _ HVj.out (by omega) (by omega)).mono ?_
            rintro e w' ⟨rfl, rfl⟩
            obtain ⟨Q, hQ⟩ : ∃ Q, joinL J = Q := ⟨_, rfl⟩
            rw [hQ] at HF hJl ⊢
            clear hQ
            by_cases g1 : 6 < J.length
            · have d1 : decide ((6 : Int) < J.length) = true := by simp; omega
              rw [if_pos (.inl g1)] at HF
              go_wp2_with fail
              go_ret2
              exact ⟨by rw [HF.out]; rfl, HBj.out⟩
            · have d1 : decide ((6 : Int) < J.length) = false := by simp; omega
              by_cases g2 : 64 < Q.length
              · have d2 : decide ((64 : Int) < Q.length) = true := by simp; omega
                rw [if_pos (.inr g2)] at HF
                go_wp2_with fail
                go_ret2
                exact ⟨by rw [HF.out]; rfl, HBj.out⟩
              · have d2 : decide ((64 : Int) < Q.length) = false := by simp; omega
                rw [if_neg (by omega)] at HF
                go_wp2_with fail
                go_ret2
                exact ⟨by rw [HF.out]; rfl, HBj.out⟩
set_option maxHeartbeats 1000000 in
theorem raddr_no (S : Nat → Prop) (vt vn vs : Value) (r : RulesL) (s : ByteArray) (w : World) (h : RulesAt w S vt vn vs r) (hs : s.size ≤ 9223372036854775000) (hc : checkR r = 0) (hv : foldV s.data.toList = false) :
    Calls Tryz.prog 122 #[.agg #[vt, vn, vs], .string s] w fun e w' => e = .returned (pairV (addrN r s.data.toList)) ∧ Below w.heap.size w w' := by
  have HR := Lib.hid h.any
  have HC := Lib.hid hc; have HV := Lib.hid hv
  clear h hc hv
  have HF := Lib.hid (show addrN r s.data.toList = ([], 3) by unfold addrN; rw [if_pos HC.out, if_neg (by rw [HV.out]; simp)])
  go_enter Tryz.func122, Tryz.ntmps122
  go_wp2_with fail
  refine (rncheck_any Any1 vt vn vs r _ (HR.out.below ((Below.refl _ _).alloc (Nat.le_refl _) _))).mono ?_
  rw [HC.out]
  rintro e w1 ⟨rfl, hb1⟩
  have HB1 := Lib.hid (((Below.refl w.heap.size w).alloc (Nat.le_refl _) _).trans (hb1.mono (by simp)))
  clear hb1
  go_wp2_with fail
  refine (rfold_no s _ hs HV.out).mono ?_
  rintro e w2 ⟨rfl, hb2⟩
  have HB2 := Lib.hid (HB1.out.trans (hb2.mono HB1.out.size))
  clear hb2 HB1
  go_wp2_with fail
  go_ret2
  exact ⟨by rw [HF.out]; rfl, HB2.out⟩
set_option maxHeartbeats 1000000 in
theorem raddr_bad (S : Nat → Prop) (vt vn vs : Value) (r : RulesL) (s : ByteArray) (w : World) (h : RulesAt w S vt vn vs r) (hc : checkR r ≠ 0) :
    Calls Tryz.prog 122 #[.agg #[vt, vn, vs], .string s] w fun e w' => e = .returned (pairV (addrN r s.data.toList)) ∧ Below w.heap.size w w' := by
  have HR := Lib.hid h.any
  have HF := Lib.hid (show addrN r s.data.toList = ([], checkR r) by unfold addrN; rw [if_neg hc])
  have hne : (checkR r != 0) = true := by simpa using hc
  clear h hc
  go_enter Tryz.func122, Tryz.ntmps122
  go_wp2_with fail
  refine (rncheck_any Any1 vt vn vs r _ (HR.out.below ((Below.refl _ _).alloc (Nat.le_refl _) _))).mono ?_
  obtain ⟨c, hcc⟩ : ∃ c, checkR r = c := ⟨_, rfl⟩
  rw [hcc] at hne HF ⊢
  clear hcc
  rintro e w1 ⟨rfl, hb1⟩
  have HB1 := Lib.hid (((Below.refl w.heap.size w).alloc (Nat.le_refl _) _).trans (hb1.mono (by simp)))
  clear hb1
  go_wp2_with fail
  go_ret2
  exact ⟨by rw [HF.out]; rfl, HB1.out⟩
theorem raddr_any (S : Nat → Prop) (vt vn vs : Value) (r : RulesL) (s : ByteArray) (w : World) (h : RulesAt w S vt vn vs r) (hs : s.size ≤ 9223372036854775000) :
    Calls Tryz.prog 122 #[.agg #[vt, vn, vs], .string s] w fun e w' => e = .returned (pairV (addrN r s.data.toList)) ∧ Below w.heap.size w w' := by
  by_cases hc : checkR r = 0
  · cases hv : foldV s.data.toList with
    | true => exact raddr_yes S vt vn vs r s w h hc hv
    | false => exact raddr_no S vt vn vs r s w h hs hc hv
  · exact raddr_bad S vt vn vs r s w h hc
set_option maxHeartbeats 1000000 in
theorem ranormal_any (S : Nat → Prop) (vt vn vs : Value) (r : RulesL) (s : ByteArray) (w : World) (h : RulesAt w S vt vn vs r) (hs : s.size ≤ 9223372036854775000) :
    Calls Tryz.prog 253 #[.agg #[vt, vn, vs], .string s] w fun e w' => e = .returned (.bool (isOwn (addrN r s.data.toList) s.data.toList)) ∧ Below w.heap.size w w' := by
  have HR := Lib.hid h.any; clear h
  have HS := Lib.hid (Lib.toList_data s)
  go_enter Tryz.func253, Tryz.ntmps253
  go_wp2_with fail
  refine (raddr_any Any1 vt vn vs r s _ (HR.out.below ((Below.refl _ _).alloc (Nat.le_refl _) _)) hs).mono ?_
  obtain ⟨p, hp⟩ : ∃ p, addrN r s.data.toList = p := ⟨_, rfl⟩
  rw [hp]
  have HP := Lib.hid hp; clear hp
  obtain ⟨pl, pe⟩ := p
  unfold pairV
  rintro e w1 ⟨rfl, hb1⟩
  have HB1 := Lib.hid (((Below.refl w.heap.size w).alloc (Nat.le_refl _) _).trans (hb1.mono (by simp)))
  clear hb1
  cases he : (pe == 0)
  all_goals
    go_wp2_with fail
    go_ret
    refine ⟨ret_bool ?_, HB1.out⟩
    rw [HP.out]
    simp [isOwn, he, HS.out]
end Go.Proofs.YtmakailcpkogdaaGreatDoor
end
section
/- Contracts of the reference of dates (recordlinkref03): length, Valid, number, made, Read, Parse: as those of the program. -/
set_option linter.unusedSimpArgs false
set_option linter.unusedVariables false
namespace Go.Proofs.YtmakailcpkogdaaGreatDoor
open Go.RowKit Cal
set_option maxHeartbeats 1000000 in
theorem rlen_any (y m : Int) (w : World) (h : 0 ≤ y) (h1 : 1 ≤ m) (h2 : m ≤ 12) :
    Calls Tryz.prog 117 #[.int .i64 y, .int .i64 m] w fun e w' => e = .returned (.int .i64 (dim y m)) ∧ w = w' := by
  go_enter Tryz.func117, Tryz.ntmps117
  go_wp2
  all_goals go_ret
  all_goals refine ⟨ret_int ?_, rfl⟩
  all_goals simp only [beq_iff_eq, beq_eq_false_iff_ne, ne_eq, bne_iff_ne] at *
  all_goals simp [dim, leapB, *]
set_option maxHeartbeats 1000000 in
theorem rvalid_no (y m d : Int) (w : World) (hv : vldB y m d = false) :
    Calls Tryz.prog 65 #[.agg #[.int .i64 y, .int .i64 m, .int .i64 d]] w fun e w' => e = .returned (.bool false) ∧ Below w.heap.size w w' := by
  have hh : decide (1800 ≤ y) = false ∨ (1800 ≤ y ∧ decide (y ≤ 2199) = false) ∨ (1800 ≤ y ∧ y ≤ 2199 ∧ decide (1 ≤ m) = false) ∨ (1800 ≤ y ∧ y ≤ 2199 ∧ 1 ≤ m ∧ decide (m ≤ 12) = false) ∨ (1800 ≤ y ∧ y ≤ 2199 ∧ 1 ≤ m ∧ m ≤ 12 ∧ decide (1 ≤ d) = false) ∨ (1800 ≤ y ∧ y ≤ 2199 ∧ 1 ≤ m ∧ m ≤ 12 ∧ 1 ≤ d ∧ decide (d ≤ dim y m) = false) := by
    have := vld_iff y m d
    rw [hv] at this
    simp at this ⊢
    omega
  clear hv
  rcases hh with h | ⟨_, h⟩ | ⟨_, _, h⟩ | ⟨_, _, _, h⟩ | ⟨_, _, _, _, h⟩ | ⟨_, _, _, _, _, h⟩
  iterate 5
    · go_enter Tryz.func65, Tryz.ntmps65
      go_wp2
      go_quiet (fail)
      go_wp2
      go_ret
      exact ⟨rfl, below_drewN ((Below.refl _ _).alloc (Nat.le_refl _) _) _⟩
  go_enter Tryz.func65, Tryz.ntmps65
  go_wp2
  go_quiet ((go_at_call 117; exact quiet_eq (rlen_any _ _ _ (by omega) (by omega) (by omega))))
  go_wp2
  go_ret
  exact ⟨rfl, below_drewN ((Below.refl _ _).alloc (Nat.le_refl _) _) _⟩
set_option maxHeartbeats 1000000 in
theorem rvalid_yes (y m d : Int) (w : World) (hv : vldB y m d = true) :
    Calls Tryz.prog 65 #[.agg #[.int .i64 y, .int .i64 m, .int .i64 d]] w fun e w' => e = .returned (.bool true) ∧ Below w.heap.size w w' := by
  obtain ⟨h1, h2, h3, h4, h5, h6⟩ := (vld_iff y m d).1 hv
  clear hv
  go_enter Tryz.func65, Tryz.ntmps65
  go_wp2
  go_quiet ((go_at_call 117; exact quiet_eq (rlen_any _ _ _ (by omega) (by omega) (by omega))))
  go_wp2
  go_ret
  exact ⟨rfl, below_drewN ((Below.refl _ _).alloc (Nat.le_refl _) _) _⟩
theorem rvalid_any (y m d : Int) (w : World) :
    Calls Tryz.prog 65 #[.agg #[.int .i64 y, .int .i64 m, .int .i64 d]] w fun e w' => e = .returned (.bool (vldB y m d)) ∧ Below w.heap.size w w' := by
  cases h : vldB y m d with
  | true => exact rvalid_yes y m d w h
  | false => exact rvalid_no y m d w h

set_option maxHeartbeats 400000 in
theorem rnumber_any (s : ByteArray) (w : World) (hs : s.size ≤ 4) :
    Calls Tryz.prog 229 #[.string s] w fun e w' => e = .returned (.tuple #[.int .i64 ((numFrom 0 s.data.toList).getD 0), .bool (numFrom 0 s.data.toList).isSome]) ∧ w = w' := by
  go_enter Tryz.func229, Tryz.ntmps229
  go_wp2
  go_loop [4, 5] (fun n i => ∃ (k : Nat) (N : Int), k ≤ s.size ∧ i = .int .i64 k ∧ n = .int .i64 N ∧ numFrom 0 (s.data.toList.take k) = some N ∧ 0 ≤ N ∧ N < 10 ^ k) (fun _ i => s.size - (intOf i).toNat)
  case atStart => exact ⟨0, 0, Nat.zero_le _, rfl, rfl, rfl, by decide, by decide⟩
  case round =>
    obtain ⟨k, N, hk, rfl, rfl, hN, h0, h1⟩ := hrel
    have HN := Lib.hid hN; clear hN
    have hp : (10 : Int) ^ k ≤ 10000 := by
      have : k = 0 ∨ k = 1 ∨ k = 2 ∨ k = 3 ∨ k = 4 := by omega
      rcases this with rfl | rfl | rfl | rfl | rfl <;> decide
    have hN4 : N < 10000 := by omega
    have H1 := Lib.hid h1; clear h1 hp
    by_cases hlt : k < s.size
    · go_wp2
      · go_ret2
        exact ⟨by have := numFrom_bad s k hlt N HN.out (by omega); rw [this]; rfl, rfl⟩
      · have hs := numFrom_snoc s k hlt N HN.out
        rw [if_pos ‹_›] at hs
        have h1 := H1.out
        have e1 : (10 : Int) ^ (k + 1) = 10 ^ k * 10 := by rw [Int.pow_succ]
        go_round
        case rel => exact ⟨k + 1, _, by omega, by go_num, rfl, hs, by omega, by omega⟩
        case measure => simp [intOf]; omega
      · go_ret2
        exact ⟨by have := numFrom_bad s k hlt N HN.out (by omega); rw [this]; rfl, rfl⟩
    · go_wp2
      go_ret2
      obtain rfl : k = s.size := by omega
      exact ⟨by have := HN.out; rw [List.take_of_length_le (by simp)] at this; rw [this]; rfl, rfl⟩
theorem numI_none {l : List UInt8} (h : numFrom 0 l = none) : numI l = -1 := by simp [numI, h]
theorem numI_some {l : List UInt8} {N : Int} (h : numFrom 0 l = some N) : numI l = N := by simp [numI, h]
theorem dateR_no {a b c : List UInt8} (h : vldB (numI a) (numI b) (numI c) = false) : dateL a b c = .tuple #[.agg #[.int .i64 0, .int .i64 0, .int .i64 0], .int .i64 4] := by
  unfold dateL dateR dateV; rw [h]; rfl
theorem dateR_yes {a b c : List UInt8} (h : vldB (numI a) (numI b) (numI c) = true) : dateL a b c = .tuple #[.agg #[.int .i64 (numI a), .int .i64 (numI b), .int .i64 (numI c)], .int .i64 0] := by
  unfold dateL dateR dateV; rw [h]; rfl
set_option maxHeartbeats 2000000 in
theorem rmade_any (a b c : ByteArray) (w : World) (ha : a.size ≤ 4) (hb : b.size ≤ 4) (hc : c.size ≤ 4) :
    Calls Tryz.prog 182 #[.string a, .string b, .string c] w fun e w' => e = .returned (dateR (numI a.data.toList) (numI b.data.toList) (numI c.data.toList) 4) ∧ Below w.heap.size w w' := by
  have Ka := fun w => Lib.hid (rnumber_any a w ha)
  have Kb := fun w => Lib.hid (rnumber_any b w hb)
  have Kc := fun w => Lib.hid (rnumber_any c w hc)
  rw [show dateR (numI a.data.toList) (numI b.data.toList) (numI c.data.toList) 4 = dateL a.data.toList b.data.toList c.data.toList from rfl]
  have bad : (numFrom 0 a.data.toList).isSome = false ∨ (numFrom 0 b.data.toList).isSome = false ∨ (numFrom 0 c.data.toList).isSome = false → vldB (numI a.data.toList) (numI b.data.toList) (numI c.data.toList) = false := by
    intro h
    have : ¬ vldB (numI a.data.toList) (numI b.data.toList) (numI c.data.toList) = true := by
      rw [vld_iff]
      simp only [Option.isSome_eq_false_iff, Option.isNone_iff_eq_none] at h
      rcases h with h | h | h <;> (have := numI_none h; omega)
    simpa using this
  by_cases hall : (numFrom 0 a.data.toList).isSome = true ∧ (numFrom 0 b.data.toList).isSome = true ∧ (numFrom 0 c.data.toList).isSome = true
  · obtain ⟨h1, h2, h3⟩ := hall
    have e1 : (numFrom 0 a.data.toList).getD 0 = numI a.data.toList := by obtain ⟨N, h⟩ := Option.isSome_iff_exists.1 h1; rw [numI_some h, h]; rfl
    have e2 : (numFrom 0 b.data.toList).getD 0 = numI b.data.toList := by obtain ⟨N, h⟩ := Option.isSome_iff_exists.1 h2; rw [numI_some h, h]; rfl
    have e3 : (numFrom 0 c.data.toList).getD 0 = numI c.data.toList := by obtain ⟨N, h⟩ := Option.isSome_iff_exists.1 h3; rw [numI_some h, h]; rfl
    simp only [h1, e1] at Ka; simp only [h2, e2] at Kb; simp only [h3, e3] at Kc
    clear h1 h2 h3 e1 e2 e3 bad
    cases hv : vldB (numI a.data.toList) (numI b.data.toList) (numI c.data.toList)
    all_goals
      first | rw [dateR_no hv] | rw [dateR_yes hv]
      first | have KV := fun w => Lib.hid (rvalid_no _ _ _ w hv) | have KV := fun w => Lib.hid (rvalid_yes _ _ _ w hv)
      clear hv
      go_enter Tryz.func182, Tryz.ntmps182
      go_wp2_with fail
      refine (Ka _).out.mono ?_; rintro e w' ⟨rfl, rfl⟩
      go_wp2_with fail
      refine (Kb _).out.mono ?_; rintro e w' ⟨rfl, rfl⟩
      go_wp2_with fail
      refine (Kc _).out.mono ?_; rintro e w' ⟨rfl, rfl⟩
      go_wp2_with fail
      refine (KV _).out.mono ?_; rintro e w1 ⟨rfl, hb1⟩
      obtain ⟨hc1, hf1⟩ := bcell hb1
      have hz1 : w.heap.size + 1 < w1.heap.size := by have := hb1.size; simp at this; omega
      go_wp2_with fail
      have hg : w1.heap[w.heap.size]? = some (.cells #[.int .i64 0, .int .i64 0, .int .i64 0] 45 (0, 0)) := blk_below hb1 (by simp; omega) (blk_old (blk_new rfl))
      exact bodyPost_row2 rfl rfl (blk_set (blk_set (blk_set hg))) Tryz.underlying45 rfl (by kernel_rfl) ⟨rfl, ((((((Below.refl _ _).alloc (Nat.le_refl _) _).alloc (by simp) _).trans (hb1.mono (by simp; omega))).setCell (by simp) _).setCell (by simp) _).setCell (by simp) _⟩
  · have hcase : (numFrom 0 a.data.toList).isSome = false ∨ ((numFrom 0 a.data.toList).isSome = true ∧ (numFrom 0 b.data.toList).isSome = false) ∨ ((numFrom 0 a.data.toList).isSome = true ∧ (numFrom 0 b.data.toList).isSome = true ∧ (numFrom 0 c.data.toList).isSome = false) := by
      cases h1 : (numFrom 0 a.data.toList).isSome <;> cases h2 : (numFrom 0 b.data.toList).isSome <;> cases h3 : (numFrom 0 c.data.toList).isSome <;> simp_all
    have hbad := bad (by rcases hcase with h | ⟨_, h⟩ | ⟨_, _, h⟩ <;> simp [h])
    rw [dateR_no hbad]
    clear bad hall hbad
    rcases hcase with h1 | ⟨h1, h2⟩ | ⟨h1, h2, h3⟩
    all_goals
      try simp only [h1] at Ka
      try simp only [h2] at Kb
      try simp only [h3] at Kc
      try clear h1
      try clear h2
      try clear h3
      go_enter Tryz.func182, Tryz.ntmps182
      go_wp2_with fail
      refine (Ka _).out.mono ?_; rintro e w' ⟨rfl, rfl⟩
      go_wp2_with fail
      refine (Kb _).out.mono ?_; rintro e w' ⟨rfl, rfl⟩
      go_wp2_with fail
      refine (Kc _).out.mono ?_; rintro e w' ⟨rfl, rfl⟩
      go_wp2_with fail
      exact bodyPost_row2 rfl rfl (blk_old (blk_new rfl)) Tryz.underlying45 rfl (by kernel_rfl) ⟨rfl, ((Below.refl _ _).alloc (Nat.le_refl _) _).alloc (by simp) _⟩
set_option maxHeartbeats 1000000 in
theorem rread_any (s : ByteArray) (w : World) :
    Calls Tryz.prog 254 #[.string s] w fun e w' => e = .returned (bif decide (s.size = 8) then dateL (s.data.toList.take 4) ((s.data.toList.drop 4).take 2) ((s.data.toList.drop 6).take 2) else dateV false 0 0 0 4) ∧ Below w.heap.size w w' := by
  by_cases h : s.size = 8
  · have hs : ((s.size : Int) == 8) = true := by simp; omega
    simp only [h, decide_true, cond_true]
    go_enter Tryz.func254, Tryz.ntmps254
    go_wp2
    go_region_held3 (fun _ => True) (trivial) (first | (go_at_call 182; refine (rmade_any _ _ _ _ (by simp; omega) (by simp; omega) (by simp; omega)).mono ?_; rintro e w1 ⟨rfl, hb1⟩; obtain ⟨hc1, hf1⟩ := bcell hb1; have hz1 : w.heap.size < w1.heap.size := (by have := hb1.size; simp at this; omega)))
    go_wp2
    have hg : w1.heap[w.heap.size]? = some (.cells #[.int .i64 0, .int .i64 0, .int .i64 0] 45 (0, 0)) := blk_below hb1 (by simp) (heap_alloc_new _ _)
    exact bodyPost_row2 rfl rfl (blk_set (blk_set (blk_set hg))) Tryz.underlying45 rfl (by kernel_rfl) ⟨rfl, (((((Below.refl _ _).alloc (Nat.le_refl _) _).drew.trans (hb1.mono (by simp))).setCell (by simp) _).setCell (by simp) _).setCell (by simp) _⟩
  · have hs : ((s.size : Int) == 8) = false := by simp; omega
    simp only [h, decide_false, cond_false]
    go_enter Tryz.func254, Tryz.ntmps254
    go_wp2
    exact bodyPost_row2 rfl rfl (heap_alloc_new _ _) Tryz.underlying45 rfl (by kernel_rfl) ⟨rfl, ((Below.refl _ _).alloc (Nat.le_refl _) _)⟩

set_option maxHeartbeats 4000000 in
theorem rparse_ten (s : ByteArray) (w : World) (h : s.size = 10) :
    Calls Tryz.prog 123 #[.string s] w fun e w' => e = .returned (parseV s) ∧ Below w.heap.size w w' := by
  have hs : ((s.size : Int) == 10) = true := by simp; omega
  go_enter Tryz.func123, Tryz.ntmps123
  go_wp2
  all_goals
    have e2 := byteAt_get s 2 (by omega)
    have e4 := byteAt_get s 4 (by omega)
    have e5 := byteAt_get s 5 (by omega)
    have e7 := byteAt_get s 7 (by omega)
  all_goals
    first
    | exact bodyPost_row2 rfl rfl (heap_alloc_new _ _) Tryz.underlying45 rfl (by kernel_rfl) ⟨congrArg Ending.returned (by (try simp only [beq_iff_eq, beq_eq_false_iff_ne, ne_eq] at *); simp [parseV, pk_false, cd_false, *]; try rfl), ((Below.refl _ _).alloc (Nat.le_refl _) _)⟩
    | (clear e2 e4 e5 e7
       go_region_held3 (fun _ => True) (trivial) (first | (go_at_call 182; refine (rmade_any _ _ _ _ (by simp; omega) (by simp; omega) (by simp; omega)).mono ?_; rintro e w1 ⟨rfl, hb1⟩; obtain ⟨hc1, hf1⟩ := bcell hb1; have hz1 : w.heap.size < w1.heap.size := (by have := hb1.size; simp at this; omega)))
       go_wp2
       have hg : w1.heap[w.heap.size]? = some (.cells #[.int .i64 0, .int .i64 0, .int .i64 0] 45 (0, 0)) := blk_below hb1 (by simp) (heap_alloc_new _ _)
       have e2 := byteAt_get s 2 (by omega)
       have e4 := byteAt_get s 4 (by omega)
       have e5 := byteAt_get s 5 (by omega)
       have e7 := byteAt_get s 7 (by omega)
       exact bodyPost_row2 rfl rfl (blk_set (blk_set (blk_set hg))) Tryz.underlying45 rfl (by kernel_rfl) ⟨congrArg Ending.returned (by (try simp only [beq_iff_eq, beq_eq_false_iff_ne, ne_eq] at *); simp [parseV, pk_false, cd_false, *]; try rfl), (((((Below.refl _ _).alloc (Nat.le_refl _) _).drew.trans (hb1.mono (by simp))).setCell (by simp) _).setCell (by simp) _).setCell (by simp) _⟩)
theorem rparse_any (s : ByteArray) (w : World) :
    Calls Tryz.prog 123 #[.string s] w fun e w' => e = .returned (parseV s) ∧ Below w.heap.size w w' := by
  by_cases h : s.size = 10
  · exact rparse_ten s w h
  · have hs : ((s.size : Int) == 10) = false := by simp; omega
    rw [parseV, if_neg h]
    go_enter Tryz.func123, Tryz.ntmps123
    go_wp2
    exact bodyPost_row2 rfl rfl (heap_alloc_new _ _) Tryz.underlying45 rfl (by kernel_rfl) ⟨rfl, ((Below.refl _ _).alloc (Nat.le_refl _) _)⟩
end Go.Proofs.YtmakailcpkogdaaGreatDoor
end
section
/- Contracts of date.Age and date.Swapped: for all dates. -/
set_option linter.unusedSimpArgs false
set_option linter.unusedVariables false
namespace Go.Proofs.YtmakailcpkogdaaGreatDoor
open Go.RowKit Cal
/-- the age in years, of two valid dates -/
def ageI (y m d y' m' d' : Int) : Int := bif befB m' d' m d then y' - y - 1 else y' - y
def ageV (y m d y' m' d' : Int) : Value :=
  if vldB y m d = true ∧ vldB y' m' d' = true then (if ageI y m d y' m' d' < 0 then .tuple #[.int .i64 0, .int .i64 2] else .tuple #[.int .i64 (ageI y m d y' m' d'), .int .i64 0]) else .tuple #[.int .i64 0, .int .i64 4]
def swV (y m d : Int) : Value :=
  if vldB y m d = true ∧ vldB y d m = true then .tuple #[.agg #[.int .i64 y, .int .i64 d, .int .i64 m], .bool true] else .tuple #[.agg #[.int .i64 0, .int .i64 0, .int .i64 0], .bool false]
end Go.Proofs.YtmakailcpkogdaaGreatDoor
end
section
/- Contracts of date.Day and date.FromDay: for every date and every number. -/
set_option linter.unusedSimpArgs false
set_option linter.unusedVariables false
namespace Go.Proofs.YtmakailcpkogdaaGreatDoor
open Go.RowKit Cal
def FromPost (n : Int) (w : World) (e : Ending) (w' : World) : Prop :=
  (∃ y m d : Int, e = .returned (.tuple #[.agg #[.int .i64 y, .int .i64 m, .int .i64 d], .int .i64 0]) ∧ vldB y m d = true ∧ num y m d = n) ∧ Below w.heap.size w w'
end Go.Proofs.YtmakailcpkogdaaGreatDoor
end
section
/- Contracts of the reference of dates (recordlinkref03): two, Format, Day, FromDay, Swapped, Age: as those of the program. -/
set_option linter.unusedSimpArgs false
set_option linter.unusedVariables false
namespace Go.Proofs.YtmakailcpkogdaaGreatDoor
open Go.RowKit Cal
theorem hcv_two (n : Int) (h0 : 0 ≤ n) (h1 : n ≤ 99) : ∀ w : World, (convert 73 9 (.slice (some ⟨w.heap.size, 0, none⟩) 2 2)).run Tryz.prog (w.alloc (.cells #[.int .u8 (48 + n / 10), .int .u8 (48 + n % 10)] 5)) = .ok (.string ⟨(dg n 2).toArray⟩) (w.alloc (.cells #[.int .u8 (48 + n / 10), .int .u8 (48 + n % 10)] 5)) := by
  intro w
  have ho := owns_new (w := w) (B := 0) (e := 5) (dg n 2) (Nat.zero_le _) (by rw [dg_len]; omega)
  rw [dg_len] at ho
  have e1 : (dg n 2).map byteV = [.int .u8 (48 + n / 10), .int .u8 (48 + n % 10)] := by
    simp only [dg, List.nil_append, List.cons_append, List.map_cons, List.map_nil]
    rw [dgb _ (by omega), dgb _ h0]
    have : n / 10 % 10 = n / 10 := by omega
    rw [this]
  rw [e1] at ho
  exact run_convert_owned (dg n 2) (by rw [e1]; exact ho) Tryz.underlying73 Tryz.underlying5 Tryz.underlying9
set_option maxHeartbeats 400000 in
theorem rtwo_any (n : Int) (w : World) (h0 : 0 ≤ n) (h1 : n ≤ 99) :
    Calls Tryz.prog 183 #[.int .i64 n] w fun e w' => e = .returned (.string ⟨(dg n 2).toArray⟩) ∧ Below w.heap.size w w' := by
  have ha : 0 ≤ n / 10 ∧ n / 10 ≤ 9 := by omega
  have hb : 0 ≤ n % 10 ∧ n % 10 ≤ 9 := by omega
  obtain ⟨ha1, ha2⟩ := ha
  obtain ⟨hb1, hb2⟩ := hb
  have hcv := hcv_two n h0 h1
  go_enter Tryz.func183, Tryz.ntmps183
  go_wp2
  go_ret
  exact ⟨rfl, (Below.refl _ _).alloc (Nat.le_refl _) _⟩
attribute [local go_sem] dg_len bytes_append
set_option maxHeartbeats 2000000 in
theorem rformat_yes (y m d : Int) (w : World) (hv : vldB y m d = true) :
    Calls Tryz.prog 124 #[.agg #[.int .i64 y, .int .i64 m, .int .i64 d]] w fun e w' => e = .returned (.tuple #[.string ⟨(digits8 y m d).toArray⟩, .int .i64 0]) ∧ Below w.heap.size w w' := by
  obtain ⟨b1, b2, b3, b4, b5, b6⟩ := vld_bd hv
  have q1 : 0 ≤ y / 100 ∧ y / 100 ≤ 99 := by omega
  have q2 : 0 ≤ y % 100 ∧ y % 100 ≤ 99 := by omega
  obtain ⟨q1, q1'⟩ := q1
  obtain ⟨q2, q2'⟩ := q2
  have HD : Hid (dg (y / 100) 2 ++ (dg (y % 100) 2 ++ (dg m 2 ++ dg d 2)) = digits8 y m d) := by
    show _ = _
    rw [dg_mod y (by omega), digits8, dg_two y]; simp
  have KV := fun w => Lib.hid (rvalid_yes y m d w hv)
  clear hv
  have m99 : m ≤ 99 := by omega
  have d99 : d ≤ 99 := by omega
  have d0 : 0 ≤ d := by omega
  have m0 : 0 ≤ m := by omega
  have e1 : IntKind.i64.wrap (y.tdiv 100) = y / 100 := by rw [Int.tdiv_eq_ediv_of_nonneg (by omega)]; exact IntWalk.i64_in _ ⟨by omega, by omega⟩
  have e2 : y.tmod 100 = y % 100 := Int.tmod_eq_emod_of_nonneg (by omega)
  go_enter Tryz.func124, Tryz.ntmps124
  go_wp2_with fail
  refine (KV _).out.mono ?_; rintro e w0 ⟨rfl, hb0⟩
  have z0 : w.heap.size < w0.heap.size := by clear e1 e2; have := hb0.size; simp at this; omega
  have HB0 := Lib.hid (((Below.refl _ _).alloc (Nat.le_refl _) _).trans (hb0.mono (by simp))).drew
  have c00 : w0.cell? ⟨w.heap.size, 0, none⟩ = some (.int .i64 y) := (hb0.cell (p := ⟨w.heap.size, 0, none⟩) (by simp)).trans (by simp)
  have c10 : w0.cell? ⟨w.heap.size, 1, none⟩ = some (.int .i64 m) := (hb0.cell (p := ⟨w.heap.size, 1, none⟩) (by simp)).trans (by simp)
  have c20 : w0.cell? ⟨w.heap.size, 2, none⟩ = some (.int .i64 d) := (hb0.cell (p := ⟨w.heap.size, 2, none⟩) (by simp)).trans (by simp)
  clear hb0
  go_wp2_with fail
  refine wp_region_noPanic ?_
  refine wp_region_held_drew (S := (fun w' => w'.cell? ⟨w.heap.size, 0, none⟩ = some (.int .i64 y) ∧ w'.cell? ⟨w.heap.size, 1, none⟩ = some (.int .i64 m) ∧ w'.cell? ⟨w.heap.size, 2, none⟩ = some (.int .i64 d))) (by kernel_rfl) (⟨c00, c10, c20⟩) (fun hHeld => ?_)
  refine wpAnyH_take (i := 0) (v := ?_) rfl (by kernel_rfl) (by kernel_rfl) (by kernel_rfl) (fun _ _ _ h => h) (Or.inl ⟨by rfl, ?_⟩) (by assumption) ?_
  rotate_left 1
  · (intro wS hSw; (try dsimp only at hSw); go_simp; try with_reducible rfl)
  try simp only [List.getElem_toArray, List.getElem_cons_zero, List.getElem_cons_succ, Act.put, List.setIfInBounds_toArray, List.set_cons_zero, List.set_cons_succ]
  refine wpAnyH_take (i := 1) (v := ?_) rfl (by kernel_rfl) (by kernel_rfl) (by kernel_rfl) (fun _ _ _ h => h) (Or.inl ⟨by rfl, ?_⟩) (by assumption) ?_
  rotate_left 1
  · (intro wS hSw; (try dsimp only at hSw); go_simp; try with_reducible rfl)
  try simp only [List.getElem_toArray, List.getElem_cons_zero, List.getElem_cons_succ, Act.put, List.setIfInBounds_toArray, List.set_cons_zero, List.set_cons_succ]
  refine wpAnyH_take (i := 2) (v := ?_) rfl (by kernel_rfl) (by kernel_rfl) (by kernel_rfl) (fun _ _ _ h => h) (Or.inl ⟨by rfl, ?_⟩) (by assumption) ?_
  rotate_left 1
  · (intro wS hSw; (try dsimp only at hSw); go_simp; try with_reducible rfl)
  try simp only [List.getElem_toArray, List.getElem_cons_zero, List.getElem_cons_succ, Act.put, List.setIfInBounds_toArray, List.set_cons_zero, List.set_cons_succ]
  refine wpAnyH_take (i := 4) (v := ?_) rfl (by kernel_rfl) (by kernel_rfl) (by kernel_rfl) (fun _ _ _ h => h) (Or.inl ⟨by rfl, ?_⟩) (by assumption) ?_
  rotate_left 1
  · (intro wS hSw; (try dsimp only at hSw); go_simp; try with_reducible rfl)
  try simp only [List.getElem_toArray, List.getElem_cons_zero, List.getElem_cons_succ, Act.put, List.setIfInBounds_toArray, List.set_cons_zero, List.set_cons_succ]
  refine wpAnyH_take (i := 5) (v := ?_) rfl (by kernel_rfl) (by kernel_rfl) (by kernel_rfl) (fun _ _ _ h => h) (Or.inl ⟨by rfl, ?_⟩) (by assumption) ?_
  rotate_left 1
  · (intro wS hSw; (try dsimp only at hSw); go_simp; try with_reducible rfl)
  try simp only [List.getElem_toArray, List.getElem_cons_zero, List.getElem_cons_succ, Act.put, List.setIfInBounds_toArray, List.set_cons_zero, List.set_cons_succ]
  refine wpAnyH_take (i := 6) (v := ?_) rfl (by kernel_rfl) (by kernel_rfl) (by kernel_rfl) (fun _ _ _ h => h) (Or.inl ⟨by rfl, ?_⟩) (by assumption) ?_
  rotate_left 1
  · (intro wS hSw; (try dsimp only at hSw); go_simp; try with_reducible rfl)
  try simp only [List.getElem_toArray, List.getElem_cons_zero, List.getElem_cons_succ, Act.put, List.setIfInBounds_toArray, List.set_cons_zero, List.set_cons_succ]
  refine wpAnyH_take (i := 9) (v := ?_) rfl (by kernel_rfl) (by kernel_rfl) (by kernel_rfl) (fun _ _ _ h => h) (Or.inl ⟨by rfl, ?_⟩) (by assumption) ?_
  rotate_left 1
  · (intro wS hSw; (try dsimp only at hSw); go_simp; try with_reducible rfl)
  try simp only [List.getElem_toArray, List.getElem_cons_zero, List.getElem_cons_succ, Act.put, List.setIfInBounds_toArray, List.set_cons_zero, List.set_cons_succ]
  refine wpAnyH_take (i := 10) (v := ?_) rfl (by kernel_rfl) (by kernel_rfl) (by kernel_rfl) (fun _ _ _ h => h) (Or.inl ⟨by rfl, ?_⟩) (by assumption) ?_
  rotate_left 1
  · (intro wS hSw; (try dsimp only at hSw); go_simp; try with_reducible rfl)
  try simp only [List.getElem_toArray, List.getElem_cons_zero, List.getElem_cons_succ, Act.put, List.setIfInBounds_toArray, List.set_cons_zero, List.set_cons_succ]
  refine wpAnyH_take (i := 13) (v := ?_) rfl (by kernel_rfl) (by kernel_rfl) (by kernel_rfl) (fun _ _ _ h => h) (Or.inl ⟨by rfl, ?_⟩) (by assumption) ?_
  rotate_left 1
  · (intro wS hSw; (try dsimp only at hSw); go_simp; try with_reducible rfl)
  try simp only [List.getElem_toArray, List.getElem_cons_zero, List.getElem_cons_succ, Act.put, List.setIfInBounds_toArray, List.set_cons_zero, List.set_cons_succ]
  refine wpAnyH_take (i := 14) (v := ?_) rfl (by kernel_rfl) (by kernel_rfl) (by kernel_rfl) (fun _ _ _ h => h) (Or.inl ⟨by rfl, ?_⟩) (by assumption) ?_
  rotate_left 1
  · (intro wS hSw; (try dsimp only at hSw); go_simp; try with_reducible rfl)
  try simp only [List.getElem_toArray, List.getElem_cons_zero, List.getElem_cons_succ, Act.put, List.setIfInBounds_toArray, List.set_cons_zero, List.set_cons_succ]
  refine wpAnyH_ready (rs := [3]) (by kernel_rfl) (by simp) ?_
  refine AllReadyH.cons rfl (fun K hK => ?_) AllReadyH.nil
  go_simp
  refine (rtwo_any _ _ q1 q1').mono ?_; rintro e w1 ⟨rfl, hb1⟩; have z1 : w.heap.size < w1.heap.size := (by clear e1 e2; have := hb1.size; (try simp at this); omega); have HB1 := Lib.hid (HB0.out.trans (hb1.mono (by have := HB0.out.size; simpa using this))); have c01 := (hb1.cell (p := ⟨w.heap.size, 0, none⟩) (by simpa using z0)).trans c00; have c11 := (hb1.cell (p := ⟨w.heap.size, 1, none⟩) (by simpa using z0)).trans c10; have c21 := (hb1.cell (p := ⟨w.heap.size, 2, none⟩) (by simpa using z0)).trans c20; clear hb1 c00 c10 c20
  refine hK.out _ _ (⟨c01, c11, c21⟩) (fun hHeld => ?_)
  clear hK K
  try simp only [List.getElem_toArray, List.getElem_cons_zero, List.getElem_cons_succ, Act.put, List.setIfInBounds_toArray, List.set_cons_zero, List.set_cons_succ]
  refine wpAnyH_ready (rs := [7]) (by kernel_rfl) (by simp) ?_
  refine AllReadyH.cons rfl (fun K hK => ?_) AllReadyH.nil
  go_simp
  refine (rtwo_any _ _ q2 q2').mono ?_; rintro e w2 ⟨rfl, hb2⟩; have z2 : w.heap.size < w2.heap.size := (by clear e1 e2; have := hb2.size; (try simp at this); omega); have HB2 := Lib.hid (HB1.out.trans (hb2.mono (by have := HB1.out.size; simpa using this))); have c02 := (hb2.cell (p := ⟨w.heap.size, 0, none⟩) (by simpa using z1)).trans c01; have c12 := (hb2.cell (p := ⟨w.heap.size, 1, none⟩) (by simpa using z1)).trans c11; have c22 := (hb2.cell (p := ⟨w.heap.size, 2, none⟩) (by simpa using z1)).trans c21; clear hb2 c01 c11 c21
  refine hK.out _ _ (⟨c02, c12, c22⟩) (fun hHeld => ?_)
  clear hK K
  try simp only [List.getElem_toArray, List.getElem_cons_zero, List.getElem_cons_succ, Act.put, List.setIfInBounds_toArray, List.set_cons_zero, List.set_cons_succ]
  refine wpAnyH_take (i := 8) (v := ?_) rfl (by kernel_rfl) (by kernel_rfl) (by kernel_rfl) (fun _ _ _ h => h) (Or.inl ⟨by rfl, ?_⟩) (by assumption) ?_
  rotate_left 1
  · (intro wS hSw; (try dsimp only at hSw); go_simp; try with_reducible rfl)
  try simp only [List.getElem_toArray, List.getElem_cons_zero, List.getElem_cons_succ, Act.put, List.setIfInBounds_toArray, List.set_cons_zero, List.set_cons_succ]
  refine wpAnyH_ready (rs := [11]) (by kernel_rfl) (by simp) ?_
  refine AllReadyH.cons rfl (fun K hK => ?_) AllReadyH.nil
  go_simp
  refine (rtwo_any _ _ m0 m99).mono ?_; rintro e w3 ⟨rfl, hb3⟩; have z3 : w.heap.size < w3.heap.size := (by clear e1 e2; have := hb3.size; (try simp at this); omega); have HB3 := Lib.hid (HB2.out.trans (hb3.mono (by have := HB2.out.size; simpa using this))); have c03 := (hb3.cell (p := ⟨w.heap.size, 0, none⟩) (by simpa using z2)).trans c02; have c13 := (hb3.cell (p := ⟨w.heap.size, 1, none⟩) (by simpa using z2)).trans c12; have c23 := (hb3.cell (p := ⟨w.heap.size, 2, none⟩) (by simpa using z2)).trans c22; clear hb3 c02 c12 c22
  refine hK.out _ _ (⟨c03, c13, c23⟩) (fun hHeld => ?_)
  clear hK K
  try simp only [List.getElem_toArray, List.getElem_cons_zero, List.getElem_cons_succ, Act.put, List.setIfInBounds_toArray, List.set_cons_zero, List.set_cons_succ]
  refine wpAnyH_take (i := 12) (v := ?_) rfl (by kernel_rfl) (by kernel_rfl) (by kernel_rfl) (fun _ _ _ h => h) (Or.inl ⟨by rfl, ?_⟩) (by assumption) ?_
  rotate_left 1
  · (intro wS hSw; (try dsimp only at hSw); go_simp; try with_reducible rfl)
  try simp only [List.getElem_toArray, List.getElem_cons_zero, List.getElem_cons_succ, Act.put, List.setIfInBounds_toArray, List.set_cons_zero, List.set_cons_succ]
  refine wpAnyH_ready (rs := [15]) (by kernel_rfl) (by simp) ?_
  refine AllReadyH.cons rfl (fun K hK => ?_) AllReadyH.nil
  go_simp
  refine (rtwo_any _ _ d0 d99).mono ?_; rintro e w4 ⟨rfl, hb4⟩; have z4 : w.heap.size < w4.heap.size := (by clear e1 e2; have := hb4.size; (try simp at this); omega); have HB4 := Lib.hid (HB3.out.trans (hb4.mono (by have := HB3.out.size; simpa using this))); have c04 := (hb4.cell (p := ⟨w.heap.size, 0, none⟩) (by simpa using z3)).trans c03; have c14 := (hb4.cell (p := ⟨w.heap.size, 1, none⟩) (by simpa using z3)).trans c13; have c24 := (hb4.cell (p := ⟨w.heap.size, 2, none⟩) (by simpa using z3)).trans c23; clear hb4 c03 c13 c23
  refine hK.out _ _ (⟨c04, c14, c24⟩) (fun hHeld => ?_)
  clear hK K
  try simp only [List.getElem_toArray, List.getElem_cons_zero, List.getElem_cons_succ, Act.put, List.setIfInBounds_toArray, List.set_cons_zero, List.set_cons_succ]
  refine wpAnyH_take (i := 16) (v := ?_) rfl (by kernel_rfl) (by kernel_rfl) (by kernel_rfl) (fun _ _ _ h => h) (Or.inl ⟨by rfl, ?_⟩) (by assumption) ?_
  rotate_left 1
  · (intro wS hSw; (try dsimp only at hSw); go_simp; try with_reducible rfl)
  try simp only [List.getElem_toArray, List.getElem_cons_zero, List.getElem_cons_succ, Act.put, List.setIfInBounds_toArray, List.set_cons_zero, List.set_cons_succ]
  refine wpAnyH_take (i := 17) (v := ?_) rfl (by kernel_rfl) (by kernel_rfl) (by kernel_rfl) (fun _ _ _ h => h) (Or.inl ⟨by rfl, ?_⟩) (by assumption) ?_
  rotate_left 1
  · (intro wS hSw; (try dsimp only at hSw); go_simp; try with_reducible rfl)
  try simp only [List.getElem_toArray, List.getElem_cons_zero, List.getElem_cons_succ, Act.put, List.setIfInBounds_toArray, List.set_cons_zero, List.set_cons_succ]
  refine wpAnyH_take (i := 18) (v := ?_) rfl (by kernel_rfl) (by kernel_rfl) (by kernel_rfl) (fun _ _ _ h => h) (Or.inl ⟨by rfl, ?_⟩) (by assumption) ?_
  rotate_left 1
  · (intro wS hSw; (try dsimp only at hSw); go_simp; try with_reducible rfl)
  try simp only [List.getElem_toArray, List.getElem_cons_zero, List.getElem_cons_succ, Act.put, List.setIfInBounds_toArray, List.set_cons_zero, List.set_cons_succ]
  refine wpAnyH_done (by kernel_rfl) ?_ _
  refine NoPanic.normal ?_
  clear e1 e2
  go_wp2
  go_ret2
  exact ⟨by rw [← HD.out]; simp, HB4.out⟩
set_option maxHeartbeats 400000 in
theorem rformat_no (y m d : Int) (w : World) (hv : vldB y m d = false) :
    Calls Tryz.prog 124 #[.agg #[.int .i64 y, .int .i64 m, .int .i64 d]] w fun e w' => e = .returned (.tuple #[.string ⟨#[]⟩, .int .i64 4]) ∧ Below w.heap.size w w' := by
  go_enter Tryz.func124, Tryz.ntmps124
  go_wp2_with fail
  refine (rvalid_no _ _ _ _ hv).mono ?_
  rintro e w1 ⟨rfl, hb1⟩
  go_wp2_with fail
  go_ret2
  exact ⟨rfl, ((Below.refl _ _).alloc (Nat.le_refl _) _).trans (hb1.mono (by simp))⟩
theorem rformat_any (y m d : Int) (w : World) :
    Calls Tryz.prog 124 #[.agg #[.int .i64 y, .int .i64 m, .int .i64 d]] w fun e w' => e = .returned (.tuple #[.string ⟨(fmtL y m d).toArray⟩, .int .i64 (cd (vldB y m d) 4)]) ∧ Below w.heap.size w w' := by
  unfold fmtL
  cases hv : vldB y m d with
  | true => exact rformat_yes y m d w hv
  | false => exact rformat_no y m d w hv
theorem age_neg {y m d y' m' d' : Int} (h : vldB y m d = true) (h' : vldB y' m' d' = true) : ageI y m d y' m' d' < 0 ↔ num y' m' d' < num y m d := by
  have b1 := vld_bd h; have b2 := vld_bd h'
  rw [num_lt _ _ _ _ _ _ h' h]
  cases hb : befB m' d' m d with
  | true =>
    have : m' < m ∨ (m' = m ∧ d' < d) := by simpa [befB] using hb
    unfold ageI; rw [hb]; simp only [cond_true]; omega
  | false =>
    have : ¬ (m' < m ∨ (m' = m ∧ d' < d)) := by simpa [befB] using hb
    unfold ageI; rw [hb]; simp only [cond_false]; omega
end Go.Proofs.YtmakailcpkogdaaGreatDoor
end
section
/- The reference of layer 12 (schema): Normalise. -/
set_option linter.unusedSimpArgs false
set_option linter.unusedVariables false
set_option maxRecDepth 100000
namespace Go.Proofs.YtmakailcpkogdaaGreatDoor
open Go.RowKit Cal
attribute [local go_sem] toList_mk mk_size
set_option maxHeartbeats 4000000 in
theorem rvalue_any (S : Nat → Prop) (vf vt vn vs : Value) (s : SchemaL) (f : Int) (x : ByteArray) (w : World) (h : SchemaAt w S vf vt vn vs s) (hx : x.size ≤ 9223372036854775000) :
    Calls Tryz.prog 67 #[.agg #[vf, vt, vn, vs], .int .i64 f, .string x] w fun e w' => e = .returned (pairV (valueN s f x.data.toList)) ∧ Below w.heap.size w w' := by
  have HS := Lib.hid h.any
  have HL := Lib.hid (Lib.toList_data x)
  obtain ⟨hf1, hf2⟩ := h
  obtain ⟨af, cf, rfl⟩ := hf1.slice
  have HV1 := Lib.hid hf1.any
  have hfin : ∀ p, valueN s f x.data.toList = p → Ending.returned (pairV p) = .returned (pairV (valueN s f x.data.toList)) := fun p h => by rw [h]
  have HF := Lib.hid hfin
  clear hf1 hf2 hfin
  have hval : valueN s f x.data.toList = if (findN s f).2 = 0 then (if x.data.toList = [] then ([], 0) else normK (findN s f).1 s.rules x.data.toList) else ([], (findN s f).2) := rfl
  have hkk := findN_kind (s := s) (f := f)
  have hfn : findN s f = if checkS s = 0 then (if 0 ≤ f ∧ f < s.fields.length then ((s.fields.getD f.toNat default).2, 0) else (0, 2)) else (0, checkS s) := rfl
  have K := rscheck_any Any1 (.slice af s.fields.length cf) vt vn vs s (w.alloc (.cells #[.slice af s.fields.length cf, vt, vn, vs] 36)) (HS.out.below ((Below.refl _ _).alloc (Nat.le_refl _) _))
  have hcf := fun h => (check_fields (s := s) h).1
  obtain ⟨c, hc⟩ : ∃ c, checkS s = c := ⟨_, rfl⟩
  rw [hc] at K hfn hcf
  have HK := Lib.hid K; clear K
  have START := Lib.hid (trivial : True)
  by_cases he : c = 0
  · subst he
    have hlen := (hcf rfl).2
    clear hcf
    rw [if_pos rfl] at hfn
    by_cases hr : 0 ≤ f ∧ f < s.fields.length
    · rw [if_pos hr] at hfn
      obtain ⟨r1, r2⟩ := hr
      obtain ⟨k, rfl⟩ := Int.eq_ofNat_of_zero_le r1
      rw [Int.toNat_natCast] at hfn
      have hk : k < s.fields.length := by omega
      obtain ⟨b, off, rfl, _, hb, hcell⟩ := vec_cell2 HV1.out (by omega)
      obtain ⟨y, hy⟩ : ∃ y, s.fields.getD k default = y := ⟨_, rfl⟩
      have hck := hcell k hk
      rw [hy] at hck hfn
      obtain ⟨nm, kd⟩ := y
      have C1 := Lib.hid (show w.cell? ⟨b, off + k * 2 + 1, none⟩ = some (.int .i64 kd) from hck 1 _ rfl)
      rw [hfn] at hval hkk
      dsimp only at hval hkk
      have hkd := hkk rfl
      rw [if_pos rfl] at hval
      have HVal := Lib.hid hval
      have t1 : decide ((k : Int) < 0) = false := by simp
      have t2 : decide ((s.fields.length : Int) ≤ k) = false := by simp; omega
      have t3 : (k : Int) < (s.fields.length : Int) := by omega
      clear hck hcell hfn hkk hval hy r1 r2
      by_cases hx0 : x.data.toList = []
      · have e1 : x.toList = [] := by rw [HL.out, hx0]
        have HE := Lib.hid (show valueN s (k : Int) x.data.toList = ([], 0) by rw [HVal.out, if_pos hx0])
        clear hx0 hkd
        go_enter Tryz.func67, Tryz.ntmps67
        go_wp2_with fail
        refine HK.out.mono ?_
        rintro e w1 ⟨rfl, hb1⟩
        have HB1 := Lib.hid (((Below.refl w.heap.size w).alloc (Nat.le_refl _) (.cells #[.slice (some ⟨b, off, none⟩) s.fields.length cf, vt, vn, vs] 36)).trans (hb1.mono (by simp)))
        have HX1 := Lib.hid (blk_below (b := w.heap.size) (o := .cells #[.slice (some ⟨b, off, none⟩) s.fields.length cf, vt, vn, vs] 36 (0, 0)) hb1 (by simp) (blk_new rfl))
        clear hb1 HK
        have z0 := lt_of_blk HX1.out
        obtain ⟨p0, p1, p2, p3⟩ := cells4 HX1.out
        go_wp2_with fail
        go_ret2
        exact ⟨HF.out _ HE.out, HB1.out⟩
      · have e1 : (x.toList == []) = false := by rw [HL.out]; simpa using hx0
        have e2 : x.toList.isEmpty = false := by rw [HL.out]; simpa using hx0
        have HE := Lib.hid (show valueN s (k : Int) x.data.toList = normK kd s.rules x.data.toList by rw [HVal.out, if_neg hx0])
        clear hx0
        rcases hkd with rfl | rfl | rfl | rfl
        · have HE2 := Lib.hid (show valueN s (k : Int) x.data.toList = nameN s.rules x.data.toList from HE.out)
          go_enter Tryz.func67, Tryz.ntmps67
          go_wp2_with fail
          refine HK.out.mono ?_
          rintro e w1 ⟨rfl, hb1⟩
          have HB1 := Lib.hid (((Below.refl w.heap.size w).alloc (Nat.le_refl _) (.cells #[.slice (some ⟨b, off, none⟩) s.fields.length cf, vt, vn, vs] 36)).trans (hb1.mono (by simp)))
          have HX1 := Lib.hid (blk_below (b := w.heap.size) (o := .cells #[.slice (some ⟨b, off, none⟩) s.fields.length cf, vt, vn, vs] 36 (0, 0)) hb1 (by simp) (blk_new rfl))
          clear hb1 HK
          have z0 := lt_of_blk HX1.out
          obtain ⟨p0, p1, p2, p3⟩ := cells4 HX1.out
          have c1 : w1.cell? ⟨b, off + k * 2 + 1, none⟩ = some (.int .i64 1) := (HB1.out.cell (p := ⟨b, off + k * 2 + 1, none⟩) hb).trans C1.out
          go_wp2_with fail
          refine (rnorm_any Any1 vt vn vs s.rules x _ (HS.out.2.below HB1.out) hx).mono ?_
          rw [← HE2.out]
          obtain ⟨⟨pl, pe⟩, hpp⟩ : ∃ p, valueN s (k : Int) x.data.toList = p := ⟨_, rfl⟩
          rw [hpp]
          have HPP := Lib.hid hpp
          unfold pairV
          rintro e w3 ⟨rfl, hb3⟩
          have HB3 := Lib.hid (HB1.out.trans (hb3.mono HB1.out.size))
          clear hb3 hpp HE HE2 p0 p1 p2 p3 c1
          go_wp2_with fail
          go_ret2
          exact ⟨HF.out _ HPP.out, HB3.out⟩
        · have HE2 := Lib.hid (show valueN s (k : Int) x.data.toList = dayN x.data.toList from HE.out)
          rcases parse_is x with ⟨da, db, dc, hv, hp, hd⟩ | ⟨hp, hd⟩
          · have HV := Lib.hid hv; have HP := Lib.hid hp
            have HE3 := Lib.hid (HE2.out.trans hd)
            clear hv hp hd HE HE2
            go_enter Tryz.func67, Tryz.ntmps67
            go_wp2_with fail
            refine HK.out.mono ?_
            rintro e w1 ⟨rfl, hb1⟩
            have HB1 := Lib.hid (((Below.refl w.heap.size w).alloc (Nat.le_refl _) (.cells #[.slice (some ⟨b, off, none⟩) s.fields.length cf, vt, vn, vs] 36)).trans (hb1.mono (by simp)))
            have HX1 := Lib.hid (blk_below (b := w.heap.size) (o := .cells #[.slice (some ⟨b, off, none⟩) s.fields.length cf, vt, vn, vs] 36 (0, 0)) hb1 (by simp) (blk_new rfl))
            clear hb1 HK
            have z0 := lt_of_blk HX1.out
            obtain ⟨p0, p1, p2, p3⟩ := cells4 HX1.out
            have c1 : w1.cell? ⟨b, off + k * 2 + 1, none⟩ = some (.int .i64 2) := (HB1.out.cell (p := ⟨b, off + k * 2 + 1, none⟩) hb).trans C1.out
            go_wp2_with fail
            refine (rparse_any x _).mono ?_
            rw [HP.out]
            rintro e w2 ⟨rfl, hb2⟩
            have HB2 := Lib.hid (HB1.out.trans (hb2.mono HB1.out.size))
            clear hb2 p0 p1 p2 p3 c1
            go_wp2_with fail
            refine (rformat_yes da db dc _ HV.out).mono ?_
            rintro e w3 ⟨rfl, hb3⟩
            have HB3 := Lib.hid ((HB2.out.alloc HB2.out.size (.cells #[.int .i64 da, .int .i64 db, .int .i64 dc] 45)).trans (hb3.mono (by have := HB2.out.size; simp; omega)))
            clear hb3
            go_wp2_with fail
            go_ret2
            exact ⟨HF.out _ HE3.out, HB3.out⟩
          · have HP := Lib.hid hp
            have HE3 := Lib.hid (HE2.out.trans hd)
            clear hp hd HE HE2
            go_enter Tryz.func67, Tryz.ntmps67
            go_wp2_with fail
            refine HK.out.mono ?_
            rintro e w1 ⟨rfl, hb1⟩
            have HB1 := Lib.hid (((Below.refl w.heap.size w).alloc (Nat.le_refl _) (.cells #[.slice (some ⟨b, off, none⟩) s.fields.length cf, vt, vn, vs] 36)).trans (hb1.mono (by simp)))
            have HX1 := Lib.hid (blk_below (b := w.heap.size) (o := .cells #[.slice (some ⟨b, off, none⟩) s.fields.length cf, vt, vn, vs] 36 (0, 0)) hb1 (by simp) (blk_new rfl))
            clear hb1 HK
            have z0 := lt_of_blk HX1.out
            obtain ⟨p0, p1, p2, p3⟩ := cells4 HX1.out
            have c1 : w1.cell? ⟨b, off + k * 2 + 1, none⟩ = some (.int .i64 2) := (HB1.out.cell (p := ⟨b, off + k * 2 + 1, none⟩) hb).trans C1.out
            go_wp2_with fail
            refine (rparse_any x _).mono ?_
            rw [HP.out]
            rintro e w2 ⟨rfl, hb2⟩
            have HB2 := Lib.hid (HB1.out.trans (hb2.mono HB1.out.size))
            clear hb2 p0 p1 p2 p3 c1
            go_wp2_with fail
            go_ret2
            exact ⟨HF.out _ HE3.out, HB2.out.alloc HB2.out.size _⟩
        · have HE2 := Lib.hid (show valueN s (k : Int) x.data.toList = codeN x.data.toList from HE.out)
          go_enter Tryz.func67, Tryz.ntmps67
          go_wp2_with fail
          refine HK.out.mono ?_
          rintro e w1 ⟨rfl, hb1⟩
          have HB1 := Lib.hid (((Below.refl w.heap.size w).alloc (Nat.le_refl _) (.cells #[.slice (some ⟨b, off, none⟩) s.fields.length cf, vt, vn, vs] 36)).trans (hb1.mono (by simp)))
          have HX1 := Lib.hid (blk_below (b := w.heap.size) (o := .cells #[.slice (some ⟨b, off, none⟩) s.fields.length cf, vt, vn, vs] 36 (0, 0)) hb1 (by simp) (blk_new rfl))
          clear hb1 HK
          have z0 := lt_of_blk HX1.out
          obtain ⟨p0, p1, p2, p3⟩ := cells4 HX1.out
          have c1 : w1.cell? ⟨b, off + k * 2 + 1, none⟩ = some (.int .i64 3) := (HB1.out.cell (p := ⟨b, off + k * 2 + 1, none⟩) hb).trans C1.out
          go_wp2_with fail
          refine (rcode_any x _ hx).mono ?_
          rw [← HE2.out]
          obtain ⟨⟨pl, pe⟩, hpp⟩ : ∃ p, valueN s (k : Int) x.data.toList = p := ⟨_, rfl⟩
          rw [hpp]
          have HPP := Lib.hid hpp
          unfold pairV
          rintro e w3 ⟨rfl, hb3⟩
          have HB3 := Lib.hid (HB1.out.trans (hb3.mono HB1.out.size))
          clear hb3 hpp HE HE2 p0 p1 p2 p3 c1
          go_wp2_with fail
          go_ret2
          exact ⟨HF.out _ HPP.out, HB3.out⟩
        · have HE2 := Lib.hid (show valueN s (k : Int) x.data.toList = addrN s.rules x.data.toList from HE.out)
          go_enter Tryz.func67, Tryz.ntmps67
          go_wp2_with fail
          refine HK.out.mono ?_
          rintro e w1 ⟨rfl, hb1⟩
          have HB1 := Lib.hid (((Below.refl w.heap.size w).alloc (Nat.le_refl _) (.cells #[.slice (some ⟨b, off, none⟩) s.fields.length cf, vt, vn, vs] 36)).trans (hb1.mono (by simp)))
          have HX1 := Lib.hid (blk_below (b := w.heap.size) (o := .cells #[.slice (some ⟨b, off, none⟩) s.fields.length cf, vt, vn, vs] 36 (0, 0)) hb1 (by simp) (blk_new rfl))
          clear hb1 HK
          have z0 := lt_of_blk HX1.out
          obtain ⟨p0, p1, p2, p3⟩ := cells4 HX1.out
          have c1 : w1.cell? ⟨b, off + k * 2 + 1, none⟩ = some (.int .i64 4) := (HB1.out.cell (p := ⟨b, off + k * 2 + 1, none⟩) hb).trans C1.out
          go_wp2_with fail
          refine (raddr_any Any1 vt vn vs s.rules x _ (HS.out.2.below HB1.out) hx).mono ?_
          rw [← HE2.out]
          obtain ⟨⟨pl, pe⟩, hpp⟩ : ∃ p, valueN s (k : Int) x.data.toList = p := ⟨_, rfl⟩
          rw [hpp]
          have HPP := Lib.hid hpp
          unfold pairV
          rintro e w3 ⟨rfl, hb3⟩
          have HB3 := Lib.hid (HB1.out.trans (hb3.mono HB1.out.size))
          clear hb3 hpp HE HE2 p0 p1 p2 p3 c1
          go_wp2_with fail
          go_ret2
          exact ⟨HF.out _ HPP.out, HB3.out⟩
    · rw [if_neg hr] at hfn
      have HE := Lib.hid (show valueN s f x.data.toList = ([], 2) by rw [hval, hfn]; rfl)
      clear hval hkk hfn
      by_cases r1 : 0 ≤ f
      · have t1 : decide (f < 0) = false := by simp; omega
        have t2 : decide ((s.fields.length : Int) ≤ f) = true := by simp; omega
        go_enter Tryz.func67, Tryz.ntmps67
        go_wp2_with fail
        refine HK.out.mono ?_
        rintro e w1 ⟨rfl, hb1⟩
        have HB1 := Lib.hid (((Below.refl w.heap.size w).alloc (Nat.le_refl _) (.cells #[.slice af s.fields.length cf, vt, vn, vs] 36)).trans (hb1.mono (by simp)))
        have HX1 := Lib.hid (blk_below (b := w.heap.size) (o := .cells #[.slice af s.fields.length cf, vt, vn, vs] 36 (0, 0)) hb1 (by simp) (blk_new rfl))
        clear hb1 HK
        have z0 := lt_of_blk HX1.out
        obtain ⟨p0, p1, p2, p3⟩ := cells4 HX1.out
        go_wp2_with fail
        go_ret2
        exact ⟨HF.out _ HE.out, HB1.out⟩
      · have t1 : decide (f < 0) = true := by simp; omega
        go_enter Tryz.func67, Tryz.ntmps67
        go_wp2_with fail
        refine HK.out.mono ?_
        rintro e w1 ⟨rfl, hb1⟩
        have HB1 := Lib.hid (((Below.refl w.heap.size w).alloc (Nat.le_refl _) (.cells #[.slice af s.fields.length cf, vt, vn, vs] 36)).trans (hb1.mono (by simp)))
        have HX1 := Lib.hid (blk_below (b := w.heap.size) (o := .cells #[.slice af s.fields.length cf, vt, vn, vs] 36 (0, 0)) hb1 (by simp) (blk_new rfl))
        clear hb1 HK
        have z0 := lt_of_blk HX1.out
        obtain ⟨p0, p1, p2, p3⟩ := cells4 HX1.out
        go_wp2_with fail
        go_ret2
        exact ⟨HF.out _ HE.out, HB1.out⟩
  · rw [if_neg he] at hfn
    have HE := Lib.hid (show valueN s f x.data.toList = ([], c) by rw [hval, hfn]; dsimp only; rw [if_neg he])
    have he1 : (c != 0) = true := by simpa using he
    clear hval hkk hfn hcf he
    go_enter Tryz.func67, Tryz.ntmps67
    go_wp2_with fail
    refine HK.out.mono ?_
    rintro e w1 ⟨rfl, hb1⟩
    have HB1 := Lib.hid (((Below.refl w.heap.size w).alloc (Nat.le_refl _) (.cells #[.slice af s.fields.length cf, vt, vn, vs] 36)).trans (hb1.mono (by simp)))
    have HX1 := Lib.hid (blk_below (b := w.heap.size) (o := .cells #[.slice af s.fields.length cf, vt, vn, vs] 36 (0, 0)) hb1 (by simp) (blk_new rfl))
    clear hb1 HK
    have z0 := lt_of_blk HX1.out
    obtain ⟨p0, p1, p2, p3⟩ := cells4 HX1.out
    go_wp2_with fail
    go_ret2
    exact ⟨HF.out _ HE.out, HB1.out⟩
end Go.Proofs.YtmakailcpkogdaaGreatDoor
end
section
/- The reference of layer 12 (schema): Normal. -/
set_option linter.unusedSimpArgs false
set_option linter.unusedVariables false
set_option maxRecDepth 100000
namespace Go.Proofs.YtmakailcpkogdaaGreatDoor
open Go.RowKit Cal
attribute [local go_sem] toList_mk mk_size
set_option maxHeartbeats 4000000 in
theorem rsnormal_any (S : Nat → Prop) (vf vt vn vs : Value) (s : SchemaL) (f : Int) (x : ByteArray) (w : World) (h : SchemaAt w S vf vt vn vs s) (hx : x.size ≤ 9223372036854775000) :
    Calls Tryz.prog 210 #[.agg #[vf, vt, vn, vs], .int .i64 f, .string x] w fun e w' => e = .returned (.bool (normalB s f x.data.toList)) ∧ Below w.heap.size w w' := by
  have HS := Lib.hid h.any
  have HL := Lib.hid (Lib.toList_data x)
  obtain ⟨hf1, hf2⟩ := h
  obtain ⟨af, cf, rfl⟩ := hf1.slice
  have HV1 := Lib.hid hf1.any
  have hfin : ∀ p, normalB s f x.data.toList = p → Ending.returned (.bool p) = .returned (.bool (normalB s f x.data.toList)) := fun p h => by rw [h]
  have HF := Lib.hid hfin
  clear hf1 hf2 hfin
  have hval : normalB s f x.data.toList = if (findN s f).2 = 0 then (if x.data.toList = [] then true else ownK (findN s f).1 s.rules x.data.toList) else false := rfl
  have hkk := findN_kind (s := s) (f := f)
  have hfn : findN s f = if checkS s = 0 then (if 0 ≤ f ∧ f < s.fields.length then ((s.fields.getD f.toNat default).2, 0) else (0, 2)) else (0, checkS s) := rfl
  have K := rscheck_any Any1 (.slice af s.fields.length cf) vt vn vs s (w.alloc (.cells #[.slice af s.fields.length cf, vt, vn, vs] 36)) (HS.out.below ((Below.refl _ _).alloc (Nat.le_refl _) _))
  have hcf := fun h => (check_fields (s := s) h).1
  obtain ⟨c, hc⟩ : ∃ c, checkS s = c := ⟨_, rfl⟩
  rw [hc] at K hfn hcf
  have HK := Lib.hid K; clear K
  have START := Lib.hid (trivial : True)
  by_cases he : c = 0
  · subst he
    have hlen := (hcf rfl).2
    clear hcf
    rw [if_pos rfl] at hfn
    by_cases hr : 0 ≤ f ∧ f < s.fields.length
    · rw [if_pos hr] at hfn
      obtain ⟨r1, r2⟩ := hr
      obtain ⟨k, rfl⟩ := Int.eq_ofNat_of_zero_le r1
      rw [Int.toNat_natCast] at hfn
      have hk : k < s.fields.length := by omega
      obtain ⟨b, off, rfl, _, hb, hcell⟩ := vec_cell2 HV1.out (by omega)
      obtain ⟨y, hy⟩ : ∃ y, s.fields.getD k default = y := ⟨_, rfl⟩
      have hck := hcell k hk
      rw [hy] at hck hfn
      obtain ⟨nm, kd⟩ := y
      have C1 := Lib.hid (show w.cell? ⟨b, off + k * 2 + 1, none⟩ = some (.int .i64 kd) from hck 1 _ rfl)
      rw [hfn] at hval hkk
      dsimp only at hval hkk
      have hkd := hkk rfl
      rw [if_pos rfl] at hval
      have HVal := Lib.hid hval
      have t1 : decide ((k : Int) < 0) = false := by simp
      have t2 : decide ((s.fields.length : Int) ≤ k) = false := by simp; omega
      have t3 : (k : Int) < (s.fields.length : Int) := by omega
      clear hck hcell hfn hkk hval hy r1 r2
      by_cases hx0 : x.data.toList = []
      · have e1 : x.toList = [] := by rw [HL.out, hx0]
        have HE := Lib.hid (show normalB s (k : Int) x.data.toList = true by rw [HVal.out, if_pos hx0])
        clear hx0 hkd
        go_enter Tryz.func210, Tryz.ntmps210
        go_wp2_with fail
        refine HK.out.mono ?_
        rintro e w1 ⟨rfl, hb1⟩
        have HB1 := Lib.hid (((Below.refl w.heap.size w).alloc (Nat.le_refl _) (.cells #[.slice (some ⟨b, off, none⟩) s.fields.length cf, vt, vn, vs] 36)).trans (hb1.mono (by simp)))
        have HX1 := Lib.hid (blk_below (b := w.heap.size) (o := .cells #[.slice (some ⟨b, off, none⟩) s.fields.length cf, vt, vn, vs] 36 (0, 0)) hb1 (by simp) (blk_new rfl))
        clear hb1 HK
        have z0 := lt_of_blk HX1.out
        obtain ⟨p0, p1, p2, p3⟩ := cells4 HX1.out
        go_wp2_with fail
        go_ret
        exact ⟨HF.out _ HE.out, HB1.out⟩
      · have e1 : (x.toList == []) = false := by rw [HL.out]; simpa using hx0
        have e2 : x.toList.isEmpty = false := by rw [HL.out]; simpa using hx0
        have HE := Lib.hid (show normalB s (k : Int) x.data.toList = ownK kd s.rules x.data.toList by rw [HVal.out, if_neg hx0])
        clear hx0
        rcases hkd with rfl | rfl | rfl | rfl
        · have HE2 := Lib.hid (show normalB s (k : Int) x.data.toList = isOwn (nameN s.rules x.data.toList) x.data.toList from HE.out)
          go_enter Tryz.func210, Tryz.ntmps210
          go_wp2_with fail
          refine HK.out.mono ?_
          rintro e w1 ⟨rfl, hb1⟩
          have HB1 := Lib.hid (((Below.refl w.heap.size w).alloc (Nat.le_refl _) (.cells #[.slice (some ⟨b, off, none⟩) s.fields.length cf, vt, vn, vs] 36)).trans (hb1.mono (by simp)))
          have HX1 := Lib.hid (blk_below (b := w.heap.size) (o := .cells #[.slice (some ⟨b, off, none⟩) s.fields.length cf, vt, vn, vs] 36 (0, 0)) hb1 (by simp) (blk_new rfl))
          clear hb1 HK
          have z0 := lt_of_blk HX1.out
          obtain ⟨p0, p1, p2, p3⟩ := cells4 HX1.out
          have c1 : w1.cell? ⟨b, off + k * 2 + 1, none⟩ = some (.int .i64 1) := (HB1.out.cell (p := ⟨b, off + k * 2 + 1, none⟩) hb).trans C1.out
          go_wp2_with fail
          refine (rnormal_any Any1 vt vn vs s.rules x _ (HS.out.2.below HB1.out) hx).mono ?_
          rw [← HE2.out]
          obtain ⟨pb, hpp⟩ : ∃ p, normalB s (k : Int) x.data.toList = p := ⟨_, rfl⟩
          rw [hpp]
          have HPP := Lib.hid hpp
          rintro e w3 ⟨rfl, hb3⟩
          have HB3 := Lib.hid (HB1.out.trans (hb3.mono HB1.out.size))
          clear hb3 hpp HE HE2 p0 p1 p2 p3 c1
          go_wp2_with fail
          go_ret
          exact ⟨HF.out _ HPP.out, HB3.out⟩
        · have HE2 := Lib.hid (show normalB s (k : Int) x.data.toList = readB x.data.toList from HE.out)
          obtain ⟨da, db, dc, hr⟩ := read_is x
          have HR := Lib.hid hr; clear hr HE
          go_enter Tryz.func210, Tryz.ntmps210
          go_wp2_with fail
          refine HK.out.mono ?_
          rintro e w1 ⟨rfl, hb1⟩
          have HB1 := Lib.hid (((Below.refl w.heap.size w).alloc (Nat.le_refl _) (.cells #[.slice (some ⟨b, off, none⟩) s.fields.length cf, vt, vn, vs] 36)).trans (hb1.mono (by simp)))
          have HX1 := Lib.hid (blk_below (b := w.heap.size) (o := .cells #[.slice (some ⟨b, off, none⟩) s.fields.length cf, vt, vn, vs] 36 (0, 0)) hb1 (by simp) (blk_new rfl))
          clear hb1 HK
          have z0 := lt_of_blk HX1.out
          obtain ⟨p0, p1, p2, p3⟩ := cells4 HX1.out
          have c1 : w1.cell? ⟨b, off + k * 2 + 1, none⟩ = some (.int .i64 2) := (HB1.out.cell (p := ⟨b, off + k * 2 + 1, none⟩) hb).trans C1.out
          go_wp2_with fail
          refine (rread_any x _).mono ?_
          rw [HR.out]
          obtain ⟨v, hv⟩ : ∃ v, readB x.data.toList = v := ⟨_, rfl⟩
          rw [hv]
          have HV := Lib.hid hv; clear hv HR
          rintro e w2 ⟨rfl, hb2⟩
          have HB2 := Lib.hid (HB1.out.trans (hb2.mono HB1.out.size))
          clear hb2 p0 p1 p2 p3 c1
          cases v
          all_goals
            simp only [cd_false, cd_true]
            go_wp2_with fail
            go_ret
            exact ⟨HF.out _ (by rw [HE2.out, HV.out]; try rfl), HB2.out.alloc HB2.out.size _⟩
        · have HE2 := Lib.hid (show normalB s (k : Int) x.data.toList = isOwn (codeN x.data.toList) x.data.toList from HE.out)
          go_enter Tryz.func210, Tryz.ntmps210
          go_wp2_with fail
          refine HK.out.mono ?_
          rintro e w1 ⟨rfl, hb1⟩
          have HB1 := Lib.hid (((Below.refl w.heap.size w).alloc (Nat.le_refl _) (.cells #[.slice (some ⟨b, off, none⟩) s.fields.length cf, vt, vn, vs] 36)).trans (hb1.mono (by simp)))
          have HX1 := Lib.hid (blk_below (b := w.heap.size) (o := .cells #[.slice (some ⟨b, off, none⟩) s.fields.length cf, vt, vn, vs] 36 (0, 0)) hb1 (by simp) (blk_new rfl))
          clear hb1 HK
          have z0 := lt_of_blk HX1.out
          obtain ⟨p0, p1, p2, p3⟩ := cells4 HX1.out
          have c1 : w1.cell? ⟨b, off + k * 2 + 1, none⟩ = some (.int .i64 3) := (HB1.out.cell (p := ⟨b, off + k * 2 + 1, none⟩) hb).trans C1.out
          go_wp2_with fail
          refine (rnormed_any x _ hx).mono ?_
          rw [← HE2.out]
          obtain ⟨pb, hpp⟩ : ∃ p, normalB s (k : Int) x.data.toList = p := ⟨_, rfl⟩
          rw [hpp]
          have HPP := Lib.hid hpp
          rintro e w3 ⟨rfl, hb3⟩
          have HB3 := Lib.hid (HB1.out.trans (hb3.mono HB1.out.size))
          clear hb3 hpp HE HE2 p0 p1 p2 p3 c1
          go_wp2_with fail
          go_ret
          exact ⟨HF.out _ HPP.out, HB3.out⟩
        · have HE2 := Lib.hid (show normalB s (k : Int) x.data.toList = isOwn (addrN s.rules x.data.toList) x.data.toList from HE.out)
          go_enter Tryz.func210, Tryz.ntmps210
          go_wp2_with fail
          refine HK.out.mono ?_
          rintro e w1 ⟨rfl, hb1⟩
          have HB1 := Lib.hid (((Below.refl w.heap.size w).alloc (Nat.le_refl _) (.cells #[.slice (some ⟨b, off, none⟩) s.fields.length cf, vt, vn, vs] 36)).trans (hb1.mono (by simp)))
          have HX1 := Lib.hid (blk_below (b := w.heap.size) (o := .cells #[.slice (some ⟨b, off, none⟩) s.fields.length cf, vt, vn, vs] 36 (0, 0)) hb1 (by simp) (blk_new rfl))
          clear hb1 HK
          have z0 := lt_of_blk HX1.out
          obtain ⟨p0, p1, p2, p3⟩ := cells4 HX1.out
          have c1 : w1.cell? ⟨b, off + k * 2 + 1, none⟩ = some (.int .i64 4) := (HB1.out.cell (p := ⟨b, off + k * 2 + 1, none⟩) hb).trans C1.out
          go_wp2_with fail
          refine (ranormal_any Any1 vt vn vs s.rules x _ (HS.out.2.below HB1.out) hx).mono ?_
          rw [← HE2.out]
          obtain ⟨pb, hpp⟩ : ∃ p, normalB s (k : Int) x.data.toList = p := ⟨_, rfl⟩
          rw [hpp]
          have HPP := Lib.hid hpp
          rintro e w3 ⟨rfl, hb3⟩
          have HB3 := Lib.hid (HB1.out.trans (hb3.mono HB1.out.size))
          clear hb3 hpp HE HE2 p0 p1 p2 p3 c1
          go_wp2_with fail
          go_ret
          exact ⟨HF.out _ HPP.out, HB3.out⟩
    · rw [if_neg hr] at hfn
      have HE := Lib.hid (show normalB s f x.data.toList = false by rw [hval, hfn]; rfl)
      clear hval hkk hfn
      by_cases r1 : 0 ≤ f
      · have t1 : decide (f < 0) = false := by simp; omega
        have t2 : decide ((s.fields.length : Int) ≤ f) = true := by simp; omega
        go_enter Tryz.func210, Tryz.ntmps210
        go_wp2_with fail
        refine HK.out.mono ?_
        rintro e w1 ⟨rfl, hb1⟩
        have HB1 := Lib.hid (((Below.refl w.heap.size w).alloc (Nat.le_refl _) (.cells #[.slice af s.fields.length cf, vt, vn, vs] 36)).trans (hb1.mono (by simp)))
        have HX1 := Lib.hid (blk_below (b := w.heap.size) (o := .cells #[.slice af s.fields.length cf, vt, vn, vs] 36 (0, 0)) hb1 (by simp) (blk_new rfl))
        clear hb1 HK
        have z0 := lt_of_blk HX1.out
        obtain ⟨p0, p1, p2, p3⟩ := cells4 HX1.out
        go_wp2_with fail
        go_ret
        exact ⟨HF.out _ HE.out, HB1.out⟩
      · have t1 : decide (f < 0) = true := by simp; omega
        go_enter Tryz.func210, Tryz.ntmps210
        go_wp2_with fail
        refine HK.out.mono ?_
        rintro e w1 ⟨rfl, hb1⟩
        have HB1 := Lib.hid (((Below.refl w.heap.size w).alloc (Nat.le_refl _) (.cells #[.slice af s.fields.length cf, vt, vn, vs] 36)).trans (hb1.mono (by simp)))
        have HX1 := Lib.hid (blk_below (b := w.heap.size) (o := .cells #[.slice af s.fields.length cf, vt, vn, vs] 36 (0, 0)) hb1 (by simp) (blk_new rfl))
        clear hb1 HK
        have z0 := lt_of_blk HX1.out
        obtain ⟨p0, p1, p2, p3⟩ := cells4 HX1.out
        go_wp2_with fail
        go_ret
        exact ⟨HF.out _ HE.out, HB1.out⟩
  · rw [if_neg he] at hfn
    have HE := Lib.hid (show normalB s f x.data.toList = false by rw [hval, hfn]; dsimp only; rw [if_neg he])
    have he1 : (c != 0) = true := by simpa using he
    clear hval hkk hfn hcf he
    go_enter Tryz.func210, Tryz.ntmps210
    go_wp2_with fail
    refine HK.out.mono ?_
    rintro e w1 ⟨rfl, hb1⟩
    have HB1 := Lib.hid (((Below.refl w.heap.size w).alloc (Nat.le_refl _) (.cells #[.slice af s.fields.length cf, vt, vn, vs] 36)).trans (hb1.mono (by simp)))
    have HX1 := Lib.hid (blk_below (b := w.heap.size) (o := .cells #[.slice af s.fields.length cf, vt, vn, vs] 36 (0, 0)) hb1 (by simp) (blk_new rfl))
    clear hb1 HK
    have z0 := lt_of_blk HX1.out
    obtain ⟨p0, p1, p2, p3⟩ := cells4 HX1.out
    go_wp2_with fail
    go_ret
    exact ⟨HF.out _ HE.out, HB1.out⟩
end Go.Proofs.YtmakailcpkogdaaGreatDoor
end
section
/- The reference of layer 13: Make; recordlinkmake: Record: some record in normal form. -/
set_option linter.unusedSimpArgs false
set_option linter.unusedVariables false
set_option maxRecDepth 100000
namespace Go.Proofs.YtmakailcpkogdaaGreatDoor
open Go.RowKit Cal
attribute [local go_sem] toList_mk mk_size str_append
/-- a record in memory: its three cells -/
def RecVal (w : World) (S : Nat → Prop) (v : Value) (r : RecL) : Prop := ∃ s, v = .agg #[.int .i64 r.id, .int .i64 r.ver, s] ∧ Vec w S 1 encS s r.vals
def MakePost (p : RecL × Int) (w : World) (e : Ending) (w' : World) : Prop := ∃ v, e = .returned (.tuple #[v, .int .i64 p.2]) ∧ RecVal w' (fun b => w.heap.size ≤ b) v p.1 ∧ Below w.heap.size w w'
/-- .. of raw values as many as fields, right numbers, a valid schema -/
theorem makeN_in {s : SchemaL} {id ver : Int} {raws : List (List UInt8)} (h0 : checkS s = 0) (h1 : raws.length = s.fields.length) (h2 : numberedB id ver = true) : makeN s id ver raws = if (makeA s 0 [] raws).2 = 0 then (⟨id, ver, (makeA s 0 [] raws).1⟩, 0) else (noRec, (makeA s 0 [] raws).2) := by
  unfold makeN; rw [if_pos h0, if_pos h1, if_pos h2]
/-- where ref13.Make stands: the schema's box, the result's, the record's, its values -/
structure MkAt (w : World) (rb : Nat) (vf vt vn vs : Value) (id ver : Int) (v : Value) (C : List (List UInt8)) (wr : World) : Prop where
  s : wr.heap[w.heap.size]? = some (.cells #[vf, vt, vn, vs] 36 (0, 0))
  z : wr.heap[w.heap.size + 1]? = some (.cells #[.int .i64 0, .int .i64 0, .slice none 0 0] 49 (0, 0))
  r : wr.heap[rb]? = some (.cells #[.int .i64 id, .int .i64 ver, v] 49 (0, 0))
  own : wr.ownsRow (rb + 1) 9 1 v C.length (C.flatMap encS)
  b : Below w.heap.size w wr
  lt : w.heap.size + 1 < rb
  lt2 : rb < wr.heap.size
theorem MkAt.below {w : World} {rb : Nat} {vf vt vn vs : Value} {id ver : Int} {v : Value} {C : List (List UInt8)} {wr wx : World} (h : MkAt w rb vf vt vn vs id ver v C wr) (hb : Below wr.heap.size wr wx) : MkAt w rb vf vt vn vs id ver v C wx :=
  ⟨blk_below hb (lt_of_blk h.s) h.s, blk_below hb (lt_of_blk h.z) h.z, blk_below hb (lt_of_blk h.r) h.r, own_below' h.own hb, h.b.trans (hb.mono h.b.size), h.lt, Nat.lt_of_lt_of_le h.lt2 hb.size⟩
set_option maxHeartbeats 8000000 in
theorem rmake_yes (S T : Nat → Prop) (vf vt vn vs : Value) (s : SchemaL) (id ver : Int) (raws : List (List UInt8)) (rv : Value) (w : World) (h : SchemaAt w S vf vt vn vs s) (hv : Vec w T 1 encS rv raws) (hc : checkS s = 0) (hl : raws.length = s.fields.length) (hn : numberedB id ver = true) (hs : ∀ x ∈ raws, x.length ≤ 1000000) :
    Calls Tryz.prog 24 #[.agg #[vf, vt, vn, vs], .int .i64 id, .int .i64 ver, rv] w (MakePost (makeN s id ver raws) w) := by
  have hmk := makeN_in hc hl hn
  obtain ⟨R, hR⟩ : ∃ R, makeN s id ver raws = R := ⟨_, rfl⟩
  rw [hR] at hmk ⊢
  have HMK := Lib.hid hmk
  clear hmk hR
  obtain ⟨a, cap, rfl⟩ := hv.slice
  obtain ⟨af, cf, rfl⟩ := h.1.slice
  have h5 : raws.length ≤ 5 := by have := (check_fields hc).1.2; omega
  have hne : ((raws.length : Int) != (s.fields.length : Int)) = false := by rw [hl]; simp
  have hn0 := hn
  simp only [numberedB, Bool.and_eq_true, decide_eq_true_iff] at hn0
  obtain ⟨⟨⟨n1, n2⟩, n3⟩, n4⟩ := hn0
  have e1 : decide (id < (1 : Int)) = false := by simp; omega
  have e2 : decide ((1048576 : Int) < id) = false := by simp; omega
  have e3 : decide (ver < (1 : Int)) = false := by simp; omega
  have e4 : decide ((1048576 : Int) < ver) = false := by simp; omega
  have HC := Lib.hid hc; have HV := Lib.hid hv.any; have HS := Lib.hid h.any; have HSh := Lib.hid hs
  clear h hv hc hl hn hs n1 n2 n3 n4
  go_enter Tryz.func24, Tryz.ntmps24
  go_wp2_with fail
  refine wp_calls_world (fun W hW => ?_)
  have hb0 : Below w.heap.size w W := by rw [hW]; exact ((Below.refl w.heap.size w).alloc (Nat.le_refl _) _).alloc (by simp) _
  have hs0 : W.heap[w.heap.size]? = some (.cells #[.slice af s.fields.length cf, vt, vn, vs] 36 (0, 0)) := by rw [hW]; exact blk_old (blk_new rfl)
  have hz0 : W.heap[w.heap.size + 1]? = some (.cells #[.int .i64 0, .int .i64 0, .slice none 0 0] 49 (0, 0)) := by rw [hW]; exact blk_new (by simp)
  clear hW
  refine (rscheck_any Any1 _ _ _ _ s _ (HS.out.below hb0)).mono ?_
  rw [HC.out]
  rintro e w1 ⟨rfl, hb⟩
  have hs1 := blk_below hb (lt_of_blk hs0) hs0; have hz1 := blk_below hb (lt_of_blk hz0) hz0
  have HB1 := Lib.hid (hb0.trans (hb.mono hb0.size)); have HS1 := Lib.hid hs1; have HZ1 := Lib.hid hz1
  obtain ⟨s0, s1, s2, s3⟩ := cellsS hs1
  clear hb hb0 hs0 hz0 hs1 hz1
  go_wp2_with fail
  refine wp_world (fun W2 hW2 => ?_)
  have hm0 : MkAt w w1.heap.size (.slice af s.fields.length cf) vt vn vs id ver (.slice none 0 0) [] W2 := by
    rw [hW2]
    exact ⟨blk_old HS1.out, blk_old HZ1.out, blk_new rfl, ⟨by simp, .inl ⟨rfl, rfl⟩⟩, HB1.out.alloc HB1.out.size _, lt_of_blk HZ1.out, by simp⟩
  have HM0 := Lib.hid hm0
  clear hW2 hm0 s0 s1 s2 s3
  go_loopw [12, 13, 14] (fun i _ _ wr => ∃ (j : Nat) (v : Value) (C : List (List UInt8)), i = .int .i64 j ∧ j ≤ raws.length ∧ C.length = j ∧ Hid (makeA s j C (raws.drop j) = makeA s 0 [] raws) ∧ MkAt w w1.heap.size (.slice af s.fields.length cf) vt vn vs id ver v C wr) (fun i _ _ _ => raws.length - (intOf i).toNat)
  case atStart => exact ⟨0, _, [], rfl, by omega, rfl, Lib.hid rfl, HM0.out⟩
  case round =>
    obtain ⟨j, vC, C, rfl, hj, hCl, HT, hm⟩ := hrel
    have HM := Lib.hid hm; have HCl := Lib.hid hCl; clear hm hCl HM0
    obtain ⟨s0, s1, s2, s3⟩ := cellsS HM.out.s
    by_cases hlt : j < raws.length
    · have hq : decide ((j : Int) < raws.length) = true := by simp; omega
      obtain ⟨x, hx⟩ : ∃ x, raws[j] = x := ⟨_, rfl⟩
      have hxl : x.length ≤ 1000000 := HSh.out x (by rw [← hx]; exact List.getElem_mem _)
      have hT := HT.out
      rw [List.drop_eq_getElem_cons hlt, hx, makeA] at hT
      obtain ⟨b, off, rfl, hb, hc⟩ := (HV.out.below HM.out.b).get j hlt
      have c0 := hc 0 _ rfl
      rw [Nat.mul_one, Nat.add_zero, hx] at c0
      obtain ⟨⟨y, er⟩, hp⟩ : ∃ p, valueN s j x = p := ⟨_, rfl⟩
      rw [hp] at hT
      dsimp only at hT
      have HT2 := Lib.hid hT; have HPv := Lib.hid hp
      clear hc hT hx HT hp
      go_wp2_with fail
      have hbw : b < wr.heap.size := hb
      have hzs := lt_of_blk HM.out.s
      refine wp_region_noPanic ?_
      refine wp_region_held_drew (S := (fun w' => w'.cell? ⟨w.heap.size, 0, none⟩ = some (.slice af s.fields.length cf) ∧ w'.cell? ⟨w.heap.size, 1, none⟩ = some vt ∧ w'.cell? ⟨w.heap.size, 2, none⟩ = some vn ∧ w'.cell? ⟨w.heap.size, 3, none⟩ = some vs ∧ w'.cell? ⟨b, off + j, none⟩ = some (strV x))) (by kernel_rfl) (⟨s0, s1, s2, s3, c0⟩) (fun hHeld => ?_)
      refine wpAnyH_take (i := 0) (v := ?_) rfl (by kernel_rfl) (by kernel_rfl) (by kernel_rfl) (fun _ _ _ h => h) (Or.inl ⟨by rfl, ?_⟩) (by assumption) ?_
      rotate_left 1
      · (intro wS hSw; (try dsimp only at hSw); go_simp; try with_reducible rfl)
      try simp only [List.getElem_toArray, List.getElem_cons_zero, List.getElem_cons_succ, Act.put, List.setIfInBounds_toArray, List.set_cons_zero, List.set_cons_succ]
      refine wpAnyH_take (i := 1) (v := ?_) rfl (by kernel_rfl) (by kernel_rfl) (by kernel_rfl) (fun _ _ _ h => h) (Or.inl ⟨by rfl, ?_⟩) (by assumption) ?_
      rotate_left 1
      · (intro wS hSw; (try dsimp only at hSw); go_simp; try with_reducible rfl)
      try simp only [List.getElem_toArray, List.getElem_cons_zero, List.getElem_cons_succ, Act.put, List.setIfInBounds_toArray, List.set_cons_zero, List.set_cons_succ]
      refine wpAnyH_take (i := 2) (v := ?_) rfl (by kernel_rfl) (by kernel_rfl) (by kernel_rfl) (fun _ _ _ h => h) (Or.inl ⟨by rfl, ?_⟩) (by assumption) ?_
      rotate_left 1
      · (intro wS hSw; (try dsimp only at hSw); go_simp; try with_reducible rfl)
      try simp only [List.getElem_toArray, List.getElem_cons_zero, List.getElem_cons_succ, Act.put, List.setIfInBounds_toArray, List.set_cons_zero, List.set_cons_succ]
      refine wpAnyH_take (i := 3) (v := ?_) rfl (by kernel_rfl) (by kernel_rfl) (by kernel_rfl) (fun _ _ _ h => h) (Or.inl ⟨by rfl, ?_⟩) (by assumption) ?_
      rotate_left 1
      · (intro wS hSw; (try dsimp only at hSw); go_simp; try with_reducible rfl)
      try simp only [List.getElem_toArray, List.getElem_cons_zero, List.getElem_cons_succ, Act.put, List.setIfInBounds_toArray, List.set_cons_zero, List.set_cons_succ]
      refine wpAnyH_take (i := 4) (v := ?_) rfl (by kernel_rfl) (by kernel_rfl) (by kernel_rfl) (fun _ _ _ h => h) (Or.inl ⟨by rfl, ?_⟩) (by assumption) ?_
      rotate_left 1
      · (intro wS hSw; (try dsimp only at hSw); go_simp; try with_reducible rfl)
      try simp only [List.getElem_toArray, List.getElem_cons_zero, List.getElem_cons_succ, Act.put, List.setIfInBounds_toArray, List.set_cons_zero, List.set_cons_succ]
      refine wpAnyH_take (i := 5) (v := ?_) rfl (by kernel_rfl) (by kernel_rfl) (by kernel_rfl) (fun _ _ _ h => h) (Or.inl ⟨by rfl, ?_⟩) (by assumption) ?_
      rotate_left 1
      · (intro wS hSw; (try dsimp only at hSw); go_simp; try with_reducible rfl)
      try simp only [List.getElem_toArray, List.getElem_cons_zero, List.getElem_cons_succ, Act.put, List.setIfInBounds_toArray, List.set_cons_zero, List.set_cons_succ]
      refine wpAnyH_ready (rs := [6]) (by kernel_rfl) (by simp) ?_
      refine AllReadyH.cons rfl (fun K hK => ?_) AllReadyH.nil
      go_simp
      refine (rvalue_any Any1 _ vt vn vs s j ⟨x.toArray⟩ _ ((HS.out.below HM.out.b).below (Below.refl _ _).drew) (by rw [mk_size]; omega)).mono ?_; rw [show (⟨x.toArray⟩ : ByteArray).data.toList = x by simp, HPv.out]; unfold pairV; rintro e w2 ⟨rfl, hb2⟩; have b2 := ((Below.refl wr.heap.size wr).drew).trans hb2; clear hb2
      refine hK.out _ _ (⟨(b2.cell (p := ⟨w.heap.size, 0, none⟩) hzs).trans s0, (b2.cell (p := ⟨w.heap.size, 1, none⟩) hzs).trans s1, (b2.cell (p := ⟨w.heap.size, 2, none⟩) hzs).trans s2, (b2.cell (p := ⟨w.heap.size, 3, none⟩) hzs).trans s3, (b2.cell (p := ⟨b, off + j, none⟩) hbw).trans c0⟩) (fun hHeld => ?_)
      clear hK K
      try simp only [List.getElem_toArray, List.getElem_cons_zero, List.getElem_cons_succ, Act.put, List.setIfInBounds_toArray, List.set_cons_zero, List.set_cons_succ]
      refine wpAnyH_take (i := 7) (v := ?_) rfl (by kernel_rfl) (by kernel_rfl) (by kernel_rfl) (fun _ _ _ h => h) (Or.inl ⟨by rfl, ?_⟩) (by assumption) ?_
      rotate_left 1
      · (intro wS hSw; (try dsimp only at hSw); go_simp; try with_reducible rfl)
      try simp only [List.getElem_toArray, List.getElem_cons_zero, List.getElem_cons_succ, Act.put, List.setIfInBounds_toArray, List.set_cons_zero, List.set_cons_succ]
      refine wpAnyH_take (i := 8) (v := ?_) rfl (by kernel_rfl) (by kernel_rfl) (by kernel_rfl) (fun _ _ _ h => h) (Or.inl ⟨by rfl, ?_⟩) (by assumption) ?_
      rotate_left 1
      · (intro wS hSw; (try dsimp only at hSw); go_simp; try with_reducible rfl)
      try simp only [List.getElem_toArray, List.getElem_cons_zero, List.getElem_cons_succ, Act.put, List.setIfInBounds_toArray, List.set_cons_zero, List.set_cons_succ]
      refine wpAnyH_take (i := 9) (v := ?_) rfl (by kernel_rfl) (by kernel_rfl) (by kernel_rfl) (fun _ _ _ h => h) (Or.inl ⟨by rfl, ?_⟩) (by assumption) ?_
      rotate_left 1
      · (intro wS hSw; (try dsimp only at hSw); go_simp; try with_reducible rfl)
      try simp only [List.getElem_toArray, List.getElem_cons_zero, List.getElem_cons_succ, Act.put, List.setIfInBounds_toArray, List.set_cons_zero, List.set_cons_succ]
      refine wpAnyH_take (i := 10) (v := ?_) rfl (by kernel_rfl) (by kernel_rfl) (by kernel_rfl) (fun _ _ _ h => h) (Or.inl ⟨by rfl, ?_⟩) (by assumption) ?_
      rotate_left 1
      · (intro wS hSw; (try dsimp only at hSw); go_simp; try with_reducible rfl)
      try simp only [List.getElem_toArray, List.getElem_cons_zero, List.getElem_cons_succ, Act.put, List.setIfInBounds_toArray, List.set_cons_zero, List.set_cons_succ]
      refine wpAnyH_take (i := 11) (v := ?_) rfl (by kernel_rfl) (by kernel_rfl) (by kernel_rfl) (fun _ _ _ h => h) (Or.inl ⟨by rfl, ?_⟩) (by assumption) ?_
      rotate_left 1
      · (intro wS hSw; (try dsimp only at hSw); go_simp; try with_reducible rfl)
      try simp only [List.getElem_toArray, List.getElem_cons_zero, List.getElem_cons_succ, Act.put, List.setIfInBounds_toArray, List.set_cons_zero, List.set_cons_succ]
      refine wpAnyH_done (by kernel_rfl) ?_ _
      refine NoPanic.normal ?_
      have HM2 := Lib.hid (HM.out.below b2)
      clear hHeld s0 s1 s2 s3 c0 b2 HM hbw hzs hb
      by_cases he : er = 0
      · subst he
        have HT3 := Lib.hid (show makeA s (j + 1) (C ++ [y]) (raws.drop (j + 1)) = makeA s 0 [] raws by rw [← HT2.out, if_pos rfl])
        clear HT2
        obtain ⟨r0, r1, r2⟩ := cells3 HM2.out.r
        have f2 := frozen_of_row _ _ 2 _ _ HM2.out.r
        have hrz := HM2.out.lt2
        have hone : ∀ u ∈ (#[strV y] : Array Value).toList, u.oneCell' = true := by intro u hu; simp at hu; subst hu; rfl
        have hbase : w1.heap.size + 1 ≤ w2.heap.size := hrz
        have hown := HM2.out.own
        have HOwn := Lib.hid hown
        clear hown
        have hcl : C.length < 1099511627776 := by rw [HCl.out]; omega
        go_wp2_with (at_builtin; refine wpList_append_new rfl _ _ 27 rfl (w1.heap.size + 1) 9 1 16 (.string ⟨#[]⟩) Tryz.underlying27 infoS rfl (by decide) (by decide) _ _ _ rfl HOwn.out #[strV y] 1 rfl rfl hone hcl hbase ?_; intro v2 w8 ho8 hw8; obtain ⟨av2, cv2, rfl⟩ := own_slice ho8; have hr8 := (hw8 w2 (Below.refl _ _)).block w1.heap.size (Nat.lt_succ_self _) |>.trans HM2.out.r; obtain ⟨q0, q1, q2⟩ := cells3 hr8; have g2 := frozen_of_row _ _ 2 _ _ hr8; have y8 := lt_of_blk hr8)
        have HW8 := Lib.hid (hw8 w2 (Below.refl _ _)); have HO8 := Lib.hid ho8; have HR8 := Lib.hid hr8
        clear hw8 ho8 hr8
        have hlt := HM2.out.lt
        go_roundw
        case rel =>
          refine ⟨j + 1, .slice av2 (C.length + 1) cv2, C ++ [y], by go_num, by omega, by rw [List.length_append, HCl.out]; rfl, HT3, ?_⟩
          refine ⟨blk_far ((HW8.out.block w.heap.size (by omega)).trans HM2.out.s) (by show w.heap.size ≠ w1.heap.size; omega), blk_far ((HW8.out.block (w.heap.size + 1) (by omega)).trans HM2.out.z) (by show w.heap.size + 1 ≠ w1.heap.size; omega), blk_set (i := 2) HR8.out, ?_, ?_, hlt, by simpa [World.setCell] using y8⟩
          · rw [List.length_append, List.flatMap_append]
            exact own_same HO8.out fun g h1 h2 => heap_setCell_other _ _ _ _ (by show g ≠ w1.heap.size; omega)
          · exact (HM2.out.b.trans (HW8.out.mono (by omega))).setCell (p := ⟨w1.heap.size, 2, none⟩) (by show w.heap.size ≤ w1.heap.size; omega) _
        case measure => simp [intOf]; omega
      · have hne2 : (er != 0) = true := by simpa using he
        have hR : R = (noRec, er) := by rw [HMK.out, ← HT2.out, if_neg he, if_neg he]
        have HRR := Lib.hid hR
        obtain ⟨z0, z1, z2⟩ := cells3 HM2.out.z
        have f0 := frozen_of_row _ _ 0 _ _ HM2.out.z; have f1 := frozen_of_row _ _ 1 _ _ HM2.out.z; have f2 := frozen_of_row _ _ 2 _ _ HM2.out.z
        have yz := lt_of_blk HM2.out.z
        clear hR he HT2
        go_wp2_with fail
        rw [HRR.out]
        exact bodyPost_row2 rfl rfl (blk_set (i := 2) (v := .slice none 0 0) (blk_set (i := 1) (v := .int .i64 0) (blk_set (i := 0) (v := .int .i64 0) HM2.out.z))) Tryz.underlying49 rfl (by kernel_rfl)
          ⟨_, rfl, ⟨_, rfl, Vec.nil _ _ _ _⟩, ((HM2.out.b.setCell (p := ⟨w.heap.size + 1, 0, none⟩) (Nat.le_succ _) _).setCell (p := ⟨w.heap.size + 1, 1, none⟩) (Nat.le_succ _) _).setCell (p := ⟨w.heap.size + 1, 2, none⟩) (Nat.le_succ _) _⟩
    · have hq : decide ((j : Int) < raws.length) = false := by simp; omega
      obtain rfl : j = raws.length := by omega
      have hT := HT.out
      rw [List.drop_length, makeA] at hT
      have hR : R = (⟨id, ver, C⟩, 0) := by rw [HMK.out, ← hT, if_pos rfl]
      have HRR := Lib.hid hR
      have hlt := HM.out.lt
      obtain ⟨z0, z1, z2⟩ := cells3 HM.out.z
      obtain ⟨r0, r1, r2⟩ := cells3 HM.out.r
      have f0 := frozen_of_row _ _ 0 _ _ HM.out.z; have f1 := frozen_of_row _ _ 1 _ _ HM.out.z; have f2 := frozen_of_row _ _ 2 _ _ HM.out.z
      have yz := lt_of_blk HM.out.z
      obtain ⟨aC, cC, hvC⟩ := own_slice HM.out.own
      subst hvC
      clear hR hT HT s0 s1 s2 s3
      go_wp2_with fail
      rw [HRR.out]
      refine bodyPost_row2 rfl rfl (blk_set (i := 2) (v := .slice aC C.length cC) (blk_set (i := 1) (v := .int .i64 ver) (blk_set (i := 0) (v := .int .i64 id) HM.out.z))) Tryz.underlying49 rfl (by kernel_rfl)
        ⟨_, rfl, ⟨_, rfl, ?_⟩, ((HM.out.b.setCell (p := ⟨w.heap.size + 1, 0, none⟩) (Nat.le_succ _) _).setCell (p := ⟨w.heap.size + 1, 1, none⟩) (Nat.le_succ _) _).setCell (p := ⟨w.heap.size + 1, 2, none⟩) (Nat.le_succ _) _⟩
      have hown := own_same (w' := ((wr.setCell ⟨w.heap.size + 1, 0, none⟩ (.int .i64 id)).setCell ⟨w.heap.size + 1, 1, none⟩ (.int .i64 ver)).setCell ⟨w.heap.size + 1, 2, none⟩ (.slice aC C.length cC)) HM.out.own fun g h1 h2 => ((heap_setCell_other _ _ _ _ (by show g ≠ w.heap.size + 1; omega)).trans (heap_setCell_other _ _ _ _ (by show g ≠ w.heap.size + 1; omega))).trans (heap_setCell_other _ _ _ _ (by show g ≠ w.heap.size + 1; omega))
      exact Vec.owns (k := 1) (enc := encS) (fun _ => rfl) hown (fun b h1 _ => by show w.heap.size ≤ b; omega)
end Go.Proofs.YtmakailcpkogdaaGreatDoor
end
section
/- recordlinkmake: Record: some record in normal form. -/
set_option linter.unusedSimpArgs false
set_option linter.unusedVariables false
set_option maxRecDepth 100000
namespace Go.Proofs.YtmakailcpkogdaaGreatDoor
open Go.RowKit Cal
attribute [local go_sem] toList_mk mk_size str_append
theorem makeA_short (s : SchemaL) (raws : List (List UInt8)) : ∀ i C, (∀ x ∈ C, x.length ≤ 64) → ∀ x ∈ (makeA s i C raws).1, x.length ≤ 64 := by
  induction raws with
  | nil => intro i C h; simpa [makeA] using h
  | cons y l ih =>
    intro i C h
    unfold makeA
    split
    · refine ih _ _ fun x hx => ?_
      rcases List.mem_append.1 hx with h1 | h1
      · exact h x h1
      · simp at h1; subst h1; exact (valueN_form s i y).1
    · intro x hx; simp at hx
theorem Vec.far {α : Type} {w : World} {S : Nat → Prop} {k : Nat} {enc : α → List Value} {v : Value} {L : List α} (h : Vec w S k enc v L) {a : Addr} {u : Value} (hn : ∀ b, S b → b ≠ a.block) : Vec (w.setCell a u) S k enc v L :=
  h.move (by simp [World.setCell]) fun b _ hs => ⟨heap_setCell_other _ _ _ _ (hn b hs), hs⟩
theorem oneS : ∀ x : List UInt8, ∀ u ∈ encS x, u.oneCell' = true := by intro x u hu; simp [encS] at hu; subst hu; rfl
theorem rec_made {s : SchemaL} {id ver : Int} {raws : List (List UInt8)} {r : RecL} (h : makeN s id ver raws = (r, 0)) : r.id = id ∧ checkN s r = 0 ∧ ∀ x ∈ r.vals, x.length ≤ 64 := by
  obtain ⟨h1, h2, h3, h4, h5, _, h7, h8, _⟩ := makeN_ok h
  refine ⟨h2, checkN_of h1 (by rw [h2, h3]; exact h4) h5 h7, ?_⟩
  rw [h8]
  exact makeA_short s raws 0 [] (by simp)
theorem rec_none {s : SchemaL} {id : Int} (h : checkS s = 0) (h1 : 1 ≤ id) (h2 : id ≤ 1048576) : checkN s ⟨id, 1, List.replicate s.fields.length []⟩ = 0 :=
  checkN_of h (by simp [numberedB, h1, h2]) (by simp) (none_norm h)
theorem made_strings (m : Nat) : madeCells #[.string ⟨#[]⟩] m = ((List.replicate m ([] : List UInt8)).flatMap encS).toArray := by
  apply Array.ext'
  have : ∀ k, (List.replicate k ([] : List UInt8)).flatMap encS = List.replicate k (.string ⟨#[]⟩) := by
    intro k; induction k with
    | zero => rfl
    | succ k ih => rw [List.replicate_succ, List.flatMap_cons, ih]; rfl
  rw [this]
  unfold madeCells
  rw [Array.toList_map, Array.toList_range]
  refine List.ext_getElem (by simp) fun i h1 h2 => ?_
  simp [Nat.mod_one]
def RecordPost (D : Nat) (s : SchemaL) (id : Int) (w : World) (e : Ending) (w' : World) : Prop := ∃ v r, e = .returned v ∧ RecVal w' (fun b => w.heap.size ≤ b) v r ∧ r.id = id ∧ checkN s r = 0 ∧ (∀ x ∈ r.vals, x.length ≤ 64) ∧ Moved D w w'
set_option maxHeartbeats 8000000 in
theorem record_deal (D : Nat) (S : Nat → Prop) (vf vt vn vs : Value) (s : SchemaL) (id : Int) (w : World) (h : DeckAt w D) (hs : SchemaAt w S vf vt vn vs s) (hS : ∀ b, S b → b ≠ D) (hd : SchemaD s) (h1 : 1 ≤ id) (h2 : id ≤ 1048576) :
    Calls Tryz.prog 30 #[.pointer (some ⟨D, 0, none⟩), .agg #[vf, vt, vn, vs], .int .i64 id] w (RecordPost D s id w) := by
  have zD := h.lt
  have M0 := Lib.hid (Moved.start h); clear h
  obtain ⟨af, cf, rfl⟩ := hs.1.slice
  have h5 := hd.fields.len
  have HS := Lib.hid hs; have HSD := Lib.hid hd; have HSne := Lib.hid hS
  clear hs hd hS
  go_enter Tryz.func30, Tryz.ntmps30
  go_wp2_with fail
  refine wp_world (fun W hW => ?_)
  have hm : Moved D w W := by rw [hW]; exact (M0.out.alloc _).alloc _
  have hb0 : Below w.heap.size w W := by rw [hW]; exact ((Below.refl w.heap.size w).alloc (Nat.le_refl _) _).alloc (by simp) _
  have hs0 : W.heap[w.heap.size]? = some (.cells #[.slice af s.fields.length cf, vt, vn, vs] 36 (0, 0)) := by rw [hW]; exact blk_old (blk_new rfl)
  have hz0 : W.heap[w.heap.size + 1]? = some (.cells #[.int .i64 0, .int .i64 0, .slice none 0 0] 49 (0, 0)) := by rw [hW]; exact blk_new (by simp)
  have hzW : W.heap.size = w.heap.size + 2 := by rw [hW]; simp
  clear hW
  have HM := Lib.hid hm; have HS0 := Lib.hid hs0; have HZ0 := Lib.hid hz0; have HSW := Lib.hid (HS.out.below hb0); have HZW := Lib.hid hzW
  clear hm hs0 hz0 hb0 hzW
  obtain ⟨n, hn⟩ : ∃ n, s.fields.length = n := ⟨_, rfl⟩
  rw [hn] at HS0 HSW h5 ⊢
  have HN := Lib.hid hn; clear hn
  go_loopw [7, 8] (fun v i wr => ∃ (j : Nat) (L : List (List UInt8)), i = .int .i64 j ∧ j ≤ n ∧ L.length = j ∧ (∀ x ∈ L, x.length ≤ 64) ∧ OwnM D 9 1 encS W v L wr) (fun _ i _ => n - (intOf i).toNat)
  case atStart => exact ⟨0, [], rfl, by omega, rfl, by simp, ⟨by simp, .inl ⟨rfl, rfl⟩⟩, Moved.start HM.out.deck⟩
  case round =>
    obtain ⟨j, L, rfl, hj, hL, hsh, ho⟩ := hrel
    have HO := Lib.hid ho; have HL := Lib.hid hL; have HSh := Lib.hid hsh
    have hsr := ho.2.blk (k := w.heap.size) (by omega) HS0.out
    have HSR := Lib.hid hsr
    obtain ⟨s0, s1, s2, s3⟩ := cellsS hsr
    have hzs := lt_of_blk hsr
    clear ho hL hsh hsr
    by_cases hlt : j < n
    · have hq : decide ((j : Int) < n) = true := by simp; omega
      have hjs : j < s.fields.length := by rw [HN.out]; exact hlt
      obtain ⟨b, off, eaf, hSb, hb, hc⟩ := fields_cell HSW.out.1 (by omega)
      cases eaf
      have hbD := HSne.out b hSb
      have kc := (World.cell?_of_block (w := W) (a := ⟨b, off + j * 2 + 1, none⟩) (HO.out.2.grown.block b hb (by simp; omega))).trans (hc j hjs)
      obtain ⟨kf, hkf⟩ : ∃ kf, (s.fields.getD j default).2 = kf := ⟨_, rfl⟩
      rw [hkf] at kc
      have hjn : (j : Int) < (n : Int) := by omega
      clear hc hkf hjs hSb
      go_wp2_with fail
      refine (raw_deal D kf _ HO.out.2.deck).mono ?_
      rintro e w1 ⟨x, rfl, hx, mv⟩
      have HX := Lib.hid hx
      have HO1 := Lib.hid (HO.out.moved (mv.alloc (.cells #[strV x] 9)))
      have HR1 := Lib.hid (show Reads (w1.alloc (.cells #[strV x] 9)) 1 (.slice (some ⟨w1.heap.size, 0, none⟩) 1 1) [x].length ([x].flatMap encS) from reads_block (t := 9) (fr := (0, 0)) (blk_new rfl) rfl)
      have hsh2 : ∀ y ∈ L ++ [x], y.length ≤ 64 := by
        intro y hy
        rcases List.mem_append.1 hy with h | h
        · exact HSh.out y h
        · simp at h; subst h; exact hx
      have HSh2 := Lib.hid hsh2
      have hcn : L.length + [x].length ≤ 1000000000 := by rw [HL.out]; simp only [List.length_cons, List.length_nil]; omega
      clear hx mv hsh2
      go_wp2_with (at_builtin; refine wpList_append_m rfl (.tmp 18) (.tmp 27) 27 rfl D 9 (.string ⟨#[]⟩) 1 16 encS (fun _ => rfl) oneS Tryz.underlying27 infoS rfl (by decide) (by decide) (wA := W) (v := u7) (A := L) (B := [x]) rfl HO1.out rfl HR1.out hcn ?_; intro v4 w4 ho4 hk4)
      go_roundw
      case rel => exact ⟨j + 1, L ++ [x], by go_num, by omega, by rw [List.length_append, HL.out]; rfl, HSh2.out, ho4⟩
      case measure => simp [intOf]; omega
    · have hq : decide ((j : Int) < n) = false := by simp; omega
      obtain rfl : j = n := by omega
      have HV := Lib.hid (Vec.owns (k := 1) (enc := encS) (S := fun b => W.heap.size ≤ b) (fun _ => rfl) HO.out.1 (fun b hb _ => hb))
      obtain ⟨aL, cL, hvL⟩ := own_slice HO.out.1
      subst hvL
      have HSr := Lib.hid (HSW.out.moved HSne.out HO.out.2)
      have hneD : w.heap.size ≠ D := by omega
      have mD : Moved D wr wr.drew := (Moved.start HO.out.2.deck).drew
      go_wp2_with fail
      go_cut [9, 10] (fun s9 s10 wx => ∃ (rb : Nat) (er y : Int) (sv : Value) (r : RecL), s9 = .pointer (some ⟨rb, 0, none⟩) ∧ s10 = .int .i64 er ∧ wx.heap[rb]? = some (.cells #[.int .i64 r.id, .int .i64 r.ver, sv] 49 (0, 0)) ∧ Vec wx (fun b => w.heap.size + 2 ≤ b) 1 encS sv r.vals ∧ Hid (makeN s id (1 + y) L = (r, er)) ∧ 0 ≤ y ∧ y < 3 ∧ Moved D wr wx ∧ wr.heap.size ≤ rb)
      case first =>
        refine wp_region_noPanic ?_
        refine wp_region_k (by kernel_rfl) (fun w' => w'.cell? ⟨w.heap.size, 0, none⟩ = some (.slice af j cf) ∧ w'.cell? ⟨w.heap.size, 1, none⟩ = some vt ∧ w'.cell? ⟨w.heap.size, 2, none⟩ = some vn ∧ w'.cell? ⟨w.heap.size, 3, none⟩ = some vs) 12 (⟨s0, s1, s2, s3⟩) (fun hHeld => ?_)
        refine wpAnyK_take (i := 0) (v := ?_) rfl (by kernel_rfl) (by kernel_rfl) (by kernel_rfl) (by kernel_rfl) (fun _ _ _ h => h) (Or.inl ⟨by rfl, ?_⟩) (by assumption) ?_
        rotate_left 1
        · (intro wS hSw; (try dsimp only at hSw); go_simp; try with_reducible rfl)
        try simp only [List.getElem_toArray, List.getElem_cons_zero, List.getElem_cons_succ, Act.put, List.setIfInBounds_toArray, List.set_cons_zero, List.set_cons_succ]
        refine wpAnyK_take (i := 1) (v := ?_) rfl (by kernel_rfl) (by kernel_rfl) (by kernel_rfl) (by kernel_rfl) (fun _ _ _ h => h) (Or.inl ⟨by rfl, ?_⟩) (by assumption) ?_
        rotate_left 1
        · (intro wS hSw; (try dsimp only at hSw); go_simp; try with_reducible rfl)
        try simp only [List.getElem_toArray, List.getElem_cons_zero, List.getElem_cons_succ, Act.put, List.setIfInBounds_toArray, List.set_cons_zero, List.set_cons_succ]
        refine wpAnyK_take (i := 2) (v := ?_) rfl (by kernel_rfl) (by kernel_rfl) (by kernel_rfl) (by kernel_rfl) (fun _ _ _ h => h) (Or.inl ⟨by rfl, ?_⟩) (by assumption) ?_
        rotate_left 1
        · (intro wS hSw; (try dsimp only at hSw); go_simp; try with_reducible rfl)
        try simp only [List.getElem_toArray, List.getElem_cons_zero, List.getElem_cons_succ, Act.put, List.setIfInBounds_toArray, List.set_cons_zero, List.set_cons_succ]
        refine wpAnyK_take (i := 5) (v := ?_) rfl (by kernel_rfl) (by kernel_rfl) (by kernel_rfl) (by kernel_rfl) (fun _ _ _ h => h) (Or.inl ⟨by rfl, ?_⟩) (by assumption) ?_
        rotate_left 1
        · (intro wS hSw; (try dsimp only at hSw); go_simp; try with_reducible rfl)
        try simp only [List.getElem_toArray, List.getElem_cons_zero, List.getElem_cons_succ, Act.put, List.setIfInBounds_toArray, List.set_cons_zero, List.set_cons_succ]
        refine wpAnyK_ready (rs := [3, 10]) (by kernel_rfl) (by simp) ?_
        refine AllReadyK.cons rfl (fun K hK => ?_) (AllReadyK.cons rfl (fun K hK => ?_) AllReadyK.nil)
        focus
          go_simp
          refine (next_any D _ 3 mD.deck (by omega) (by omega)).mono ?_
          rintro e W1 ⟨y, rfl, y0, y1, mv⟩
          have m1 := mD.trans mv
          clear mv
          have hwy : IntKind.i64.wrap (1 + y) = 1 + y := by rw [IntKind.wrap_i64]; omega
          refine shutK hK (⟨(cellsS (m1.blk (k := w.heap.size) hneD HSR.out)).1, (cellsS (m1.blk (k := w.heap.size) hneD HSR.out)).2.1, (cellsS (m1.blk (k := w.heap.size) hneD HSR.out)).2.2.1, (cellsS (m1.blk (k := w.heap.size) hneD HSR.out)).2.2.2⟩) (fun hHeld => ?_)
          clear hK K
          try simp only [List.getElem_toArray, List.getElem_cons_zero, List.getElem_cons_succ, Act.put, List.setIfInBounds_toArray, List.set_cons_zero, List.set_cons_succ]
          refine wpAnyK_take (i := 4) (v := ?_) rfl (by kernel_rfl) (by kernel_rfl) (by kernel_rfl) (by kernel_rfl) (fun _ _ _ h => h) (Or.inl ⟨by rfl, ?_⟩) (by assumption) ?_
          rotate_left 1
          · (intro wS hSw; (try dsimp only at hSw); go_simp; try with_reducible rfl)
          try simp only [List.getElem_toArray, List.getElem_cons_zero, List.getElem_cons_succ, Act.put, List.setIfInBounds_toArray, List.set_cons_zero, List.set_cons_succ]
          refine wpAnyK_ready (rs := [6, 10]) (by kernel_rfl) (by simp) ?_
          refine AllReadyK.cons rfl (fun K hK => ?_) (AllReadyK.cons rfl (fun K hK => ?_) AllReadyK.nil)
          focus
            go_simp
            have hnum : numberedB id (1 + y) = true := by simp [numberedB]; omega
            obtain ⟨⟨r, er⟩, hR⟩ : ∃ R, makeN s id (1 + y) L = R := ⟨_, rfl⟩
            have hmk := rmake_yes S _ (.slice af j cf) vt vn vs s id (1 + y) L (.slice aL L.length cL) _ (HSr.out.moved HSne.out m1) (HV.out.move (S' := fun b => W.heap.size ≤ b) m1.size fun b hb hs => ⟨m1.grown.block b hb (by have hs' : W.heap.size ≤ b := hs; have h3 := HZW.out; have h4 := zD; simp; omega), hs⟩) HSD.out.check (HL.out.trans HN.out.symm) hnum (fun x hx => by have := HSh.out x hx; omega)
            rw [hR] at hmk
            refine hmk.mono ?_
            rintro e W2 ⟨_, rfl, ⟨sv, rfl, hvv⟩, hb⟩
            have m2 := m1.below hb
            have hvv2 := hvv.move (w' := W2) (S' := fun b => w.heap.size + 2 ≤ b) (Nat.le_refl _) fun b hb' hs => ⟨rfl, by have h1 := m1.size; have h2 := HO.out.2.size; have h3 := HZW.out; have hs' := hs; omega⟩
            obtain ⟨asv, csv, esv⟩ := hvv2.slice; subst esv
            have HRR := Lib.hid hR
            clear hb hvv hmk hR
            refine shutK hK (⟨(cellsS (m2.blk (k := w.heap.size) hneD HSR.out)).1, (cellsS (m2.blk (k := w.heap.size) hneD HSR.out)).2.1, (cellsS (m2.blk (k := w.heap.size) hneD HSR.out)).2.2.1, (cellsS (m2.blk (k := w.heap.size) hneD HSR.out)).2.2.2⟩) (fun hHeld => ?_)
            clear hK K
            try simp only [List.getElem_toArray, List.getElem_cons_zero, List.getElem_cons_succ, Act.put, List.setIfInBounds_toArray, List.set_cons_zero, List.set_cons_succ]
            refine wpAnyK_take (i := 7) (v := ?_) rfl (by kernel_rfl) (by kernel_rfl) (by kernel_rfl) (by kernel_rfl) (fun _ _ _ h => h) (Or.inl ⟨by rfl, ?_⟩) (by assumption) ?_
            rotate_left 1
            · (intro wS hSw; (try dsimp only at hSw); go_simp; try with_reducible rfl)
            try simp only [List.getElem_toArray, List.getElem_cons_zero, List.getElem_cons_succ, Act.put, List.setIfInBounds_toArray, List.set_cons_zero, List.set_cons_succ]
            refine wpAnyK_take (i := 8) (v := ?_) rfl (by kernel_rfl) (by kernel_rfl) (by kernel_rfl) (by kernel_rfl) (fun _ _ _ h => h) (Or.inl ⟨by rfl, ?_⟩) (by assumption) ?_
            rotate_left 1
            · (intro wS hSw; (try dsimp only at hSw); go_simp; try with_reducible rfl)
            try simp only [List.getElem_toArray, List.getElem_cons_zero, List.getElem_cons_succ, Act.put, List.setIfInBounds_toArray, List.set_cons_zero, List.set_cons_succ]
            refine wpAnyK_take (i := 9) (v := ?_) rfl (by kernel_rfl) (by kernel_rfl) (by kernel_rfl) (by kernel_rfl) (fun _ _ _ h => h) (Or.inl ⟨by rfl, ?_⟩) (by assumption) ?_
            rotate_left 1
            · (intro wS hSw; (try dsimp only at hSw); go_simp; try with_reducible rfl)
            try simp only [List.getElem_toArray, List.getElem_cons_zero, List.getElem_cons_succ, Act.put, List.setIfInBounds_toArray, List.set_cons_zero, List.set_cons_succ]
            refine wpAnyK_ready (rs := [10]) (by kernel_rfl) (by simp) ?_
            refine AllReadyK.cons rfl (fun K hK => ?_) AllReadyK.nil
            go_simp
            refine shutK hK (⟨(cellsS ((m2.alloc _).blk (k := w.heap.size) hneD HSR.out)).1, (cellsS ((m2.alloc _).blk (k := w.heap.size) hneD HSR.out)).2.1, (cellsS ((m2.alloc _).blk (k := w.heap.size) hneD HSR.out)).2.2.1, (cellsS ((m2.alloc _).blk (k := w.heap.size) hneD HSR.out)).2.2.2⟩) (fun hHeld => ?_)
            clear hK K
            try simp only [List.getElem_toArray, List.getElem_cons_zero, List.getElem_cons_succ, Act.put, List.setIfInBounds_toArray, List.set_cons_zero, List.set_cons_succ]
            refine wpk_name (fun W3 hW3 => ?_)
            have m3 : Moved D wr W3 := by rw [hW3]; exact m2.alloc (.cells #[.int .i64 0, .int .i64 0, .slice none 0 0] 49)
            have gb : W3.heap[W2.heap.size]? = some (.cells #[.int .i64 0, .int .i64 0, .slice none 0 0] 49 (0, 0)) := by rw [hW3]; exact blk_new rfl
            have hrb : wr.heap.size ≤ W2.heap.size := m2.size
            have HX3 : ∀ b, b < W2.heap.size → W3.heap[b]? = W2.heap[b]? := by rw [hW3]; exact fun b hb => heap_alloc_old _ _ hb
            have hnrb : w.heap.size ≠ W2.heap.size := by have := hzs; omega
            clear hW3 hHeld
            have hHeld : W3.cell? ⟨w.heap.size, 0, none⟩ = some (.slice af j cf) ∧ W3.cell? ⟨w.heap.size, 1, none⟩ = some vt ∧ W3.cell? ⟨w.heap.size, 2, none⟩ = some vn ∧ W3.cell? ⟨w.heap.size, 3, none⟩ = some vs := ⟨(cellsS (m3.blk (k := w.heap.size) hneD HSR.out)).1, (cellsS (m3.blk (k := w.heap.size) hneD HSR.out)).2.1, (cellsS (m3.blk (k := w.heap.size) hneD HSR.out)).2.2.1, (cellsS (m3.blk (k := w.heap.size) hneD HSR.out)).2.2.2⟩
            have hvv3 := hvv2.move (w' := W3) (S' := fun b => w.heap.size + 2 ≤ b ∧ b ≠ W2.heap.size) (by have h9 := lt_of_blk gb; omega) fun b hb' hs => ⟨HX3 b hb', hs, by omega⟩
          rotate_left 1
          focus
            go_simp
            refine shutK hK (⟨(cellsS ((m1.alloc _).blk (k := w.heap.size) hneD HSR.out)).1, (cellsS ((m1.alloc _).blk (k := w.heap.size) hneD HSR.out)).2.1, (cellsS ((m1.alloc _).blk (k := w.heap.size) hneD HSR.out)).2.2.1, (cellsS ((m1.alloc _).blk (k := w.heap.size) hneD HSR.out)).2.2.2⟩) (fun hHeld => ?_)
            clear hK K
            try simp only [List.getElem_toArray, List.getElem_cons_zero, List.getElem_cons_succ, Act.put, List.setIfInBounds_toArray, List.set_cons_zero, List.set_cons_succ]
            refine wpk_name (fun W2 hW2 => ?_)
            have m2 : Moved D wr W2 := by rw [hW2]; exact m1.alloc (.cells #[.int .i64 0, .int .i64 0, .slice none 0 0] 49)
            have gb : W2.heap[W1.heap.size]? = some (.cells #[.int .i64 0, .int .i64 0, .slice none 0 0] 49 (0, 0)) := by rw [hW2]; exact blk_new rfl
            have hrb : wr.heap.size ≤ W1.heap.size := m1.size
            have HX2 : ∀ b, b < W1.heap.size → W2.heap[b]? = W1.heap[b]? := by rw [hW2]; exact fun b hb => heap_alloc_old _ _ hb
            have hnrb : w.heap.size ≠ W1.heap.size := by have := hzs; omega
            clear hW2 hHeld
            have hHeld : W2.cell? ⟨w.heap.size, 0, none⟩ = some (.slice af j cf) ∧ W2.cell? ⟨w.heap.size, 1, none⟩ = some vt ∧ W2.cell? ⟨w.heap.size, 2, none⟩ = some vn ∧ W2.cell? ⟨w.heap.size, 3, none⟩ = some vs := ⟨(cellsS (m2.blk (k := w.heap.size) hneD HSR.out)).1, (cellsS (m2.blk (k := w.heap.size) hneD HSR.out)).2.1, (cellsS (m2.blk (k := w.heap.size) hneD HSR.out)).2.2.1, (cellsS (m2.blk (k := w.heap.size) hneD HSR.out)).2.2.2⟩
            refine wpAnyK_ready (rs := [6]) (by kernel_rfl) (by simp) ?_
            refine AllReadyK.cons rfl (fun K hK => ?_) AllReadyK.nil
            go_simp
            have hlt0 : W1.heap.size < _ := lt_of_blk gb
            have hnum : numberedB id (1 + y) = true := by simp [numberedB]; omega
            obtain ⟨⟨r, er⟩, hR⟩ : ∃ R, makeN s id (1 + y) L = R := ⟨_, rfl⟩
            have hmk := rmake_yes S _ (.slice af j cf) vt vn vs s id (1 + y) L (.slice aL L.length cL) _ (HSr.out.moved HSne.out m2) (HV.out.move (S' := fun b => W.heap.size ≤ b) m2.size fun b hb hs => ⟨m2.grown.block b hb (by have hs' : W.heap.size ≤ b := hs; have h3 := HZW.out; have h4 := zD; simp; omega), hs⟩) HSD.out.check (HL.out.trans HN.out.symm) hnum (fun x hx => by have := HSh.out x hx; omega)
            rw [hR] at hmk
            refine hmk.mono ?_
            rintro e W3 ⟨_, rfl, ⟨sv, rfl, hvv⟩, hb⟩
            have m3 := m2.below hb
            have gb := blk_below hb (lt_of_blk gb) gb
            have hvv2 := hvv.move (w' := W3) (S' := fun b => w.heap.size + 2 ≤ b ∧ b ≠ W1.heap.size) (Nat.le_refl _) fun b hb' hs => ⟨rfl, by have h1 := m2.size; have h2 := HO.out.2.size; have h3 := HZW.out; have hs' := hs; exact ⟨by omega, by omega⟩⟩
            obtain ⟨asv, csv, esv⟩ := hvv2.slice; subst esv
            have HRR := Lib.hid hR
            clear hb hvv hmk hR
            refine shutK hK (⟨(cellsS (m3.blk (k := w.heap.size) hneD HSR.out)).1, (cellsS (m3.blk (k := w.heap.size) hneD HSR.out)).2.1, (cellsS (m3.blk (k := w.heap.size) hneD HSR.out)).2.2.1, (cellsS (m3.blk (k := w.heap.size) hneD HSR.out)).2.2.2⟩) (fun hHeld => ?_)
            clear hK K
            try simp only [List.getElem_toArray, List.getElem_cons_zero, List.getElem_cons_succ, Act.put, List.setIfInBounds_toArray, List.set_cons_zero, List.set_cons_succ]
            refine wpAnyK_take (i := 7) (v := ?_) rfl (by kernel_rfl) (by kernel_rfl) (by kernel_rfl) (by kernel_rfl) (fun _ _ _ h => h) (Or.inl ⟨by rfl, ?_⟩) (by assumption) ?_
            rotate_left 1
            · (intro wS hSw; (try dsimp only at hSw); go_simp; try with_reducible rfl)
            try simp only [List.getElem_toArray, List.getElem_cons_zero, List.getElem_cons_succ, Act.put, List.setIfInBounds_toArray, List.set_cons_zero, List.set_cons_succ]
            refine wpAnyK_take (i := 8) (v := ?_) rfl (by kernel_rfl) (by kernel_rfl) (by kernel_rfl) (by kernel_rfl) (fun _ _ _ h => h) (Or.inl ⟨by rfl, ?_⟩) (by assumption) ?_
            rotate_left 1
            · (intro wS hSw; (try dsimp only at hSw); go_simp; try with_reducible rfl)
            try simp only [List.getElem_toArray, List.getElem_cons_zero, List.getElem_cons_succ, Act.put, List.setIfInBounds_toArray, List.set_cons_zero, List.set_cons_succ]
            refine wpAnyK_take (i := 9) (v := ?_) rfl (by kernel_rfl) (by kernel_rfl) (by kernel_rfl) (by kernel_rfl) (fun _ _ _ h => h) (Or.inl ⟨by rfl, ?_⟩) (by assumption) ?_
            rotate_left 1
            · (intro wS hSw; (try dsimp only at hSw); go_simp; try with_reducible rfl)
            try simp only [List.getElem_toArray, List.getElem_cons_zero, List.getElem_cons_succ, Act.put, List.setIfInBounds_toArray, List.set_cons_zero, List.set_cons_succ]
            have hvv3 := hvv2
        rotate_left 2
        focus
          go_simp
          refine shutK hK (⟨(cellsS ((mD.alloc _).blk (k := w.heap.size) hneD HSR.out)).1, (cellsS ((mD.alloc _).blk (k := w.heap.size) hneD HSR.out)).2.1, (cellsS ((mD.alloc _).blk (k := w.heap.size) hneD HSR.out)).2.2.1, (cellsS ((mD.alloc _).blk (k := w.heap.size) hneD HSR.out)).2.2.2⟩) (fun hHeld => ?_)
          clear hK K
          try simp only [List.getElem_toArray, List.getElem_cons_zero, List.getElem_cons_succ, Act.put, List.setIfInBounds_toArray, List.set_cons_zero, List.set_cons_succ]
          refine wpk_name (fun W1 hW1 => ?_)
          have m1 : Moved D wr W1 := by rw [hW1]; exact mD.alloc (.cells #[.int .i64 0, .int .i64 0, .slice none 0 0] 49)
          have gb : W1.heap[wr.heap.size]? = some (.cells #[.int .i64 0, .int .i64 0, .slice none 0 0] 49 (0, 0)) := by rw [hW1]; exact blk_new rfl
          have hrb : wr.heap.size ≤ wr.heap.size := mD.size
          have HX1 : ∀ b, b < wr.heap.size → W1.heap[b]? = wr.heap[b]? := by rw [hW1]; exact fun b hb => heap_alloc_old _ _ hb
          have hnrb : w.heap.size ≠ wr.heap.size := by have := hzs; omega
          clear hW1 hHeld
          have hHeld : W1.cell? ⟨w.heap.size, 0, none⟩ = some (.slice af j cf) ∧ W1.cell? ⟨w.heap.size, 1, none⟩ = some vt ∧ W1.cell? ⟨w.heap.size, 2, none⟩ = some vn ∧ W1.cell? ⟨w.heap.size, 3, none⟩ = some vs := ⟨(cellsS (m1.blk (k := w.heap.size) hneD HSR.out)).1, (cellsS (m1.blk (k := w.heap.size) hneD HSR.out)).2.1, (cellsS (m1.blk (k := w.heap.size) hneD HSR.out)).2.2.1, (cellsS (m1.blk (k := w.heap.size) hneD HSR.out)).2.2.2⟩
          refine wpAnyK_ready (rs := [3]) (by kernel_rfl) (by simp) ?_
          refine AllReadyK.cons rfl (fun K hK => ?_) AllReadyK.nil
          go_simp
          refine (next_any D _ 3 m1.deck (by omega) (by omega)).mono ?_
          rintro e W2 ⟨y, rfl, y0, y1, mv⟩
          have m2 := m1.trans mv
          have gb := mv.blk (by have := zD; omega) gb
          clear mv
          have hwy : IntKind.i64.wrap (1 + y) = 1 + y := by rw [IntKind.wrap_i64]; omega
          refine shutK hK (⟨(cellsS (m2.blk (k := w.heap.size) hneD HSR.out)).1, (cellsS (m2.blk (k := w.heap.size) hneD HSR.out)).2.1, (cellsS (m2.blk (k := w.heap.size) hneD HSR.out)).2.2.1, (cellsS (m2.blk (k := w.heap.size) hneD HSR.out)).2.2.2⟩) (fun hHeld => ?_)
          clear hK K
          try simp only [List.getElem_toArray, List.getElem_cons_zero, List.getElem_cons_succ, Act.put, List.setIfInBounds_toArray, List.set_cons_zero, List.set_cons_succ]
          refine wpAnyK_take (i := 4) (v := ?_) rfl (by kernel_rfl) (by kernel_rfl) (by kernel_rfl) (by kernel_rfl) (fun _ _ _ h => h) (Or.inl ⟨by rfl, ?_⟩) (by assumption) ?_
          rotate_left 1
          · (intro wS hSw; (try dsimp only at hSw); go_simp; try with_reducible rfl)
          try simp only [List.getElem_toArray, List.getElem_cons_zero, List.getElem_cons_succ, Act.put, List.setIfInBounds_toArray, List.set_cons_zero, List.set_cons_succ]
          refine wpAnyK_ready (rs := [6]) (by kernel_rfl) (by simp) ?_
          refine AllReadyK.cons rfl (fun K hK => ?_) AllReadyK.nil
          go_simp
          have hlt0 : wr.heap.size < _ := lt_of_blk gb
          have hnum : numberedB id (1 + y) = true := by simp [numberedB]; omega
          obtain ⟨⟨r, er⟩, hR⟩ : ∃ R, makeN s id (1 + y) L = R := ⟨_, rfl⟩
          have hmk := rmake_yes S _ (.slice af j cf) vt vn vs s id (1 + y) L (.slice aL L.length cL) _ (HSr.out.moved HSne.out m2) (HV.out.move (S' := fun b => W.heap.size ≤ b) m2.size fun b hb hs => ⟨m2.grown.block b hb (by have hs' : W.heap.size ≤ b := hs; have h3 := HZW.out; have h4 := zD; simp; omega), hs⟩) HSD.out.check (HL.out.trans HN.out.symm) hnum (fun x hx => by have := HSh.out x hx; omega)
          rw [hR] at hmk
          refine hmk.mono ?_
          rintro e W3 ⟨_, rfl, ⟨sv, rfl, hvv⟩, hb⟩
          have m3 := m2.below hb
          have gb := blk_below hb (lt_of_blk gb) gb
          have hvv2 := hvv.move (w' := W3) (S' := fun b => w.heap.size + 2 ≤ b ∧ b ≠ wr.heap.size) (Nat.le_refl _) fun b hb' hs => ⟨rfl, by have h1 := m2.size; have h2 := HO.out.2.size; have h3 := HZW.out; have hs' := hs; exact ⟨by omega, by omega⟩⟩
          obtain ⟨asv, csv, esv⟩ := hvv2.slice; subst esv
          have HRR := Lib.hid hR
          clear hb hvv hmk hR
          refine shutK hK (⟨(cellsS (m3.blk (k := w.heap.size) hneD HSR.out)).1, (cellsS (m3.blk (k := w.heap.size) hneD HSR.out)).2.1, (cellsS (m3.blk (k := w.heap.size) hneD HSR.out)).2.2.1, (cellsS (m3.blk (k := w.heap.size) hneD HSR.out)).2.2.2⟩) (fun hHeld => ?_)
          clear hK K
          try simp only [List.getElem_toArray, List.getElem_cons_zero, List.getElem_cons_succ, Act.put, List.setIfInBounds_toArray, List.set_cons_zero, List.set_cons_succ]
          refine wpAnyK_take (i := 7) (v := ?_) rfl (by kernel_rfl) (by kernel_rfl) (by kernel_rfl) (by kernel_rfl) (fun _ _ _ h => h) (Or.inl ⟨by rfl, ?_⟩) (by assumption) ?_
          rotate_left 1
          · (intro wS hSw; (try dsimp only at hSw); go_simp; try with_reducible rfl)
          try simp only [List.getElem_toArray, List.getElem_cons_zero, List.getElem_cons_succ, Act.put, List.setIfInBounds_toArray, List.set_cons_zero, List.set_cons_succ]
          refine wpAnyK_take (i := 8) (v := ?_) rfl (by kernel_rfl) (by kernel_rfl) (by kernel_rfl) (by kernel_rfl) (fun _ _ _ h => h) (Or.inl ⟨by rfl, ?_⟩) (by assumption) ?_
          rotate_left 1
          · (intro wS hSw; (try dsimp only at hSw); go_simp; try with_reducible rfl)
          try simp only [List.getElem_toArray, List.getElem_cons_zero, List.getElem_cons_succ, Act.put, List.setIfInBounds_toArray, List.set_cons_zero, List.set_cons_succ]
          refine wpAnyK_take (i := 9) (v := ?_) rfl (by kernel_rfl) (by kernel_rfl) (by kernel_rfl) (by kernel_rfl) (fun _ _ _ h => h) (Or.inl ⟨by rfl, ?_⟩) (by assumption) ?_
          rotate_left 1
          · (intro wS hSw; (try dsimp only at hSw); go_simp; try with_reducible rfl)
          try simp only [List.getElem_toArray, List.getElem_cons_zero, List.getElem_cons_succ, Act.put, List.setIfInBounds_toArray, List.set_cons_zero, List.set_cons_succ]
          have hvv3 := hvv2
        all_goals
          obtain ⟨c0, c1, c2⟩ := cells3 gb; have f0 := frozen_of_row _ _ 0 _ _ gb; have f1 := frozen_of_row _ _ 1 _ _ gb; have f2 := frozen_of_row _ _ 2 _ _ gb; have za := lt_of_blk gb
          have hsx := blk_far (a := ⟨_, 2, none⟩) (v := .slice asv r.vals.length csv) (blk_far (a := ⟨_, 1, none⟩) (v := .int .i64 r.ver) (blk_far (a := ⟨_, 0, none⟩) (v := .int .i64 r.id) (m3.blk (k := w.heap.size) hneD HSR.out) hnrb) hnrb) hnrb
          refine wpAnyK_ready (rs := [11]) (by kernel_rfl) (by simp) ?_
          refine AllReadyK.cons rfl (fun K hK => ?_) AllReadyK.nil
          go_simp
          refine shutK hK (⟨(cellsS hsx).1, (cellsS hsx).2.1, (cellsS hsx).2.2.1, (cellsS hsx).2.2.2⟩) (fun hHeld => ?_)
          clear hK K
          try simp only [List.getElem_toArray, List.getElem_cons_zero, List.getElem_cons_succ, Act.put, List.setIfInBounds_toArray, List.set_cons_zero, List.set_cons_succ]
          refine wpAnyK_ready (rs := [12]) (by kernel_rfl) (by simp) ?_
          refine AllReadyK.cons rfl (fun K hK => ?_) AllReadyK.nil
          go_simp
          refine shutK_off hK (by decide) ?_
          clear hK K
          try simp only [List.getElem_toArray, List.getElem_cons_zero, List.getElem_cons_succ, Act.put, List.setIfInBounds_toArray, List.set_cons_zero, List.set_cons_succ]
          refine wpAnyK_done (by kernel_rfl) ?_ _
          refine NoPanic.normal ?_
          go_wp2_with fail
          go_meet
          exact ⟨_, er, y, _, r, rfl, rfl, blk_set (blk_set (blk_set gb)), (((hvv3.far (fun b hb => hb.2)).far (fun b hb => hb.2)).far (fun b hb => hb.2)).weaken (fun b hb => hb.1), HRR, y0, y1, ((m3.set hrb _).set hrb _).set hrb _, hrb⟩
      case rest =>
        obtain ⟨rb, er, y, sv, r, rfl, rfl, grb, hvr, HRR, y0, y1, mw, hrb⟩ := hcut
        obtain ⟨asv, csv, rfl⟩ := hvr.slice
        have hsz := mw.blk (k := w.heap.size) hneD HSR.out
        have hres := mw.blk (k := w.heap.size + 1) (by omega) (HO.out.2.blk (k := w.heap.size + 1) (by omega) HZ0.out)
        have hn1 : rb ≠ w.heap.size + 1 := by have h1 := HO.out.2.size; have h2 := HZW.out; omega
        have lr := lt_of_blk hres; have lb := lt_of_blk grb; have lz := lt_of_blk hsz
        have HRES := Lib.hid hres; have HMW := Lib.hid (HM.out.trans (HO.out.2.trans mw)); have HVR := Lib.hid hvr; have HGRB := Lib.hid grb
        obtain ⟨z0, z1, z2⟩ := cells3 hres; have f0 := frozen_of_row _ _ 0 _ _ hres; have f1 := frozen_of_row _ _ 1 _ _ hres; have f2 := frozen_of_row _ _ 2 _ _ hres
        obtain ⟨c0, c1, c2⟩ := cells3 grb; have g0 := frozen_of_row _ _ 0 _ _ grb; have g1 := frozen_of_row _ _ 1 _ _ grb; have g2 := frozen_of_row _ _ 2 _ _ grb
        clear s0 s1 s2 s3
        obtain ⟨s0, s1, s2, s3⟩ := cellsS hsz
        clear hsz hres grb hvr mw mD
        by_cases he : er = 0
        · subst he
          have d0 : ((0 : Int) != 0) = false := rfl
          have HMd := Lib.hid (rec_made HRR.out)
          clear g0 g1 g2
          go_wp2_with fail
          exact bodyPost_row1 rfl rfl (blk_set (i := 2) (blk_set (i := 1) (blk_set (i := 0) HRES.out))) Tryz.underlying49 rfl (by kernel_rfl)
            ⟨_, r, rfl, ⟨_, rfl, (((HVR.out.far (fun b hb => by show b ≠ w.heap.size + 1; have hb' : w.heap.size + 2 ≤ b := hb; omega)).far (fun b hb => by show b ≠ w.heap.size + 1; have hb' : w.heap.size + 2 ≤ b := hb; omega)).far (fun b hb => by show b ≠ w.heap.size + 1; have hb' : w.heap.size + 2 ≤ b := hb; omega)).weaken (fun b hb => by have hb' : w.heap.size + 2 ≤ b := hb; show w.heap.size ≤ b; omega)⟩, HMd.out.1, HMd.out.2.1, HMd.out.2.2,
              ((HMW.out.set (a := ⟨w.heap.size + 1, 0, none⟩) (Nat.le_succ _) _).set (a := ⟨w.heap.size + 1, 1, none⟩) (Nat.le_succ _) _).set (a := ⟨w.heap.size + 1, 2, none⟩) (Nat.le_succ _) _⟩
        · have d0 : (er != (0 : Int)) = true := by simpa using he
          have hmk := run_make_row' (P := Tryz.prog) 27 9 (.string ⟨#[]⟩) 16 Tryz.underlying27 infoS rfl .i64 .i64 j (by omega) (by omega)
          rw [made_strings] at hmk
          clear HVR HRR he
          go_upto_region 9 with fail
          refine wp_world (fun W9 hW9 => ?_)
          have hrw : w.heap.size ≤ rb := by have h1 := HO.out.2.size; have h2 := HZW.out; omega
          have hgb : W9.heap[rb]? = some (.cells #[.int .i64 id, .int .i64 1, .slice (some ⟨wc.heap.size, 0, none⟩) j j] 49 (0, 0)) := by rw [hW9]; exact blk_old (blk_set (i := 2) (blk_set (i := 1) (blk_set (i := 0) HGRB.out)))
          have hg9 : W9.heap[wc.heap.size]? = some (.cells ((List.replicate j ([] : List UInt8)).flatMap encS).toArray 9 (0, 0)) := by rw [hW9]; exact blk_new (by simp [World.setCell])
          have hr9 : W9.heap[w.heap.size + 1]? = some (.cells #[.int .i64 0, .int .i64 0, .slice none 0 0] 49 (0, 0)) := by rw [hW9]; exact blk_old (blk_far (blk_far (blk_far HRES.out hn1.symm) hn1.symm) hn1.symm)
          have m9 : Moved D w W9 := by rw [hW9]; exact (((HMW.out.set (a := ⟨rb, 0, none⟩) hrw _).set (a := ⟨rb, 1, none⟩) hrw _).set (a := ⟨rb, 2, none⟩) hrw _).alloc _
          have HG9 := Lib.hid hg9; have HR9 := Lib.hid hr9; have HM9 := Lib.hid m9
          clear hW9 c0 c1 c2 z0 z1 z2 f0 f1 f2 g0 g1 g2 s0 s1 s2 s3 m9 hmk
          obtain ⟨z0, z1, z2⟩ := cells3 hr9; have f0 := frozen_of_row _ _ 0 _ _ hr9; have f1 := frozen_of_row _ _ 1 _ _ hr9; have f2 := frozen_of_row _ _ 2 _ _ hr9
          obtain ⟨c0, c1, c2⟩ := cells3 hgb
          have l1 := lt_of_blk hr9; have l2 := lt_of_blk hgb
          have HCk := Lib.hid (show checkN s ⟨id, 1, List.replicate j []⟩ = 0 by rw [← HN.out]; exact rec_none HSD.out.check h1 h2)
          clear hr9 hgb hg9
          go_wp2_with fail
          exact bodyPost_row1 rfl rfl (blk_set (i := 2) (blk_set (i := 1) (blk_set (i := 0) HR9.out))) Tryz.underlying49 rfl (by kernel_rfl)
            ⟨_, ⟨id, 1, List.replicate j []⟩, rfl, ⟨_, rfl, (((blockVec (k := 1) (enc := encS) (L := List.replicate j ([] : List UInt8)) (S := fun b => w.heap.size ≤ b ∧ b ≠ w.heap.size + 1) (A := wc.heap.size) (fun _ => rfl) HG9.out ⟨by omega, by omega⟩ j (by simp)).far (fun b hb => hb.2)).far (fun b hb => hb.2)).far (fun b hb => hb.2) |>.weaken (fun b hb => hb.1)⟩, rfl, HCk.out, (by intro x hx; have := List.eq_of_mem_replicate hx; subst this; simp),
              ((HM9.out.set (a := ⟨w.heap.size + 1, 0, none⟩) (Nat.le_succ _) _).set (a := ⟨w.heap.size + 1, 1, none⟩) (Nat.le_succ _) _).set (a := ⟨w.heap.size + 1, 2, none⟩) (Nat.le_succ _) _⟩
end Go.Proofs.YtmakailcpkogdaaGreatDoor
end
section
/- Plain: two records made of one name and one date in other dress have the same values. -/
set_option linter.unusedSimpArgs false
set_option linter.unusedVariables false
set_option maxRecDepth 100000
namespace Go.Proofs.YtmakailcpkogdaaGreatDoor
open Go.RowKit Cal
def equalF : List F2 := [([103, 105, 118, 101, 110], 1), ([98, 105, 114, 116, 104], 2)]
theorem equal_check {r : RulesL} (hr : RulesD r) : checkS ⟨equalF, r⟩ = 0 := by
  have h1 : fieldsB equalF = true := by decide
  have h2 : ¬ (equalF.length < 1 ∨ 5 < equalF.length) := by decide
  unfold checkS
  rw [if_neg h2, if_pos h1, hr.check]
theorem equal_value {r : RulesL} (hr : RulesD r) {l : List UInt8} (hl : l ≠ []) : valueN ⟨equalF, r⟩ ((0 : Nat) : Int) l = nameN r l ∧ valueN ⟨equalF, r⟩ ((1 : Nat) : Int) l = dayN l := by
  have h0 : findN ⟨equalF, r⟩ ((0 : Nat) : Int) = (1, 0) := findN_in (f := 0) (equal_check hr) (show 0 < equalF.length by decide)
  have h1 : findN ⟨equalF, r⟩ ((1 : Nat) : Int) = (2, 0) := findN_in (f := 1) (equal_check hr) (show 1 < equalF.length by decide)
  refine ⟨?_, ?_⟩
  · unfold valueN; rw [h0, if_pos rfl, if_neg hl]; rfl
  · unfold valueN; rw [h1, if_pos rfl, if_neg hl]; rfl
theorem written_some (y m d f : Int) : writtenL y m d f ≠ [] := by intro e; have := written_len y m d f; rw [e] at this; simp at this
theorem equal_made {r : RulesL} (hr : RulesD r) {o pn : List UInt8} (h0 : o ≠ []) (ho : nameN r o = (pn, 0)) {y m d f : Int} (hv : vldB y m d = true) (hb : 1800 ≤ y ∧ y ≤ 2199 ∧ 0 ≤ m ∧ m ≤ 13 ∧ 1 ≤ d ∧ d ≤ 32) (hf : 0 ≤ f ∧ f ≤ 2) {id ver : Int} (hn : numberedB id ver = true) :
    makeN ⟨equalF, r⟩ id ver [o, writtenL y m d f] = (⟨id, ver, [pn, digits8 y m d]⟩, 0) := by
  have h1 := (equal_value hr h0).1
  have h2 := (equal_value hr (written_some y m d f)).2
  rw [ho] at h1
  rw [dayN_written y m d f hb hf, dayV, hv] at h2
  have hA : makeA ⟨equalF, r⟩ 0 [] [o, writtenL y m d f] = ([pn, digits8 y m d], 0) := by
    unfold makeA; rw [h1, if_pos rfl]
    unfold makeA; rw [h2]; rw [show (bif true then (digits8 y m d, (0 : Int)) else ([], 4)) = (digits8 y m d, 0) from rfl, if_pos rfl]
    rfl
  rw [makeN_in (equal_check hr) rfl hn, hA]; rfl
theorem equal_failed {r : RulesL} (hr : RulesD r) {o w : List UInt8} (h0 : o ≠ []) (ho : nameN r o = ([], 3)) {id ver : Int} (hn : numberedB id ver = true) :
    makeN ⟨equalF, r⟩ id ver [o, w] = (noRec, 3) := by
  have h1 := (equal_value hr h0).1
  rw [ho] at h1
  have hA : makeA ⟨equalF, r⟩ 0 [] [o, w] = ([], 3) := by
    unfold makeA; rw [h1, if_neg (by decide)]
  rw [makeN_in (equal_check hr) rfl hn, hA]; rfl
theorem encN_same {s : SchemaL} {P : List ParL} {k : Int × Int} {i v i' v' : Int} {V : List (List UInt8)} : (encN s P k ⟨i, v, V⟩).fields = (encN s P k ⟨i', v', V⟩).fields := rfl
end Go.Proofs.YtmakailcpkogdaaGreatDoor
end
section
/- Plain: how many words an array has. -/
set_option linter.unusedSimpArgs false
set_option linter.unusedVariables false
namespace Go.Proofs.YtmakailcpkogdaaGreatDoor
open Go.RowKit
theorem fieldN_words {s : SchemaL} {p : ParL} {k : Int × Int} {A : List (List UInt8)} {i : Nat} (hp : ParOk p) : (fieldN s p k A i).words.length ≤ 8 := by
  unfold fieldN
  split
  · simp [noBits]
  · unfold bloomN
    split
    · split
      · dsimp only
        rw [orGrams_len]
        have := hp.len2
        simp only [zeroW, List.length_replicate]; omega
      · simp [noBits]
    · simp [noBits]
theorem fieldsN_words {s : SchemaL} {P : List ParL} {k : Int × Int} {A : List (List UInt8)} {n : Nat} (hP : ParsOk P) (hn : n ≤ P.length) : ∀ b ∈ fieldsN s P k A n, b.words.length ≤ 1000000 := by
  intro b hb
  unfold fieldsN at hb
  obtain ⟨i, hi, rfl⟩ := List.mem_map.1 hb
  have := fieldN_words (s := s) (k := k) (A := A) (i := i) (hP.par i (by have := List.mem_range.1 hi; omega))
  omega
end Go.Proofs.YtmakailcpkogdaaGreatDoor
end
section
/- The law EncodeEqual, walked: for every list of numbers it returns true and leaves what was there. -/
set_option linter.unusedSimpArgs false
set_option linter.unusedVariables false
set_option maxRecDepth 100000
namespace Go.Proofs.YtmakailcpkogdaaGreatDoor
open Go.RowKit Cal
attribute [local go_sem] toList_mk mk_size bytes_append
set_option maxHeartbeats 400000 in
theorem edates_any (y m d : Int) (w : World) : Calls Tryz.prog 23 #[.agg #[.int .i64 y, .int .i64 m, .int .i64 d]] w fun e w' => e = .returned (.bool (vldB y m d)) ∧ Below w.heap.size w w' := by
  go_enter Tryz.func23, Tryz.ntmps23
  go_wp2_with fail
  refine (rvalid_any y m d _).mono ?_
  rintro e w1 ⟨rfl, hb⟩
  have HB := Lib.hid (((Below.refl w.heap.size w).alloc (Nat.le_refl _) (.cells #[.int .i64 y, .int .i64 m, .int .i64 d] 45)).trans (hb.mono (by simp)))
  clear hb
  go_wp2_with fail
  go_ret
  exact ⟨rfl, HB.out⟩
/-- where the law stands: the deck in block D, the schema in block y, the key in block kb -/
structure EqAt (D : Nat) (w : World) (y kb : Nat) (S : Nat → Prop) (vf vt vn vs : Value) (s : SchemaL) (pv : Value) (P : List ParL) (k : Int × Int) (wr : World) : Prop where
  m : Moved D w wr
  b : wr.heap[y]? = some (.cells #[vf, vt, vn, vs] 36 (0, 0))
  kk : wr.heap[kb]? = some (.cells #[.int .u64 k.1, .int .u64 k.2] 41 (0, 0))
  s : SchemaAt wr S vf vt vn vs s
  p : Vec wr S 3 encPar pv P
  ne : ∀ b, S b → b ≠ D
  yD : y ≠ D
  kD : kb ≠ D
theorem EqAt.moved {D : Nat} {w : World} {y kb : Nat} {S : Nat → Prop} {vf vt vn vs : Value} {s : SchemaL} {pv : Value} {P : List ParL} {k : Int × Int} {wr wd : World} (h : EqAt D w y kb S vf vt vn vs s pv P k wr) (m : Moved D wr wd) : EqAt D w y kb S vf vt vn vs s pv P k wd :=
  ⟨h.m.trans m, m.blk h.yD h.b, m.blk h.kD h.kk, h.s.moved h.ne m, h.p.move m.size fun b hb hs => ⟨m.grown.block b hb (by have := h.ne b hs; simp; omega), hs⟩, h.ne, h.yD, h.kD⟩
theorem EqAt.below {D : Nat} {w : World} {y kb : Nat} {S : Nat → Prop} {vf vt vn vs : Value} {s : SchemaL} {pv : Value} {P : List ParL} {k : Int × Int} {wr wd : World} (h : EqAt D w y kb S vf vt vn vs s pv P k wr) (hb : Below wr.heap.size wr wd) : EqAt D w y kb S vf vt vn vs s pv P k wd :=
  h.moved ((Moved.start h.m.deck).below hb)
theorem EqAt.held7 {D : Nat} {w : World} {y kb x : Nat} {S : Nat → Prop} {vf vt vn vs : Value} {s : SchemaL} {pv : Value} {P : List ParL} {k : Int × Int} {wr : World} {dy dm dd : Int} (h : EqAt D w y kb S vf vt vn vs s pv P k wr) (hx : wr.heap[x]? = some (.cells #[.int .i64 dy, .int .i64 dm, .int .i64 dd] 45 (0, 0))) :
    wr.cell? ⟨y, 0, none⟩ = some vf ∧ wr.cell? ⟨y, 1, none⟩ = some vt ∧ wr.cell? ⟨y, 2, none⟩ = some vn ∧ wr.cell? ⟨y, 3, none⟩ = some vs ∧ wr.cell? ⟨x, 0, none⟩ = some (.int .i64 dy) ∧ wr.cell? ⟨x, 1, none⟩ = some (.int .i64 dm) ∧ wr.cell? ⟨x, 2, none⟩ = some (.int .i64 dd) := by
  obtain ⟨p0, p1, p2, p3⟩ := cellsS h.b
  obtain ⟨c0, c1, c2⟩ := cells3 hx
  exact ⟨p0, p1, p2, p3, c0, c1, c2⟩
set_option maxHeartbeats 16000000 in
theorem eequal_walk (a : Option Addr) (n cap : Nat) (zs : List Int) (w : World) (hr : IsRow .i64 w a n cap zs) :
    Calls Tryz.prog 3 #[.slice a n cap] w fun e w' => e = .returned (.bool true) ∧ Below w.heap.size w w' := by
  by_cases hn : n ≤ 400
  · have hd : decide (n ≤ 400) = true := by simpa using hn
    have HR := Lib.hid hr; clear hr
    go_enter Tryz.func3, Tryz.ntmps3
    go_wp2_with fail
    refine (awake_e _).mono ?_; rintro e w1 ⟨rfl, hb1⟩
    go_wp2_with fail
    refine (few_any a n cap _).mono ?_; rintro e w' ⟨rfl, rfl⟩
    go_wp2_with fail
    refine (new_any a n cap _).mono ?_; rintro e w' ⟨rfl, rfl⟩
    have Hdk := Lib.hid (deck_law (cap := cap) hn HR.out hb1)
    have HB1 := Lib.hid (hb1.alloc hb1.size (.cells #[.slice a n cap, .int .i64 0, .int .u64 11400714819323198485] 115))
    have zB1 := hb1.size
    clear hb1 HR hd
    go_wp2_with fail
    refine (rules_deal _ _ Hdk.out).mono ?_
    rintro e w2 ⟨vt, vn, vs, r, rfl, hr, hd, mv⟩
    obtain ⟨Wd, hWd⟩ : ∃ Wd : World, w1.alloc (.cells #[.slice a n cap, .int .i64 0, .int .u64 11400714819323198485] 115) = Wd := ⟨_, rfl⟩
    rw [hWd] at mv hr HB1
    obtain ⟨D, hD⟩ : ∃ D, w1.heap.size = D := ⟨_, rfl⟩
    have zWd : Wd.heap.size = D + 1 := by rw [← hWd, ← hD]; simp
    rw [hD] at mv zB1 ⊢
    obtain ⟨at', ct, rfl⟩ := hr.1.slice
    obtain ⟨an, cn, rfl⟩ := hr.2.1.slice
    obtain ⟨as', cs, rfl⟩ := hr.2.2.slice
    have zD := mv.deck.lt
    have M2 := Lib.hid mv; have HR := Lib.hid hr; have HRD := Lib.hid hd
    clear mv hr hd hWd hD Hdk
    go_wp2_with fail
    refine wp_calls_world (fun W3 hW3 => ?_)
    have hb3 : Below w2.heap.size w2 W3 := by rw [hW3]; exact ((Below.refl w2.heap.size w2).alloc (Nat.le_refl _) _).alloc (by simp) _
    have hf3 : W3.heap[w2.heap.size]? = some (.cells (equalF.flatMap encF).toArray 33 (0, 0)) := by rw [hW3]; exact blk_old (blk_new rfl)
    have hs3 : W3.heap[w2.heap.size + 1]? = some (.cells #[.slice (some ⟨w2.heap.size, 0, none⟩) 2 2, .slice at' r.titles.length ct, .slice an r.nicks.length cn, .slice as' r.streets.length cs] 36 (0, 0)) := by rw [hW3]; exact blk_new (by simp)
    have S3 : SchemaAt W3 (fun b => Wd.heap.size ≤ b) (.slice (some ⟨w2.heap.size, 0, none⟩) 2 2) (.slice at' r.titles.length ct) (.slice an r.nicks.length cn) (.slice as' r.streets.length cs) ⟨equalF, r⟩ :=
      ⟨blockVec (k := 2) (enc := encF) (L := equalF) (S := fun b => Wd.heap.size ≤ b) (A := w2.heap.size) (fun _ => rfl) hf3 (M2.out.size) 2 rfl, HR.out.below hb3⟩
    have M3 := Lib.hid (M2.out.below hb3); have HS3 := Lib.hid hs3; have HSA := Lib.hid S3
    have z23 := M2.out.size
    have hSne : ∀ b, Wd.heap.size ≤ b → b ≠ D := fun b h => by omega
    have HNe := Lib.hid hSne
    clear hb3 hf3 hs3 S3 HR hW3 M2 hSne
    refine (pars_deal D 2 W3 M3.out.deck (by omega)).mono ?_
    rintro e w4 ⟨pv, P, rfl, hpv, hP, mv⟩
    obtain ⟨ap, cp, rfl⟩ := hpv.slice
    have HPD := Lib.hid hP
    have M4 := Lib.hid (M3.out.trans mv)
    have HS4 := Lib.hid (mv.blk (k := w2.heap.size + 1) (by omega) HS3.out)
    have HSA4 := Lib.hid (HSA.out.moved HNe.out mv)
    have HPV4 := Lib.hid (hpv.move (S' := fun b => Wd.heap.size ≤ b) (w' := w4) (Nat.le_refl _) fun b hb hs => ⟨rfl, by have h1 := M3.out.size; have hs' : W3.heap.size ≤ b := hs; show Wd.heap.size ≤ b; omega⟩)
    clear hpv hP mv M3 HS3 HSA
    go_wp2_with fail
    refine (key_deal D _ M4.out.deck).mono ?_
    rintro e w5 ⟨k, rfl, mv⟩
    go_wp2_with fail
    refine wp_calls_world (fun W5 hW5 => ?_)
    have hb5 : Below w5.heap.size w5 W5 := by rw [hW5]; exact (Below.refl w5.heap.size w5).alloc (Nat.le_refl _) _
    have hk5 : W5.heap[w5.heap.size]? = some (.cells #[.int .u64 k.1, .int .u64 k.2] 41 (0, 0)) := by rw [hW5]; exact blk_new rfl
    have z5 := mv.deck.lt
    have mv5 := mv.below hb5
    have KA := Lib.hid (show EqAt D Wd (w2.heap.size + 1) w5.heap.size (fun b => Wd.heap.size ≤ b) (.slice (some ⟨w2.heap.size, 0, none⟩) 2 2) (.slice at' r.titles.length ct) (.slice an r.nicks.length cn) (.slice as' r.streets.length cs) ⟨equalF, r⟩ (.slice ap P.length cp) P k W5 from
      ⟨M4.out.trans mv5, mv5.blk (by omega) HS4.out, hk5, HSA4.out.moved HNe.out mv5, HPV4.out.move mv5.size (fun b hb hs => ⟨mv5.grown.block b hb (by have := HNe.out b hs; simp; omega), hs⟩), HNe.out, by omega, by omega⟩)
    clear hb5 hk5 mv mv5 hW5 M4 HS4 HSA4 HPV4
    refine (token_word D _ KA.out.m.deck).mono ?_
    rintro e w6 ⟨t1, rfl, ht1, mv⟩
    have KB := Lib.hid (KA.out.moved mv); have HW1 := Lib.hid ht1
    have l1 := ht1.2.2
    clear mv KA ht1
    go_wp2_with fail
    refine (token_word D _ KB.out.m.deck).mono ?_
    rintro e w7 ⟨t2, rfl, ht2, mv⟩
    have KC := Lib.hid (KB.out.moved mv); have HW2 := Lib.hid ht2
    have l2 := ht2.2.2
    clear mv KB ht2
    obtain ⟨pn, hpn, hdr⟩ := name_forms HRD.out HW1.out HW2.out
    have hok := two_ok HW1.out HW2.out
    have htk := two_toks HW1.out HW2.out
    obtain ⟨nn, hnn⟩ : ∃ nn, t1 ++ [32] ++ t2 = nn := ⟨_, rfl⟩
    have e1 : t1 ++ 32 :: t2 = nn := by rw [← hnn]; simp
    have hnl : nn.length ≤ 33 := by rw [← hnn]; simp; omega
    have hn0 : nn ≠ [] := by rw [← hnn]; simp
    rw [hnn] at hpn hdr hok htk
    have HPn := Lib.hid hpn; have HDr := Lib.hid hdr; have HOk := Lib.hid hok; have HTk := Lib.hid htk; have HN0 := Lib.hid hn0
    clear hnn hpn hdr hok htk hn0
    go_wp2_with fail
    refine (date_any D _ KC.out.m.deck).mono ?_
    rintro e w8 ⟨dy, dm, dd, rfl, bd, mv⟩
    have KD := Lib.hid (KC.out.moved mv)
    have BD := Lib.hid bd
    clear mv KC bd
    go_wp2_with fail
    refine wp_calls_world (fun W8 hW8 => ?_)
    have hb8 : Below w8.heap.size w8 W8 := by rw [hW8]; exact (Below.refl w8.heap.size w8).alloc (Nat.le_refl _) _
    have hx8 : W8.heap[w8.heap.size]? = some (.cells #[.int .i64 dy, .int .i64 dm, .int .i64 dd] 45 (0, 0)) := by rw [hW8]; exact blk_new rfl
    have z8 := KD.out.m.deck.lt
    have KE := KD.out.below hb8
    clear hb8 hW8 KD
    refine (edates_any dy dm dd _).mono ?_
    rintro e w9 ⟨rfl, hb⟩
    have hx9 := blk_below hb (lt_of_blk hx8) hx8
    have KF := Lib.hid (KE.below hb); have HX9 := Lib.hid hx9
    have hxD : w8.heap.size ≠ D := by omega
    clear hb hx8 hx9 KE
    cases hv : vldB dy dm dd
    · go_wp2_with fail
      go_ret
      exact ⟨rfl, KF.out.m.base HB1.out (by omega)⟩
    · have HVd := Lib.hid hv; clear hv
      go_wp2_with fail
      have mD : Moved D w9 w9.drew := (Moved.start KF.out.m.deck).drew
      obtain ⟨wr0, h0⟩ : ∃ t, writtenL dy dm dd 0 = t := ⟨_, rfl⟩
      obtain ⟨wr1, h1⟩ : ∃ t, writtenL dy dm dd 1 = t := ⟨_, rfl⟩
      have hl0 : wr0.length = 10 := by rw [← h0]; exact written_len dy dm dd 0
      have hl1 : wr1.length = 10 := by rw [← h1]; exact written_len dy dm dd 1
      have HWR0 := Lib.hid h0; have HWR1 := Lib.hid h1
      clear h0 h1
      go_cut [9, 10] (fun s9 s10 wx => ∃ (rb : Nat) (er : Int) (sv : Value) (r1 : RecL), s9 = .pointer (some ⟨rb, 0, none⟩) ∧ s10 = .int .i64 er ∧ wx.heap[rb]? = some (.cells #[.int .i64 r1.id, .int .i64 r1.ver, sv] 49 (0, 0)) ∧ Vec wx (fun b => w9.heap.size ≤ b) 1 encS sv r1.vals ∧ Hid (makeN ⟨equalF, r⟩ 1 1 [nn, wr0] = (r1, er)) ∧ Moved D w9 wx ∧ w9.heap.size ≤ rb)
      case first =>
        refine wp_region_noPanic ?_
        refine wp_region_held_drew (S := (fun w' => w'.cell? ⟨w2.heap.size + 1, 0, none⟩ = some (.slice (some ⟨w2.heap.size, 0, none⟩) 2 2) ∧ w'.cell? ⟨w2.heap.size + 1, 1, none⟩ = some (.slice at' r.titles.length ct) ∧ w'.cell? ⟨w2.heap.size + 1, 2, none⟩ = some (.slice an r.nicks.length cn) ∧ w'.cell? ⟨w2.heap.size + 1, 3, none⟩ = some (.slice as' r.streets.length cs) ∧ w'.cell? ⟨w8.heap.size, 0, none⟩ = some (.int .i64 dy) ∧ w'.cell? ⟨w8.heap.size, 1, none⟩ = some (.int .i64 dm) ∧ w'.cell? ⟨w8.heap.size, 2, none⟩ = some (.int .i64 dd))) (by kernel_rfl) ((KF.out.moved (Moved.start KF.out.m.deck)).held7 HX9.out) (fun hHeld => ?_)
        refine wpAnyH_take (i := 0) (v := ?_) rfl (by kernel_rfl) (by kernel_rfl) (by kernel_rfl) (fun _ _ _ h => h) (Or.inl ⟨by rfl, ?_⟩) (by assumption) ?_
        rotate_left 1
        · (intro wS hSw; (try dsimp only at hSw); go_simp; try with_reducible rfl)
        try simp only [List.getElem_toArray, List.getElem_cons_zero, List.getElem_cons_succ, Act.put, List.setIfInBounds_toArray, List.set_cons_zero, List.set_cons_succ]
        refine wpAnyH_take (i := 1) (v := ?_) rfl (by kernel_rfl) (by kernel_rfl) (by kernel_rfl) (fun _ _ _ h => h) (Or.inl ⟨by rfl, ?_⟩) (by assumption) ?_
        rotate_left 1
        · (intro wS hSw; (try dsimp only at hSw); go_simp; try with_reducible rfl)
        try simp only [List.getElem_toArray, List.getElem_cons_zero, List.getElem_cons_succ, Act.put, List.setIfInBounds_toArray, List.set_cons_zero, List.set_cons_succ]
        refine wpAnyH_take (i := 2) (v := ?_) rfl (by kernel_rfl) (by kernel_rfl) (by kernel_rfl) (fun _ _ _ h => h) (Or.inl ⟨by rfl, ?_⟩) (by assumption) ?_
        rotate_left 1
        · (intro wS hSw; (try dsimp only at hSw); go_simp; try with_reducible rfl)
        try simp only [List.getElem_toArray, List.getElem_cons_zero, List.getElem_cons_succ, Act.put, List.setIfInBounds_toArray, List.set_cons_zero, List.set_cons_succ]
        refine wpAnyH_ready (rs := [3, 9]) (by kernel_rfl) (by simp) ?_
        refine AllReadyH.cons rfl (fun K hK => ?_) (AllReadyH.cons rfl (fun K hK => ?_) (AllReadyH.nil))
        focus
          go_simp
          refine (written_any dy dm dd 0 _ BD.out (by omega)).mono ?_
          rw [HWR0.out]
          rintro e V1 ⟨rfl, hb⟩
          have m1 := mD.below hb
          clear hb
          refine hK.out _ _ ((KF.out.moved m1).held7 ((m1).blk hxD HX9.out)) (fun hHeld => ?_)
          clear hK K
          try simp only [List.getElem_toArray, List.getElem_cons_zero, List.getElem_cons_succ, Act.put, List.setIfInBounds_toArray, List.set_cons_zero, List.set_cons_succ]
          refine wpAnyH_ready (rs := [4, 9]) (by kernel_rfl) (by simp) ?_
          refine AllReadyH.cons rfl (fun K hK => ?_) (AllReadyH.cons rfl (fun K hK => ?_) (AllReadyH.nil))
          focus
            go_simp
            refine hK.out _ _ ((KF.out.moved (m1.alloc (.cells ([nn, wr0].flatMap encS).toArray 9))).held7 (((m1.alloc (.cells ([nn, wr0].flatMap encS).toArray 9))).blk hxD HX9.out)) (fun hHeld => ?_)
            clear hK K
            try simp only [List.getElem_toArray, List.getElem_cons_zero, List.getElem_cons_succ, Act.put, List.setIfInBounds_toArray, List.set_cons_zero, List.set_cons_succ]
            refine wph_name (fun V2 hV => ?_)
            have m2 : Moved D w9 V2 := by rw [hV]; exact m1.alloc (.cells ([nn, wr0].flatMap encS).toArray 9)
            have gl : V2.heap[V1.heap.size]? = some (.cells ([nn, wr0].flatMap encS).toArray 9 (0, 0)) := by rw [hV]; exact blk_new rfl
            clear hV hHeld
            have hHeld : V2.cell? ⟨w2.heap.size + 1, 0, none⟩ = some (.slice (some ⟨w2.heap.size, 0, none⟩) 2 2) ∧ V2.cell? ⟨w2.heap.size + 1, 1, none⟩ = some (.slice at' r.titles.length ct) ∧ V2.cell? ⟨w2.heap.size + 1, 2, none⟩ = some (.slice an r.nicks.length cn) ∧ V2.cell? ⟨w2.heap.size + 1, 3, none⟩ = some (.slice as' r.streets.length cs) ∧ V2.cell? ⟨w8.heap.size, 0, none⟩ = some (.int .i64 dy) ∧ V2.cell? ⟨w8.heap.size, 1, none⟩ = some (.int .i64 dm) ∧ V2.cell? ⟨w8.heap.size, 2, none⟩ = some (.int .i64 dd) := (KF.out.moved m2).held7 ((m2).blk hxD HX9.out)
            refine wpAnyH_ready (rs := [5, 9]) (by kernel_rfl) (by simp) ?_
            refine AllReadyH.cons rfl (fun K hK => ?_) (AllReadyH.cons rfl (fun K hK => ?_) (AllReadyH.nil))
            focus
              go_simp
              obtain ⟨⟨r1, er⟩, hR⟩ : ∃ R, makeN ⟨equalF, r⟩ 1 1 [nn, wr0] = R := ⟨_, rfl⟩
              have hmk := rmake_yes (fun b => Wd.heap.size ≤ b) Any1 _ _ _ _ ⟨equalF, r⟩ 1 1 [nn, wr0] (.slice (some ⟨V1.heap.size, 0, none⟩) 2 2) _ (KF.out.moved m2).s (blockVec (k := 1) (enc := encS) (L := [nn, wr0]) (S := Any1) (A := V1.heap.size) (fun _ => rfl) gl trivial 2 rfl) (equal_check HRD.out) rfl (by decide) (by intro x hx; simp at hx; rcases hx with rfl | rfl <;> omega)
              rw [hR] at hmk
              refine hmk.mono ?_
              rintro e V3 ⟨_, rfl, ⟨sv, rfl, hvv⟩, hb⟩
              have m3 := m2.below hb
              have gl := blk_below hb (lt_of_blk gl) gl
              have hvv := hvv.move (w' := V3) (S' := fun b => w9.heap.size ≤ b) (Nat.le_refl _) fun b hb' hs => ⟨rfl, by have h1 := m2.size; have hs' := hs; omega⟩
              obtain ⟨asv, csv, esv⟩ := hvv.slice; subst esv
              have HRR := Lib.hid hR
              clear hb hmk hR
              refine hK.out _ _ ((KF.out.moved m3).held7 ((m3).blk hxD HX9.out)) (fun hHeld => ?_)
              clear hK K
              try simp only [List.getElem_toArray, List.getElem_cons_zero, List.getElem_cons_succ, Act.put, List.setIfInBounds_toArray, List.set_cons_zero, List.set_cons_succ]
              refine wpAnyH_take (i := 6) (v := ?_) rfl (by kernel_rfl) (by kernel_rfl) (by kernel_rfl) (fun _ _ _ h => h) (Or.inl ⟨by rfl, ?_⟩) (by assumption) ?_
              rotate_left 1
              · (intro wS hSw; (try dsimp only at hSw); go_simp; try with_reducible rfl)
              try simp only [List.getElem_toArray, List.getElem_cons_zero, List.getElem_cons_succ, Act.put, List.setIfInBounds_toArray, List.set_cons_zero, List.set_cons_succ]
              refine wpAnyH_take (i := 7) (v := ?_) rfl (by kernel_rfl) (by kernel_rfl) (by kernel_rfl) (fun _ _ _ h => h) (Or.inl ⟨by rfl, ?_⟩) (by assumption) ?_
              rotate_left 1
              · (intro wS hSw; (try dsimp only at hSw); go_simp; try with_reducible rfl)
              try simp only [List.getElem_toArray, List.getElem_cons_zero, List.getElem_cons_succ, Act.put, List.setIfInBounds_toArray, List.set_cons_zero, List.set_cons_succ]
              refine wpAnyH_take (i := 8) (v := ?_) rfl (by kernel_rfl) (by kernel_rfl) (by kernel_rfl) (fun _ _ _ h => h) (Or.inl ⟨by rfl, ?_⟩) (by assumption) ?_
              rotate_left 1
              · (intro wS hSw; (try dsimp only at hSw); go_simp; try with_reducible rfl)
              try simp only [List.getElem_toArray, List.getElem_cons_zero, List.getElem_cons_succ, Act.put, List.setIfInBounds_toArray, List.set_cons_zero, List.set_cons_succ]
              refine wpAnyH_ready (rs := [9]) (by kernel_rfl) (by simp) ?_
              refine AllReadyH.cons rfl (fun K hK => ?_) (AllReadyH.nil)
              go_simp
              refine hK.out _ _ ((KF.out.moved (m3.alloc (.cells #[.int .i64 0, .int .i64 0, .slice none 0 0] 49))).held7 (((m3.alloc (.cells #[.int .i64 0, .int .i64 0, .slice none 0 0] 49))).blk hxD HX9.out)) (fun hHeld => ?_)
              clear hK K
              try simp only [List.getElem_toArray, List.getElem_cons_zero, List.getElem_cons_succ, Act.put, List.setIfInBounds_toArray, List.set_cons_zero, List.set_cons_succ]
              refine wph_name (fun V4 hV => ?_)
              have m4 : Moved D w9 V4 := by rw [hV]; exact m3.alloc (.cells #[.int .i64 0, .int .i64 0, .slice none 0 0] 49)
              have gl := show V4.heap[_]? = some _ by rw [hV]; exact blk_old gl
              have gb : V4.heap[V3.heap.size]? = some (.cells #[.int .i64 0, .int .i64 0, .slice none 0 0] 49 (0, 0)) := by rw [hV]; exact blk_new rfl
              have hvv := hvv.move (w' := V4) (S' := fun b => w9.heap.size ≤ b ∧ b ≠ V3.heap.size) (by rw [hV]; simp) fun b hb' hs => ⟨by rw [hV]; exact heap_alloc_old _ _ hb', hs, by omega⟩
              have hrb : w9.heap.size ≤ V3.heap.size := m3.size
              clear hV hHeld
              have hHeld : V4.cell? ⟨w2.heap.size + 1, 0, none⟩ = some (.slice (some ⟨w2.heap.size, 0, none⟩) 2 2) ∧ V4.cell? ⟨w2.heap.size + 1, 1, none⟩ = some (.slice at' r.titles.length ct) ∧ V4.cell? ⟨w2.heap.size + 1, 2, none⟩ = some (.slice an r.nicks.length cn) ∧ V4.cell? ⟨w2.heap.size + 1, 3, none⟩ = some (.slice as' r.streets.length cs) ∧ V4.cell? ⟨w8.heap.size, 0, none⟩ = some (.int .i64 dy) ∧ V4.cell? ⟨w8.heap.size, 1, none⟩ = some (.int .i64 dm) ∧ V4.cell? ⟨w8.heap.size, 2, none⟩ = some (.int .i64 dd) := (KF.out.moved m4).held7 ((m4).blk hxD HX9.out)
            rotate_left 1
            focus
              go_simp
              refine hK.out _ _ ((KF.out.moved (m2.alloc (.cells #[.int .i64 0, .int .i64 0, .slice none 0 0] 49))).held7 (((m2.alloc (.cells #[.int .i64 0, .int .i64 0, .slice none 0 0] 49))).blk hxD HX9.out)) (fun hHeld => ?_)
              clear hK K
              try simp only [List.getElem_toArray, List.getElem_cons_zero, List.getElem_cons_succ, Act.put, List.setIfInBounds_toArray, List.set_cons_zero, List.set_cons_succ]
              refine wph_name (fun V3 hV => ?_)
              have m3 : Moved D w9 V3 := by rw [hV]; exact m2.alloc (.cells #[.int .i64 0, .int .i64 0, .slice none 0 0] 49)
              have gl := show V3.heap[_]? = some _ by rw [hV]; exact blk_old gl
              have gb : V3.heap[V2.heap.size]? = some (.cells #[.int .i64 0, .int .i64 0, .slice none 0 0] 49 (0, 0)) := by rw [hV]; exact blk_new rfl
              have hrb : w9.heap.size ≤ V2.heap.size := m2.size
              clear hV hHeld
              have hHeld : V3.cell? ⟨w2.heap.size + 1, 0, none⟩ = some (.slice (some ⟨w2.heap.size, 0, none⟩) 2 2) ∧ V3.cell? ⟨w2.heap.size + 1, 1, none⟩ = some (.slice at' r.titles.length ct) ∧ V3.cell? ⟨w2.heap.size + 1, 2, none⟩ = some (.slice an r.nicks.length cn) ∧ V3.cell? ⟨w2.heap.size + 1, 3, none⟩ = some (.slice as' r.streets.length cs) ∧ V3.cell? ⟨w8.heap.size, 0, none⟩ = some (.int .i64 dy) ∧ V3.cell? ⟨w8.heap.size, 1, none⟩ = some (.int .i64 dm) ∧ V3.cell? ⟨w8.heap.size, 2, none⟩ = some (.int .i64 dd) := (KF.out.moved m3).held7 ((m3).blk hxD HX9.out)
              refine wpAnyH_ready (rs := [5]) (by kernel_rfl) (by simp) ?_
              refine AllReadyH.cons rfl (fun K hK => ?_) (AllReadyH.nil)
              go_simp
              have hlt0 := lt_of_blk gb
              obtain ⟨⟨r1, er⟩, hR⟩ : ∃ R, makeN ⟨equalF, r⟩ 1 1 [nn, wr0] = R := ⟨_, rfl⟩
              have hmk := rmake_yes (fun b => Wd.heap.size ≤ b) Any1 _ _ _ _ ⟨equalF, r⟩ 1 1 [nn, wr0] (.slice (some ⟨V1.heap.size, 0, none⟩) 2 2) _ (KF.out.moved m3).s (blockVec (k := 1) (enc := encS) (L := [nn, wr0]) (S := Any1) (A := V1.heap.size) (fun _ => rfl) gl trivial 2 rfl) (equal_check HRD.out) rfl (by decide) (by intro x hx; simp at hx; rcases hx with rfl | rfl <;> omega)
              rw [hR] at hmk
              refine hmk.mono ?_
              rintro e V4 ⟨_, rfl, ⟨sv, rfl, hvv⟩, hb⟩
              have m4 := m3.below hb
              have gl := blk_below hb (lt_of_blk gl) gl
              have gb := blk_below hb (lt_of_blk gb) gb
              have hvv := hvv.move (w' := V4) (S' := fun b => w9.heap.size ≤ b ∧ b ≠ V2.heap.size) (Nat.le_refl _) fun b hb' hs => ⟨rfl, by have h1 := m3.size; have hs' := hs; exact ⟨by omega, by omega⟩⟩
              obtain ⟨asv, csv, esv⟩ := hvv.slice; subst esv
              have HRR := Lib.hid hR
              clear hb hmk hR
              refine hK.out _ _ ((KF.out.moved m4).held7 ((m4).blk hxD HX9.out)) (fun hHeld => ?_)
              clear hK K
              try simp only [List.getElem_toArray, List.getElem_cons_zero, List.getElem_cons_succ, Act.put, List.setIfInBounds_toArray, List.set_cons_zero, List.set_cons_succ]
              refine wpAnyH_take (i := 6) (v := ?_) rfl (by kernel_rfl) (by kernel_rfl) (by kernel_rfl) (fun _ _ _ h => h) (Or.inl ⟨by rfl, ?_⟩) (by assumption) ?_
              rotate_left 1
              · (intro wS hSw; (try dsimp only at hSw); go_simp; try with_reducible rfl)
              try simp only [List.getElem_toArray, List.getElem_cons_zero, List.getElem_cons_succ, Act.put, List.setIfInBounds_toArray, List.set_cons_zero, List.set_cons_succ]
              refine wpAnyH_take (i := 7) (v := ?_) rfl (by kernel_rfl) (by kernel_rfl) (by kernel_rfl) (fun _ _ _ h => h) (Or.inl ⟨by rfl, ?_⟩) (by assumption) ?_
              rotate_left 1
              · (intro wS hSw; (try dsimp only at hSw); go_simp; try with_reducible rfl)
              try simp only [List.getElem_toArray, List.getElem_cons_zero, List.getElem_cons_succ, Act.put, List.setIfInBounds_toArray, List.set_cons_zero, List.set_cons_succ]
              refine wpAnyH_take (i := 8) (v := ?_) rfl (by kernel_rfl) (by kernel_rfl) (by kernel_rfl) (fun _ _ _ h => h) (Or.inl ⟨by rfl, ?_⟩) (by assumption) ?_
              rotate_left 1
              · (intro wS hSw; (try dsimp only at hSw); go_simp; try with_reducible rfl)
              try simp only [List.getElem_toArray, List.getElem_cons_zero, List.getElem_cons_succ, Act.put, List.setIfInBounds_toArray, List.set_cons_zero, List.set_cons_succ]
          rotate_left 2
          focus
            go_simp
            refine hK.out _ _ ((KF.out.moved (m1.alloc (.cells #[.int .i64 0, .int .i64 0, .slice none 0 0] 49))).held7 (((m1.alloc (.cells #[.int .i64 0, .int .i64 0, .slice none 0 0] 49))).blk hxD HX9.out)) (fun hHeld => ?_)
            clear hK K
            try simp only [List.getElem_toArray, List.getElem_cons_zero, List.getElem_cons_succ, Act.put, List.setIfInBounds_toArray, List.set_cons_zero, List.set_cons_succ]
            refine wph_name (fun V2 hV => ?_)
            have m2 : Moved D w9 V2 := by rw [hV]; exact m1.alloc (.cells #[.int .i64 0, .int .i64 0, .slice none 0 0] 49)
            have gb : V2.heap[V1.heap.size]? = some (.cells #[.int .i64 0, .int .i64 0, .slice none 0 0] 49 (0, 0)) := by rw [hV]; exact blk_new rfl
            have hrb : w9.heap.size ≤ V1.heap.size := m1.size
            clear hV hHeld
            have hHeld : V2.cell? ⟨w2.heap.size + 1, 0, none⟩ = some (.slice (some ⟨w2.heap.size, 0, none⟩) 2 2) ∧ V2.cell? ⟨w2.heap.size + 1, 1, none⟩ = some (.slice at' r.titles.length ct) ∧ V2.cell? ⟨w2.heap.size + 1, 2, none⟩ = some (.slice an r.nicks.length cn) ∧ V2.cell? ⟨w2.heap.size + 1, 3, none⟩ = some (.slice as' r.streets.length cs) ∧ V2.cell? ⟨w8.heap.size, 0, none⟩ = some (.int .i64 dy) ∧ V2.cell? ⟨w8.heap.size, 1, none⟩ = some (.int .i64 dm) ∧ V2.cell? ⟨w8.heap.size, 2, none⟩ = some (.int .i64 dd) := (KF.out.moved m2).held7 ((m2).blk hxD HX9.out)
            refine wpAnyH_ready (rs := [4]) (by kernel_rfl) (by simp) ?_
            refine AllReadyH.cons rfl (fun K hK => ?_) (AllReadyH.nil)
            go_simp
            refine hK.out _ _ ((KF.out.moved (m2.alloc (.cells ([nn, wr0].flatMap encS).toArray 9))).held7 (((m2.alloc (.cells ([nn, wr0].flatMap encS).toArray 9))).blk hxD HX9.out)) (fun hHeld => ?_)
            clear hK K
            try simp only [List.getElem_toArray, List.getElem_cons_zero, List.getElem_cons_succ, Act.put, List.setIfInBounds_toArray, List.set_cons_zero, List.set_cons_succ]
            refine wph_name (fun V3 hV => ?_)
            have m3 : Moved D w9 V3 := by rw [hV]; exact m2.alloc (.cells ([nn, wr0].flatMap encS).toArray 9)
            have gb := show V3.heap[_]? = some _ by rw [hV]; exact blk_old gb
            have gl : V3.heap[V2.heap.size]? = some (.cells ([nn, wr0].flatMap encS).toArray 9 (0, 0)) := by rw [hV]; exact blk_new rfl
            clear hV hHeld
            have hHeld : V3.cell? ⟨w2.heap.size + 1, 0, none⟩ = some (.slice (some ⟨w2.heap.size, 0, none⟩) 2 2) ∧ V3.cell? ⟨w2.heap.size + 1, 1, none⟩ = some (.slice at' r.titles.length ct) ∧ V3.cell? ⟨w2.heap.size + 1, 2, none⟩ = some (.slice an r.nicks.length cn) ∧ V3.cell? ⟨w2.heap.size + 1, 3, none⟩ = some (.slice as' r.streets.length cs) ∧ V3.cell? ⟨w8.heap.size, 0, none⟩ = some (.int .i64 dy) ∧ V3.cell? ⟨w8.heap.size, 1, none⟩ = some (.int .i64 dm) ∧ V3.cell? ⟨w8.heap.size, 2, none⟩ = some (.int .i64 dd) := (KF.out.moved m3).held7 ((m3).blk hxD HX9.out)
            refine wpAnyH_ready (rs := [5]) (by kernel_rfl) (by simp) ?_
            refine AllReadyH.cons rfl (fun K hK => ?_) (AllReadyH.nil)
            go_simp
            have hlt0 := lt_of_blk gb
            obtain ⟨⟨r1, er⟩, hR⟩ : ∃ R, makeN ⟨equalF, r⟩ 1 1 [nn, wr0] = R := ⟨_, rfl⟩
            have hmk := rmake_yes (fun b => Wd.heap.size ≤ b) Any1 _ _ _ _ ⟨equalF, r⟩ 1 1 [nn, wr0] (.slice (some ⟨V2.heap.size, 0, none⟩) 2 2) _ (KF.out.moved m3).s (blockVec (k := 1) (enc := encS) (L := [nn, wr0]) (S := Any1) (A := V2.heap.size) (fun _ => rfl) gl trivial 2 rfl) (equal_check HRD.out) rfl (by decide) (by intro x hx; simp at hx; rcases hx with rfl | rfl <;> omega)
            rw [hR] at hmk
            refine hmk.mono ?_
            rintro e V4 ⟨_, rfl, ⟨sv, rfl, hvv⟩, hb⟩
            have m4 := m3.below hb
            have gb := blk_below hb (lt_of_blk gb) gb
            have gl := blk_below hb (lt_of_blk gl) gl
            have hvv := hvv.move (w' := V4) (S' := fun b => w9.heap.size ≤ b ∧ b ≠ V1.heap.size) (Nat.le_refl _) fun b hb' hs => ⟨rfl, by have h1 := m3.size; have hs' := hs; exact ⟨by omega, by omega⟩⟩
            obtain ⟨asv, csv, esv⟩ := hvv.slice; subst esv
            have HRR := Lib.hid hR
            clear hb hmk hR
            refine hK.out _ _ ((KF.out.moved m4).held7 ((m4).blk hxD HX9.out)) (fun hHeld => ?_)
            clear hK K
            try simp only [List.getElem_toArray, List.getElem_cons_zero, List.getElem_cons_succ, Act.put, List.setIfInBounds_toArray, List.set_cons_zero, List.set_cons_succ]
            refine wpAnyH_take (i := 6) (v := ?_) rfl (by kernel_rfl) (by kernel_rfl) (by kernel_rfl) (fun _ _ _ h => h) (Or.inl ⟨by rfl, ?_⟩) (by assumption) ?_
            rotate_left 1
            · (intro wS hSw; (try dsimp only at hSw); go_simp; try with_reducible rfl)
            try simp only [List.getElem_toArray, List.getElem_cons_zero, List.getElem_cons_succ, Act.put, List.setIfInBounds_toArray, List.set_cons_zero, List.set_cons_succ]
            refine wpAnyH_take (i := 7) (v := ?_) rfl (by kernel_rfl) (by kernel_rfl) (by kernel_rfl) (fun _ _ _ h => h) (Or.inl ⟨by rfl, ?_⟩) (by assumption) ?_
            rotate_left 1
            · (intro wS hSw; (try dsimp only at hSw); go_simp; try with_reducible rfl)
            try simp only [List.getElem_toArray, List.getElem_cons_zero, List.getElem_cons_succ, Act.put, List.setIfInBounds_toArray, List.set_cons_zero, List.set_cons_succ]
            refine wpAnyH_take (i := 8) (v := ?_) rfl (by kernel_rfl) (by kernel_rfl) (by kernel_rfl) (fun _ _ _ h => h) (Or.inl ⟨by rfl, ?_⟩) (by assumption) ?_
            rotate_left 1
            · (intro wS hSw; (try dsimp only at hSw); go_simp; try with_reducible rfl)
            try simp only [List.getElem_toArray, List.getElem_cons_zero, List.getElem_cons_succ, Act.put, List.setIfInBounds_toArray, List.set_cons_zero, List.set_cons_succ]
        rotate_left 3
        focus
          go_simp
          refine hK.out _ _ ((KF.out.moved (mD.alloc (.cells #[.int .i64 0, .int .i64 0, .slice none 0 0] 49))).held7 (((mD.alloc (.cells #[.int .i64 0, .int .i64 0, .slice none 0 0] 49))).blk hxD HX9.out)) (fun hHeld => ?_)
          clear hK K
          try simp only [List.getElem_toArray, List.getElem_cons_zero, List.getElem_cons_succ, Act.put, List.setIfInBounds_toArray, List.set_cons_zero, List.set_cons_succ]
          refine wph_name (fun V1 hV => ?_)
          have m1 : Moved D w9 V1 := by rw [hV]; exact mD.alloc (.cells #[.int .i64 0, .int .i64 0, .slice none 0 0] 49)
          have gb : V1.heap[w9.heap.size]? = some (.cells #[.int .i64 0, .int .i64 0, .slice none 0 0] 49 (0, 0)) := by rw [hV]; exact blk_new rfl
          have hrb : w9.heap.size ≤ w9.heap.size := mD.size
          clear hV hHeld
          have hHeld : V1.cell? ⟨w2.heap.size + 1, 0, none⟩ = some (.slice (some ⟨w2.heap.size, 0, none⟩) 2 2) ∧ V1.cell? ⟨w2.heap.size + 1, 1, none⟩ = some (.slice at' r.titles.length ct) ∧ V1.cell? ⟨w2.heap.size + 1, 2, none⟩ = some (.slice an r.nicks.length cn) ∧ V1.cell? ⟨w2.heap.size + 1, 3, none⟩ = some (.slice as' r.streets.length cs) ∧ V1.cell? ⟨w8.heap.size, 0, none⟩ = some (.int .i64 dy) ∧ V1.cell? ⟨w8.heap.size, 1, none⟩ = some (.int .i64 dm) ∧ V1.cell? ⟨w8.heap.size, 2, none⟩ = some (.int .i64 dd) := (KF.out.moved m1).held7 ((m1).blk hxD HX9.out)
          refine wpAnyH_ready (rs := [3]) (by kernel_rfl) (by simp) ?_
          refine AllReadyH.cons rfl (fun K hK => ?_) (AllReadyH.nil)
          go_simp
          refine (written_any dy dm dd 0 _ BD.out (by omega)).mono ?_
          rw [HWR0.out]
          rintro e V2 ⟨rfl, hb⟩
          have m2 := m1.below hb
          have gb := blk_below hb (lt_of_blk gb) gb
          clear hb
          refine hK.out _ _ ((KF.out.moved m2).held7 ((m2).blk hxD HX9.out)) (fun hHeld => ?_)
          clear hK K
          try simp only [List.getElem_toArray, List.getElem_cons_zero, List.getElem_cons_succ, Act.put, List.setIfInBounds_toArray, List.set_cons_zero, List.set_cons_succ]
          refine wpAnyH_ready (rs := [4]) (by kernel_rfl) (by simp) ?_
          refine AllReadyH.cons rfl (fun K hK => ?_) (AllReadyH.nil)
          go_simp
          refine hK.out _ _ ((KF.out.moved (m2.alloc (.cells ([nn, wr0].flatMap encS).toArray 9))).held7 (((m2.alloc (.cells ([nn, wr0].flatMap encS).toArray 9))).blk hxD HX9.out)) (fun hHeld => ?_)
          clear hK K
          try simp only [List.getElem_toArray, List.getElem_cons_zero, List.getElem_cons_succ, Act.put, List.setIfInBounds_toArray, List.set_cons_zero, List.set_cons_succ]
          refine wph_name (fun V3 hV => ?_)
          have m3 : Moved D w9 V3 := by rw [hV]; exact m2.alloc (.cells ([nn, wr0].flatMap encS).toArray 9)
          have gb := show V3.heap[_]? = some _ by rw [hV]; exact blk_old gb
          have gl : V3.heap[V2.heap.size]? = some (.cells ([nn, wr0].flatMap encS).toArray 9 (0, 0)) := by rw [hV]; exact blk_new rfl
          clear hV hHeld
          have hHeld : V3.cell? ⟨w2.heap.size + 1, 0, none⟩ = some (.slice (some ⟨w2.heap.size, 0, none⟩) 2 2) ∧ V3.cell? ⟨w2.heap.size + 1, 1, none⟩ = some (.slice at' r.titles.length ct) ∧ V3.cell? ⟨w2.heap.size + 1, 2, none⟩ = some (.slice an r.nicks.length cn) ∧ V3.cell? ⟨w2.heap.size + 1, 3, none⟩ = some (.slice as' r.streets.length cs) ∧ V3.cell? ⟨w8.heap.size, 0, none⟩ = some (.int .i64 dy) ∧ V3.cell? ⟨w8.heap.size, 1, none⟩ = some (.int .i64 dm) ∧ V3.cell? ⟨w8.heap.size, 2, none⟩ = some (.int .i64 dd) := (KF.out.moved m3).held7 ((m3).blk hxD HX9.out)
          refine wpAnyH_ready (rs := [5]) (by kernel_rfl) (by simp) ?_
          refine AllReadyH.cons rfl (fun K hK => ?_) (AllReadyH.nil)
          go_simp
          have hlt0 := lt_of_blk gb
          obtain ⟨⟨r1, er⟩, hR⟩ : ∃ R, makeN ⟨equalF, r⟩ 1 1 [nn, wr0] = R := ⟨_, rfl⟩
          have hmk := rmake_yes (fun b => Wd.heap.size ≤ b) Any1 _ _ _ _ ⟨equalF, r⟩ 1 1 [nn, wr0] (.slice (some ⟨V2.heap.size, 0, none⟩) 2 2) _ (KF.out.moved m3).s (blockVec (k := 1) (enc := encS) (L := [nn, wr0]) (S := Any1) (A := V2.heap.size) (fun _ => rfl) gl trivial 2 rfl) (equal_check HRD.out) rfl (by decide) (by intro x hx; simp at hx; rcases hx with rfl | rfl <;> omega)
          rw [hR] at hmk
          refine hmk.mono ?_
          rintro e V4 ⟨_, rfl, ⟨sv, rfl, hvv⟩, hb⟩
          have m4 := m3.below hb
          have gb := blk_below hb (lt_of_blk gb) gb
          have gl := blk_below hb (lt_of_blk gl) gl
          have hvv := hvv.move (w' := V4) (S' := fun b => w9.heap.size ≤ b ∧ b ≠ w9.heap.size) (Nat.le_refl _) fun b hb' hs => ⟨rfl, by have h1 := m3.size; have hs' := hs; exact ⟨by omega, by omega⟩⟩
          obtain ⟨asv, csv, esv⟩ := hvv.slice; subst esv
          have HRR := Lib.hid hR
          clear hb hmk hR
          refine hK.out _ _ ((KF.out.moved m4).held7 ((m4).blk hxD HX9.out)) (fun hHeld => ?_)
          clear hK K
          try simp only [List.getElem_toArray, List.getElem_cons_zero, List.getElem_cons_succ, Act.put, List.setIfInBounds_toArray, List.set_cons_zero, List.set_cons_succ]
          refine wpAnyH_take (i := 6) (v := ?_) rfl (by kernel_rfl) (by kernel_rfl) (by kernel_rfl) (fun _ _ _ h => h) (Or.inl ⟨by rfl, ?_⟩) (by assumption) ?_
          rotate_left 1
          · (intro wS hSw; (try dsimp only at hSw); go_simp; try with_reducible rfl)
          try simp only [List.getElem_toArray, List.getElem_cons_zero, List.getElem_cons_succ, Act.put, List.setIfInBounds_toArray, List.set_cons_zero, List.set_cons_succ]
          refine wpAnyH_take (i := 7) (v := ?_) rfl (by kernel_rfl) (by kernel_rfl) (by kernel_rfl) (fun _ _ _ h => h) (Or.inl ⟨by rfl, ?_⟩) (by assumption) ?_
          rotate_left 1
          · (intro wS hSw; (try dsimp only at hSw); go_simp; try with_reducible rfl)
          try simp only [List.getElem_toArray, List.getElem_cons_zero, List.getElem_cons_succ, Act.put, List.setIfInBounds_toArray, List.set_cons_zero, List.set_cons_succ]
          refine wpAnyH_take (i := 8) (v := ?_) rfl (by kernel_rfl) (by kernel_rfl) (by kernel_rfl) (fun _ _ _ h => h) (Or.inl ⟨by rfl, ?_⟩) (by assumption) ?_
          rotate_left 1
          · (intro wS hSw; (try dsimp only at hSw); go_simp; try with_reducible rfl)
          try simp only [List.getElem_toArray, List.getElem_cons_zero, List.getElem_cons_succ, Act.put, List.setIfInBounds_toArray, List.set_cons_zero, List.set_cons_succ]
        all_goals
          obtain ⟨c0, c1, c2⟩ := cells3 gb; have f0 := frozen_of_row _ _ 0 _ _ gb; have f1 := frozen_of_row _ _ 1 _ _ gb; have f2 := frozen_of_row _ _ 2 _ _ gb; have za := lt_of_blk gb
          have ms := (((m4.set (a := ⟨_, 0, none⟩) hrb (.int .i64 r1.id)).set (a := ⟨_, 1, none⟩) hrb (.int .i64 r1.ver)).set (a := ⟨_, 2, none⟩) hrb (.slice asv r1.vals.length csv))
          refine wpAnyH_ready (rs := [10]) (by kernel_rfl) (by simp) ?_
          refine AllReadyH.cons rfl (fun K hK => ?_) AllReadyH.nil
          go_simp
          refine hK.out _ _ ((KF.out.moved ms).held7 ((ms).blk hxD HX9.out)) (fun hHeld => ?_)
          clear hK K
          try simp only [List.getElem_toArray, List.getElem_cons_zero, List.getElem_cons_succ, Act.put, List.setIfInBounds_toArray, List.set_cons_zero, List.set_cons_succ]
          refine wpAnyH_take (i := 11) (v := ?_) rfl (by kernel_rfl) (by kernel_rfl) (by kernel_rfl) (fun _ _ _ h => h) (Or.inl ⟨by rfl, ?_⟩) (by assumption) ?_
          rotate_left 1
          · (intro wS hSw; (try dsimp only at hSw); go_simp; try with_reducible rfl)
          try simp only [List.getElem_toArray, List.getElem_cons_zero, List.getElem_cons_succ, Act.put, List.setIfInBounds_toArray, List.set_cons_zero, List.set_cons_succ]
          refine wpAnyH_done (by kernel_rfl) ?_ _
          refine NoPanic.normal ?_
          go_wp2_with fail
          go_meet
          exact ⟨_, er, _, r1, rfl, rfl, blk_set (blk_set (blk_set gb)), (((hvv.far (fun b hb => hb.2)).far (fun b hb => hb.2)).far (fun b hb => hb.2)).weaken (fun b hb => hb.1), HRR, ms, hrb⟩
      case rest =>
        obtain ⟨wB, hwB⟩ : ∃ u, u = wc := ⟨_, rfl⟩
        subst hwB
        obtain ⟨ra, ea, sva, r1, rfl, rfl, ga, hva, HM1, mw, hra⟩ := hcut
        obtain ⟨aa, ca, rfl⟩ := hva.slice
        have KG := Lib.hid (KF.out.moved mw); have HXG := Lib.hid (mw.blk hxD HX9.out); have HGA := Lib.hid ga
        have zwD := KF.out.m.deck.lt
        have HVA := Lib.hid (hva.move (S' := fun b => D < b) (w' := wB) (Nat.le_refl _) fun b hb hs => ⟨rfl, by have hs' : w9.heap.size ≤ b := hs; show D < b; omega⟩)
        have hraD : D < ra := by omega
        clear mw ga hva hra mD KF HX9 zwD
        have zwB := KG.out.m.deck.lt
        have mD : Moved D wB wB.drew := (Moved.start KG.out.m.deck).drew
        go_wp2_with fail
        go_cut [11, 12] (fun s11 s12 wx => ∃ (rb : Nat) (er : Int) (sv : Value) (r2 : RecL) (o : List UInt8), s11 = .pointer (some ⟨rb, 0, none⟩) ∧ s12 = .int .i64 er ∧ wx.heap[rb]? = some (.cells #[.int .i64 r2.id, .int .i64 r2.ver, sv] 49 (0, 0)) ∧ Vec wx (fun b => wB.heap.size ≤ b) 1 encS sv r2.vals ∧ Hid (makeN ⟨equalF, r⟩ 99 7 [o, wr1] = (r2, er)) ∧ Hid (DressOf nn o) ∧ Moved D wB wx ∧ wB.heap.size ≤ rb)
        case first =>
          refine wp_region_noPanic ?_
          refine wp_region_held_drew (S := (fun w' => w'.cell? ⟨w2.heap.size + 1, 0, none⟩ = some (.slice (some ⟨w2.heap.size, 0, none⟩) 2 2) ∧ w'.cell? ⟨w2.heap.size + 1, 1, none⟩ = some (.slice at' r.titles.length ct) ∧ w'.cell? ⟨w2.heap.size + 1, 2, none⟩ = some (.slice an r.nicks.length cn) ∧ w'.cell? ⟨w2.heap.size + 1, 3, none⟩ = some (.slice as' r.streets.length cs) ∧ w'.cell? ⟨w8.heap.size, 0, none⟩ = some (.int .i64 dy) ∧ w'.cell? ⟨w8.heap.size, 1, none⟩ = some (.int .i64 dm) ∧ w'.cell? ⟨w8.heap.size, 2, none⟩ = some (.int .i64 dd))) (by kernel_rfl) ((KG.out.moved (Moved.start KG.out.m.deck)).held7 HXG.out) (fun hHeld => ?_)
          refine wpAnyH_take (i := 0) (v := ?_) rfl (by kernel_rfl) (by kernel_rfl) (by kernel_rfl) (fun _ _ _ h => h) (Or.inl ⟨by rfl, ?_⟩) (by assumption) ?_
          rotate_left 1
          · (intro wS hSw; (try dsimp only at hSw); go_simp; try with_reducible rfl)
          try simp only [List.getElem_toArray, List.getElem_cons_zero, List.getElem_cons_succ, Act.put, List.setIfInBounds_toArray, List.set_cons_zero, List.set_cons_succ]
          refine wpAnyH_take (i := 1) (v := ?_) rfl (by kernel_rfl) (by kernel_rfl) (by kernel_rfl) (fun _ _ _ h => h) (Or.inl ⟨by rfl, ?_⟩) (by assumption) ?_
          rotate_left 1
          · (intro wS hSw; (try dsimp only at hSw); go_simp; try with_reducible rfl)
          try simp only [List.getElem_toArray, List.getElem_cons_zero, List.getElem_cons_succ, Act.put, List.setIfInBounds_toArray, List.set_cons_zero, List.set_cons_succ]
          refine wpAnyH_take (i := 2) (v := ?_) rfl (by kernel_rfl) (by kernel_rfl) (by kernel_rfl) (fun _ _ _ h => h) (Or.inl ⟨by rfl, ?_⟩) (by assumption) ?_
          rotate_left 1
          · (intro wS hSw; (try dsimp only at hSw); go_simp; try with_reducible rfl)
          try simp only [List.getElem_toArray, List.getElem_cons_zero, List.getElem_cons_succ, Act.put, List.setIfInBounds_toArray, List.set_cons_zero, List.set_cons_succ]
          refine wpAnyH_take (i := 4) (v := ?_) rfl (by kernel_rfl) (by kernel_rfl) (by kernel_rfl) (fun _ _ _ h => h) (Or.inl ⟨by rfl, ?_⟩) (by assumption) ?_
          rotate_left 1
          · (intro wS hSw; (try dsimp only at hSw); go_simp; try with_reducible rfl)
          try simp only [List.getElem_toArray, List.getElem_cons_zero, List.getElem_cons_succ, Act.put, List.setIfInBounds_toArray, List.set_cons_zero, List.set_cons_succ]
          refine wpAnyH_ready (rs := [3, 11]) (by kernel_rfl) (by simp) ?_
          refine AllReadyH.cons rfl (fun K hK => ?_) (AllReadyH.cons rfl (fun K hK => ?_) (AllReadyH.nil))
          focus
            go_simp
            refine (dress_any D ⟨nn.toArray⟩ _ mD.deck (by simpa using HOk.out) (by rw [mk_size]; omega)).mono ?_
            rintro e V1 ⟨o, rfl, ho, mv⟩
            have m1 := mD.trans mv
            have ho' : DressOf nn o := by simpa using ho
            have hol : o.length ≤ 68 := by have := ho'.len; omega
            have HO := Lib.hid ho'
            clear mv ho ho'
            refine hK.out _ _ ((KG.out.moved m1).held7 ((m1).blk hxD HXG.out)) (fun hHeld => ?_)
            clear hK K
            try simp only [List.getElem_toArray, List.getElem_cons_zero, List.getElem_cons_succ, Act.put, List.setIfInBounds_toArray, List.set_cons_zero, List.set_cons_succ]
            refine wpAnyH_ready (rs := [5, 11]) (by kernel_rfl) (by simp) ?_
            refine AllReadyH.cons rfl (fun K hK => ?_) (AllReadyH.cons rfl (fun K hK => ?_) (AllReadyH.nil))
            focus
              go_simp
              refine (written_any dy dm dd 1 _ BD.out (by omega)).mono ?_
              rw [HWR1.out]
              rintro e V2 ⟨rfl, hb⟩
              have m2 := m1.below hb
              clear hb
              refine hK.out _ _ ((KG.out.moved m2).held7 ((m2).blk hxD HXG.out)) (fun hHeld => ?_)
              clear hK K
              try simp only [List.getElem_toArray, List.getElem_cons_zero, List.getElem_cons_succ, Act.put, List.setIfInBounds_toArray, List.set_cons_zero, List.set_cons_succ]
              refine wpAnyH_ready (rs := [6, 11]) (by kernel_rfl) (by simp) ?_
              refine AllReadyH.cons rfl (fun K hK => ?_) (AllReadyH.cons rfl (fun K hK => ?_) (AllReadyH.nil))
              focus
                go_simp
                refine hK.out _ _ ((KG.out.moved (m2.alloc (.cells ([o, wr1].flatMap encS).toArray 9))).held7 (((m2.alloc (.cells ([o, wr1].flatMap encS).toArray 9))).blk hxD HXG.out)) (fun hHeld => ?_)
                clear hK K
                try simp only [List.getElem_toArray, List.getElem_cons_zero, List.getElem_cons_succ, Act.put, List.setIfInBounds_toArray, List.set_cons_zero, List.set_cons_succ]
                refine wph_name (fun V3 hV => ?_)
                have m3 : Moved D wB V3 := by rw [hV]; exact m2.alloc (.cells ([o, wr1].flatMap encS).toArray 9)
                have gl : V3.heap[V2.heap.size]? = some (.cells ([o, wr1].flatMap encS).toArray 9 (0, 0)) := by rw [hV]; exact blk_new rfl
                clear hV hHeld
                have hHeld : V3.cell? ⟨w2.heap.size + 1, 0, none⟩ = some (.slice (some ⟨w2.heap.size, 0, none⟩) 2 2) ∧ V3.cell? ⟨w2.heap.size + 1, 1, none⟩ = some (.slice at' r.titles.length ct) ∧ V3.cell? ⟨w2.heap.size + 1, 2, none⟩ = some (.slice an r.nicks.length cn) ∧ V3.cell? ⟨w2.heap.size + 1, 3, none⟩ = some (.slice as' r.streets.length cs) ∧ V3.cell? ⟨w8.heap.size, 0, none⟩ = some (.int .i64 dy) ∧ V3.cell? ⟨w8.heap.size, 1, none⟩ = some (.int .i64 dm) ∧ V3.cell? ⟨w8.heap.size, 2, none⟩ = some (.int .i64 dd) := (KG.out.moved m3).held7 ((m3).blk hxD HXG.out)
                refine wpAnyH_ready (rs := [7, 11]) (by kernel_rfl) (by simp) ?_
                refine AllReadyH.cons rfl (fun K hK => ?_) (AllReadyH.cons rfl (fun K hK => ?_) (AllReadyH.nil))
                focus
                  go_simp
                  obtain ⟨⟨r1, er⟩, hR⟩ : ∃ R, makeN ⟨equalF, r⟩ 99 7 [o, wr1] = R := ⟨_, rfl⟩
                  have hmk := rmake_yes (fun b => Wd.heap.size ≤ b) Any1 _ _ _ _ ⟨equalF, r⟩ 99 7 [o, wr1] (.slice (some ⟨V2.heap.size, 0, none⟩) 2 2) _ (KG.out.moved m3).s (blockVec (k := 1) (enc := encS) (L := [o, wr1]) (S := Any1) (A := V2.heap.size) (fun _ => rfl) gl trivial 2 rfl) (equal_check HRD.out) rfl (by decide) (by intro x hx; simp at hx; rcases hx with rfl | rfl <;> omega)
                  rw [hR] at hmk
                  refine hmk.mono ?_
                  rintro e V4 ⟨_, rfl, ⟨sv, rfl, hvv⟩, hb⟩
                  have m4 := m3.below hb
                  have gl := blk_below hb (lt_of_blk gl) gl
                  have hvv := hvv.move (w' := V4) (S' := fun b => wB.heap.size ≤ b) (Nat.le_refl _) fun b hb' hs => ⟨rfl, by have h1 := m3.size; have hs' := hs; omega⟩
                  obtain ⟨asv, csv, esv⟩ := hvv.slice; subst esv
                  have HRR := Lib.hid hR
                  clear hb hmk hR
                  refine hK.out _ _ ((KG.out.moved m4).held7 ((m4).blk hxD HXG.out)) (fun hHeld => ?_)
                  clear hK K
                  try simp only [List.getElem_toArray, List.getElem_cons_zero, List.getElem_cons_succ, Act.put, List.setIfInBounds_toArray, List.set_cons_zero, List.set_cons_succ]
                  refine wpAnyH_take (i := 8) (v := ?_) rfl (by kernel_rfl) (by kernel_rfl) (by kernel_rfl) (fun _ _ _ h => h) (Or.inl ⟨by rfl, ?_⟩) (by assumption) ?_
                  rotate_left 1
                  · (intro wS hSw; (try dsimp only at hSw); go_simp; try with_reducible rfl)
                  try simp only [List.getElem_toArray, List.getElem_cons_zero, List.getElem_cons_succ, Act.put, List.setIfInBounds_toArray, List.set_cons_zero, List.set_cons_succ]
                  refine wpAnyH_take (i := 9) (v := ?_) rfl (by kernel_rfl) (by kernel_rfl) (by kernel_rfl) (fun _ _ _ h => h) (Or.inl ⟨by rfl, ?_⟩) (by assumption) ?_
                  rotate_left 1
                  · (intro wS hSw; (try dsimp only at hSw); go_simp; try with_reducible rfl)
                  try simp only [List.getElem_toArray, List.getElem_cons_zero, List.getElem_cons_succ, Act.put, List.setIfInBounds_toArray, List.set_cons_zero, List.set_cons_succ]
                  refine wpAnyH_take (i := 10) (v := ?_) rfl (by kernel_rfl) (by kernel_rfl) (by kernel_rfl) (fun _ _ _ h => h) (Or.inl ⟨by rfl, ?_⟩) (by assumption) ?_
                  rotate_left 1
                  · (intro wS hSw; (try dsimp only at hSw); go_simp; try with_reducible rfl)
                  try simp only [List.getElem_toArray, List.getElem_cons_zero, List.getElem_cons_succ, Act.put, List.setIfInBounds_toArray, List.set_cons_zero, List.set_cons_succ]
                  refine wpAnyH_ready (rs := [11]) (by kernel_rfl) (by simp) ?_
                  refine AllReadyH.cons rfl (fun K hK => ?_) (AllReadyH.nil)
                  go_simp
                  refine hK.out _ _ ((KG.out.moved (m4.alloc (.cells #[.int .i64 0, .int .i64 0, .slice none 0 0] 49))).held7 (((m4.alloc (.cells #[.int .i64 0, .int .i64 0, .slice none 0 0] 49))).blk hxD HXG.out)) (fun hHeld => ?_)
                  clear hK K
                  try simp only [List.getElem_toArray, List.getElem_cons_zero, List.getElem_cons_succ, Act.put, List.setIfInBounds_toArray, List.set_cons_zero, List.set_cons_succ]
                  refine wph_name (fun V5 hV => ?_)
                  have m5 : Moved D wB V5 := by rw [hV]; exact m4.alloc (.cells #[.int .i64 0, .int .i64 0, .slice none 0 0] 49)
                  have gl := show V5.heap[_]? = some _ by rw [hV]; exact blk_old gl
                  have gb : V5.heap[V4.heap.size]? = some (.cells #[.int .i64 0, .int .i64 0, .slice none 0 0] 49 (0, 0)) := by rw [hV]; exact blk_new rfl
                  have hvv := hvv.move (w' := V5) (S' := fun b => wB.heap.size ≤ b ∧ b ≠ V4.heap.size) (by rw [hV]; simp) fun b hb' hs => ⟨by rw [hV]; exact heap_alloc_old _ _ hb', hs, by omega⟩
                  have hrb : wB.heap.size ≤ V4.heap.size := m4.size
                  clear hV hHeld
                  have hHeld : V5.cell? ⟨w2.heap.size + 1, 0, none⟩ = some (.slice (some ⟨w2.heap.size, 0, none⟩) 2 2) ∧ V5.cell? ⟨w2.heap.size + 1, 1, none⟩ = some (.slice at' r.titles.length ct) ∧ V5.cell? ⟨w2.heap.size + 1, 2, none⟩ = some (.slice an r.nicks.length cn) ∧ V5.cell? ⟨w2.heap.size + 1, 3, none⟩ = some (.slice as' r.streets.length cs) ∧ V5.cell? ⟨w8.heap.size, 0, none⟩ = some (.int .i64 dy) ∧ V5.cell? ⟨w8.heap.size, 1, none⟩ = some (.int .i64 dm) ∧ V5.cell? ⟨w8.heap.size, 2, none⟩ = some (.int .i64 dd) := (KG.out.moved m5).held7 ((m5).blk hxD HXG.out)
                rotate_left 1
                focus
                  go_simp
                  refine hK.out _ _ ((KG.out.moved (m3.alloc (.cells #[.int .i64 0, .int .i64 0, .slice none 0 0] 49))).held7 (((m3.alloc (.cells #[.int .i64 0, .int .i64 0, .slice none 0 0] 49))).blk hxD HXG.out)) (fun hHeld => ?_)
                  clear hK K
                  try simp only [List.getElem_toArray, List.getElem_cons_zero, List.getElem_cons_succ, Act.put, List.setIfInBounds_toArray, List.set_cons_zero, List.set_cons_succ]
                  refine wph_name (fun V4 hV => ?_)
                  have m4 : Moved D wB V4 := by rw [hV]; exact m3.alloc (.cells #[.int .i64 0, .int .i64 0, .slice none 0 0] 49)
                  have gl := show V4.heap[_]? = some _ by rw [hV]; exact blk_old gl
                  have gb : V4.heap[V3.heap.size]? = some (.cells #[.int .i64 0, .int .i64 0, .slice none 0 0] 49 (0, 0)) := by rw [hV]; exact blk_new rfl
                  have hrb : wB.heap.size ≤ V3.heap.size := m3.size
                  clear hV hHeld
                  have hHeld : V4.cell? ⟨w2.heap.size + 1, 0, none⟩ = some (.slice (some ⟨w2.heap.size, 0, none⟩) 2 2) ∧ V4.cell? ⟨w2.heap.size + 1, 1, none⟩ = some (.slice at' r.titles.length ct) ∧ V4.cell? ⟨w2.heap.size + 1, 2, none⟩ = some (.slice an r.nicks.length cn) ∧ V4.cell? ⟨w2.heap.size + 1, 3, none⟩ = some (.slice as' r.streets.length cs) ∧ V4.cell? ⟨w8.heap.size, 0, none⟩ = some (.int .i64 dy) ∧ V4.cell? ⟨w8.heap.size, 1, none⟩ = some (.int .i64 dm) ∧ V4.cell? ⟨w8.heap.size, 2, none⟩ = some (.int .i64 dd) := (KG.out.moved m4).held7 ((m4).blk hxD HXG.out)
                  refine wpAnyH_ready (rs := [7]) (by kernel_rfl) (by simp) ?_
                  refine AllReadyH.cons rfl (fun K hK => ?_) (AllReadyH.nil)
                  go_simp
                  have hlt0 := lt_of_blk gb
                  obtain ⟨⟨r1, er⟩, hR⟩ : ∃ R, makeN ⟨equalF, r⟩ 99 7 [o, wr1] = R := ⟨_, rfl⟩
                  have hmk := rmake_yes (fun b => Wd.heap.size ≤ b) Any1 _ _ _ _ ⟨equalF, r⟩ 99 7 [o, wr1] (.slice (some ⟨V2.heap.size, 0, none⟩) 2 2) _ (KG.out.moved m4).s (blockVec (k := 1) (enc := encS) (L := [o, wr1]) (S := Any1) (A := V2.heap.size) (fun _ => rfl) gl trivial 2 rfl) (equal_check HRD.out) rfl (by decide) (by intro x hx; simp at hx; rcases hx with rfl | rfl <;> omega)
                  rw [hR] at hmk
                  refine hmk.mono ?_
                  rintro e V5 ⟨_, rfl, ⟨sv, rfl, hvv⟩, hb⟩
                  have m5 := m4.below hb
                  have gl := blk_below hb (lt_of_blk gl) gl
                  have gb := blk_below hb (lt_of_blk gb) gb
                  have hvv := hvv.move (w' := V5) (S' := fun b => wB.heap.size ≤ b ∧ b ≠ V3.heap.size) (Nat.le_refl _) fun b hb' hs => ⟨rfl, by have h1 := m4.size; have hs' := hs; exact ⟨by omega, by omega⟩⟩
                  obtain ⟨asv, csv, esv⟩ := hvv.slice; subst esv
                  have HRR := Lib.hid hR
                  clear hb hmk hR
                  refine hK.out _ _ ((KG.out.moved m5).held7 ((m5).blk hxD HXG.out)) (fun hHeld => ?_)
                  clear hK K
                  try simp only [List.getElem_toArray, List.getElem_cons_zero, List.getElem_cons_succ, Act.put, List.setIfInBounds_toArray, List.set_cons_zero, List.set_cons_succ]
                  refine wpAnyH_take (i := 8) (v := ?_) rfl (by kernel_rfl) (by kernel_rfl) (by kernel_rfl) (fun _ _ _ h => h) (Or.inl ⟨by rfl, ?_⟩) (by assumption) ?_
                  rotate_left 1
                  · (intro wS hSw; (try dsimp only at hSw); go_simp; try with_reducible rfl)
                  try simp only [List.getElem_toArray, List.getElem_cons_zero, List.getElem_cons_succ, Act.put, List.setIfInBounds_toArray, List.set_cons_zero, List.set_cons_succ]
                  refine wpAnyH_take (i := 9) (v := ?_) rfl (by kernel_rfl) (by kernel_rfl) (by kernel_rfl) (fun _ _ _ h => h) (Or.inl ⟨by rfl, ?_⟩) (by assumption) ?_
                  rotate_left 1
                  · (intro wS hSw; (try dsimp only at hSw); go_simp; try with_reducible rfl)
                  try simp only [List.getElem_toArray, List.getElem_cons_zero, List.getElem_cons_succ, Act.put, List.setIfInBounds_toArray, List.set_cons_zero, List.set_cons_succ]
                  refine wpAnyH_take (i := 10) (v := ?_) rfl (by kernel_rfl) (by kernel_rfl) (by kernel_rfl) (fun _ _ _ h => h) (Or.inl ⟨by rfl, ?_⟩) (by assumption) ?_
                  rotate_left 1
                  · (intro wS hSw; (try dsimp only at hSw); go_simp; try with_reducible rfl)
                  try simp only [List.getElem_toArray, List.getElem_cons_zero, List.getElem_cons_succ, Act.put, List.setIfInBounds_toArray, List.set_cons_zero, List.set_cons_succ]
              rotate_left 2
              focus
                go_simp
                refine hK.out _ _ ((KG.out.moved (m2.alloc (.cells #[.int .i64 0, .int .i64 0, .slice none 0 0] 49))).held7 (((m2.alloc (.cells #[.int .i64 0, .int .i64 0, .slice none 0 0] 49))).blk hxD HXG.out)) (fun hHeld => ?_)
                clear hK K
                try simp only [List.getElem_toArray, List.getElem_cons_zero, List.getElem_cons_succ, Act.put, List.setIfInBounds_toArray, List.set_cons_zero, List.set_cons_succ]
                refine wph_name (fun V3 hV => ?_)
                have m3 : Moved D wB V3 := by rw [hV]; exact m2.alloc (.cells #[.int .i64 0, .int .i64 0, .slice none 0 0] 49)
                have gb : V3.heap[V2.heap.size]? = some (.cells #[.int .i64 0, .int .i64 0, .slice none 0 0] 49 (0, 0)) := by rw [hV]; exact blk_new rfl
                have hrb : wB.heap.size ≤ V2.heap.size := m2.size
                clear hV hHeld
                have hHeld : V3.cell? ⟨w2.heap.size + 1, 0, none⟩ = some (.slice (some ⟨w2.heap.size, 0, none⟩) 2 2) ∧ V3.cell? ⟨w2.heap.size + 1, 1, none⟩ = some (.slice at' r.titles.length ct) ∧ V3.cell? ⟨w2.heap.size + 1, 2, none⟩ = some (.slice an r.nicks.length cn) ∧ V3.cell? ⟨w2.heap.size + 1, 3, none⟩ = some (.slice as' r.streets.length cs) ∧ V3.cell? ⟨w8.heap.size, 0, none⟩ = some (.int .i64 dy) ∧ V3.cell? ⟨w8.heap.size, 1, none⟩ = some (.int .i64 dm) ∧ V3.cell? ⟨w8.heap.size, 2, none⟩ = some (.int .i64 dd) := (KG.out.moved m3).held7 ((m3).blk hxD HXG.out)
                refine wpAnyH_ready (rs := [6]) (by kernel_rfl) (by simp) ?_
                refine AllReadyH.cons rfl (fun K hK => ?_) (AllReadyH.nil)
                go_simp
                refine hK.out _ _ ((KG.out.moved (m3.alloc (.cells ([o, wr1].flatMap encS).toArray 9))).held7 (((m3.alloc (.cells ([o, wr1].flatMap encS).toArray 9))).blk hxD HXG.out)) (fun hHeld => ?_)
                clear hK K
                try simp only [List.getElem_toArray, List.getElem_cons_zero, List.getElem_cons_succ, Act.put, List.setIfInBounds_toArray, List.set_cons_zero, List.set_cons_succ]
                refine wph_name (fun V4 hV => ?_)
                have m4 : Moved D wB V4 := by rw [hV]; exact m3.alloc (.cells ([o, wr1].flatMap encS).toArray 9)
                have gb := show V4.heap[_]? = some _ by rw [hV]; exact blk_old gb
                have gl : V4.heap[V3.heap.size]? = some (.cells ([o, wr1].flatMap encS).toArray 9 (0, 0)) := by rw [hV]; exact blk_new rfl
                clear hV hHeld
                have hHeld : V4.cell? ⟨w2.heap.size + 1, 0, none⟩ = some (.slice (some ⟨w2.heap.size, 0, none⟩) 2 2) ∧ V4.cell? ⟨w2.heap.size + 1, 1, none⟩ = some (.slice at' r.titles.length ct) ∧ V4.cell? ⟨w2.heap.size + 1, 2, none⟩ = some (.slice an r.nicks.length cn) ∧ V4.cell? ⟨w2.heap.size + 1, 3, none⟩ = some (.slice as' r.streets.length cs) ∧ V4.cell? ⟨w8.heap.size, 0, none⟩ = some (.int .i64 dy) ∧ V4.cell? ⟨w8.heap.size, 1, none⟩ = some (.int .i64 dm) ∧ V4.cell? ⟨w8.heap.size, 2, none⟩ = some (.int .i64 dd) := (KG.out.moved m4).held7 ((m4).blk hxD HXG.out)
                refine wpAnyH_ready (rs := [7]) (by kernel_rfl) (by simp) ?_
                refine AllReadyH.cons rfl (fun K hK => ?_) (AllReadyH.nil)
                go_simp
                have hlt0 := lt_of_blk gb
                obtain ⟨⟨r1, er⟩, hR⟩ : ∃ R, makeN ⟨equalF, r⟩ 99 7 [o, wr1] = R := ⟨_, rfl⟩
                have hmk := rmake_yes (fun b => Wd.heap.size ≤ b) Any1 _ _ _ _ ⟨equalF, r⟩ 99 7 [o, wr1] (.slice (some ⟨V3.heap.size, 0, none⟩) 2 2) _ (KG.out.moved m4).s (blockVec (k := 1) (enc := encS) (L := [o, wr1]) (S := Any1) (A := V3.heap.size) (fun _ => rfl) gl trivial 2 rfl) (equal_check HRD.out) rfl (by decide) (by intro x hx; simp at hx; rcases hx with rfl | rfl <;> omega)
                rw [hR] at hmk
                refine hmk.mono ?_
                rintro e V5 ⟨_, rfl, ⟨sv, rfl, hvv⟩, hb⟩
                have m5 := m4.below hb
                have gb := blk_below hb (lt_of_blk gb) gb
                have gl := blk_below hb (lt_of_blk gl) gl
                have hvv := hvv.move (w' := V5) (S' := fun b => wB.heap.size ≤ b ∧ b ≠ V2.heap.size) (Nat.le_refl _) fun b hb' hs => ⟨rfl, by have h1 := m4.size; have hs' := hs; exact ⟨by omega, by omega⟩⟩
                obtain ⟨asv, csv, esv⟩ := hvv.slice; subst esv
                have HRR := Lib.hid hR
                clear hb hmk hR
                refine hK.out _ _ ((KG.out.moved m5).held7 ((m5).blk hxD HXG.out)) (fun hHeld => ?_)
                clear hK K
                try simp only [List.getElem_toArray, List.getElem_cons_zero, List.getElem_cons_succ, Act.put, List.setIfInBounds_toArray, List.set_cons_zero, List.set_cons_succ]
                refine wpAnyH_take (i := 8) (v := ?_) rfl (by kernel_rfl) (by kernel_rfl) (by kernel_rfl) (fun _ _ _ h => h) (Or.inl ⟨by rfl, ?_⟩) (by assumption) ?_
                rotate_left 1
                · (intro wS hSw; (try dsimp only at hSw); go_simp; try with_reducible rfl)
                try simp only [List.getElem_toArray, List.getElem_cons_zero, List.getElem_cons_succ, Act.put, List.setIfInBounds_toArray, List.set_cons_zero, List.set_cons_succ]
                refine wpAnyH_take (i := 9) (v := ?_) rfl (by kernel_rfl) (by kernel_rfl) (by kernel_rfl) (fun _ _ _ h => h) (Or.inl ⟨by rfl, ?_⟩) (by assumption) ?_
                rotate_left 1
                · (intro wS hSw; (try dsimp only at hSw); go_simp; try with_reducible rfl)
                try simp only [List.getElem_toArray, List.getElem_cons_zero, List.getElem_cons_succ, Act.put, List.setIfInBounds_toArray, List.set_cons_zero, List.set_cons_succ]
                refine wpAnyH_take (i := 10) (v := ?_) rfl (by kernel_rfl) (by kernel_rfl) (by kernel_rfl) (fun _ _ _ h => h) (Or.inl ⟨by rfl, ?_⟩) (by assumption) ?_
                rotate_left 1
                · (intro wS hSw; (try dsimp only at hSw); go_simp; try with_reducible rfl)
                try simp only [List.getElem_toArray, List.getElem_cons_zero, List.getElem_cons_succ, Act.put, List.setIfInBounds_toArray, List.set_cons_zero, List.set_cons_succ]
            rotate_left 3
            focus
              go_simp
              refine hK.out _ _ ((KG.out.moved (m1.alloc (.cells #[.int .i64 0, .int .i64 0, .slice none 0 0] 49))).held7 (((m1.alloc (.cells #[.int .i64 0, .int .i64 0, .slice none 0 0] 49))).blk hxD HXG.out)) (fun hHeld => ?_)
              clear hK K
              try simp only [List.getElem_toArray, List.getElem_cons_zero, List.getElem_cons_succ, Act.put, List.setIfInBounds_toArray, List.set_cons_zero, List.set_cons_succ]
              refine wph_name (fun V2 hV => ?_)
              have m2 : Moved D wB V2 := by rw [hV]; exact m1.alloc (.cells #[.int .i64 0, .int .i64 0, .slice none 0 0] 49)
              have gb : V2.heap[V1.heap.size]? = some (.cells #[.int .i64 0, .int .i64 0, .slice none 0 0] 49 (0, 0)) := by rw [hV]; exact blk_new rfl
              have hrb : wB.heap.size ≤ V1.heap.size := m1.size
              clear hV hHeld
              have hHeld : V2.cell? ⟨w2.heap.size + 1, 0, none⟩ = some (.slice (some ⟨w2.heap.size, 0, none⟩) 2 2) ∧ V2.cell? ⟨w2.heap.size + 1, 1, none⟩ = some (.slice at' r.titles.length ct) ∧ V2.cell? ⟨w2.heap.size + 1, 2, none⟩ = some (.slice an r.nicks.length cn) ∧ V2.cell? ⟨w2.heap.size + 1, 3, none⟩ = some (.slice as' r.streets.length cs) ∧ V2.cell? ⟨w8.heap.size, 0, none⟩ = some (.int .i64 dy) ∧ V2.cell? ⟨w8.heap.size, 1, none⟩ = some (.int .i64 dm) ∧ V2.cell? ⟨w8.heap.size, 2, none⟩ = some (.int .i64 dd) := (KG.out.moved m2).held7 ((m2).blk hxD HXG.out)
              refine wpAnyH_ready (rs := [5]) (by kernel_rfl) (by simp) ?_
              refine AllReadyH.cons rfl (fun K hK => ?_) (AllReadyH.nil)
              go_simp
              refine (written_any dy dm dd 1 _ BD.out (by omega)).mono ?_
              rw [HWR1.out]
              rintro e V3 ⟨rfl, hb⟩
              have m3 := m2.below hb
              have gb := blk_below hb (lt_of_blk gb) gb
              clear hb
              refine hK.out _ _ ((KG.out.moved m3).held7 ((m3).blk hxD HXG.out)) (fun hHeld => ?_)
              clear hK K
              try simp only [List.getElem_toArray, List.getElem_cons_zero, List.getElem_cons_succ, Act.put, List.setIfInBounds_toArray, List.set_cons_zero, List.set_cons_succ]
              refine wpAnyH_ready (rs := [6]) (by kernel_rfl) (by simp) ?_
              refine AllReadyH.cons rfl (fun K hK => ?_) (AllReadyH.nil)
              go_simp
              refine hK.out _ _ ((KG.out.moved (m3.alloc (.cells ([o, wr1].flatMap encS).toArray 9))).held7 (((m3.alloc (.cells ([o, wr1].flatMap encS).toArray 9))).blk hxD HXG.out)) (fun hHeld => ?_)
              clear hK K
              try simp only [List.getElem_toArray, List.getElem_cons_zero, List.getElem_cons_succ, Act.put, List.setIfInBounds_toArray, List.set_cons_zero, List.set_cons_succ]
              refine wph_name (fun V4 hV => ?_)
              have m4 : Moved D wB V4 := by rw [hV]; exact m3.alloc (.cells ([o, wr1].flatMap encS).toArray 9)
              have gb := show V4.heap[_]? = some _ by rw [hV]; exact blk_old gb
              have gl : V4.heap[V3.heap.size]? = some (.cells ([o, wr1].flatMap encS).toArray 9 (0, 0)) := by rw [hV]; exact blk_new rfl
              clear hV hHeld
              have hHeld : V4.cell? ⟨w2.heap.size + 1, 0, none⟩ = some (.slice (some ⟨w2.heap.size, 0, none⟩) 2 2) ∧ V4.cell? ⟨w2.heap.size + 1, 1, none⟩ = some (.slice at' r.titles.length ct) ∧ V4.cell? ⟨w2.heap.size + 1, 2, none⟩ = some (.slice an r.nicks.length cn) ∧ V4.cell? ⟨w2.heap.size + 1, 3, none⟩ = some (.slice as' r.streets.length cs) ∧ V4.cell? ⟨w8.heap.size, 0, none⟩ = some (.int .i64 dy) ∧ V4.cell? ⟨w8.heap.size, 1, none⟩ = some (.int .i64 dm) ∧ V4.cell? ⟨w8.heap.size, 2, none⟩ = some (.int .i64 dd) := (KG.out.moved m4).held7 ((m4).blk hxD HXG.out)
              refine wpAnyH_ready (rs := [7]) (by kernel_rfl) (by simp) ?_
              refine AllReadyH.cons rfl (fun K hK => ?_) (AllReadyH.nil)
              go_simp
              have hlt0 := lt_of_blk gb
              obtain ⟨⟨r1, er⟩, hR⟩ : ∃ R, makeN ⟨equalF, r⟩ 99 7 [o, wr1] = R := ⟨_, rfl⟩
              have hmk := rmake_yes (fun b => Wd.heap.size ≤ b) Any1 _ _ _ _ ⟨equalF, r⟩ 99 7 [o, wr1] (.slice (some ⟨V3.heap.size, 0, none⟩) 2 2) _ (KG.out.moved m4).s (blockVec (k := 1) (enc := encS) (L := [o, wr1]) (S := Any1) (A := V3.heap.size) (fun _ => rfl) gl trivial 2 rfl) (equal_check HRD.out) rfl (by decide) (by intro x hx; simp at hx; rcases hx with rfl | rfl <;> omega)
              rw [hR] at hmk
              refine hmk.mono ?_
              rintro e V5 ⟨_, rfl, ⟨sv, rfl, hvv⟩, hb⟩
              have m5 := m4.below hb
              have gb := blk_below hb (lt_of_blk gb) gb
              have gl := blk_below hb (lt_of_blk gl) gl
              have hvv := hvv.move (w' := V5) (S' := fun b => wB.heap.size ≤ b ∧ b ≠ V1.heap.size) (Nat.le_refl _) fun b hb' hs => ⟨rfl, by have h1 := m4.size; have hs' := hs; exact ⟨by omega, by omega⟩⟩
              obtain ⟨asv, csv, esv⟩ := hvv.slice; subst esv
              have HRR := Lib.hid hR
              clear hb hmk hR
              refine hK.out _ _ ((KG.out.moved m5).held7 ((m5).blk hxD HXG.out)) (fun hHeld => ?_)
              clear hK K
              try simp only [List.getElem_toArray, List.getElem_cons_zero, List.getElem_cons_succ, Act.put, List.setIfInBounds_toArray, List.set_cons_zero, List.set_cons_succ]
              refine wpAnyH_take (i := 8) (v := ?_) rfl (by kernel_rfl) (by kernel_rfl) (by kernel_rfl) (fun _ _ _ h => h) (Or.inl ⟨by rfl, ?_⟩) (by assumption) ?_
              rotate_left 1
              · (intro wS hSw; (try dsimp only at hSw); go_simp; try with_reducible rfl)
              try simp only [List.getElem_toArray, List.getElem_cons_zero, List.getElem_cons_succ, Act.put, List.setIfInBounds_toArray, List.set_cons_zero, List.set_cons_succ]
              refine wpAnyH_take (i := 9) (v := ?_) rfl (by kernel_rfl) (by kernel_rfl) (by kernel_rfl) (fun _ _ _ h => h) (Or.inl ⟨by rfl, ?_⟩) (by assumption) ?_
              rotate_left 1
              · (intro wS hSw; (try dsimp only at hSw); go_simp; try with_reducible rfl)
              try simp only [List.getElem_toArray, List.getElem_cons_zero, List.getElem_cons_succ, Act.put, List.setIfInBounds_toArray, List.set_cons_zero, List.set_cons_succ]
              refine wpAnyH_take (i := 10) (v := ?_) rfl (by kernel_rfl) (by kernel_rfl) (by kernel_rfl) (fun _ _ _ h => h) (Or.inl ⟨by rfl, ?_⟩) (by assumption) ?_
              rotate_left 1
              · (intro wS hSw; (try dsimp only at hSw); go_simp; try with_reducible rfl)
              try simp only [List.getElem_toArray, List.getElem_cons_zero, List.getElem_cons_succ, Act.put, List.setIfInBounds_toArray, List.set_cons_zero, List.set_cons_succ]
          rotate_left 4
          focus
            go_simp
            refine hK.out _ _ ((KG.out.moved (mD.alloc (.cells #[.int .i64 0, .int .i64 0, .slice none 0 0] 49))).held7 (((mD.alloc (.cells #[.int .i64 0, .int .i64 0, .slice none 0 0] 49))).blk hxD HXG.out)) (fun hHeld => ?_)
            clear hK K
            try simp only [List.getElem_toArray, List.getElem_cons_zero, List.getElem_cons_succ, Act.put, List.setIfInBounds_toArray, List.set_cons_zero, List.set_cons_succ]
            refine wph_name (fun V1 hV => ?_)
            have m1 : Moved D wB V1 := by rw [hV]; exact mD.alloc (.cells #[.int .i64 0, .int .i64 0, .slice none 0 0] 49)
            have gb : V1.heap[wB.heap.size]? = some (.cells #[.int .i64 0, .int .i64 0, .slice none 0 0] 49 (0, 0)) := by rw [hV]; exact blk_new rfl
            have hrb : wB.heap.size ≤ wB.heap.size := mD.size
            clear hV hHeld
            have hHeld : V1.cell? ⟨w2.heap.size + 1, 0, none⟩ = some (.slice (some ⟨w2.heap.size, 0, none⟩) 2 2) ∧ V1.cell? ⟨w2.heap.size + 1, 1, none⟩ = some (.slice at' r.titles.length ct) ∧ V1.cell? ⟨w2.heap.size + 1, 2, none⟩ = some (.slice an r.nicks.length cn) ∧ V1.cell? ⟨w2.heap.size + 1, 3, none⟩ = some (.slice as' r.streets.length cs) ∧ V1.cell? ⟨w8.heap.size, 0, none⟩ = some (.int .i64 dy) ∧ V1.cell? ⟨w8.heap.size, 1, none⟩ = some (.int .i64 dm) ∧ V1.cell? ⟨w8.heap.size, 2, none⟩ = some (.int .i64 dd) := (KG.out.moved m1).held7 ((m1).blk hxD HXG.out)
            refine wpAnyH_ready (rs := [3]) (by kernel_rfl) (by simp) ?_
            refine AllReadyH.cons rfl (fun K hK => ?_) (AllReadyH.nil)
            go_simp
            refine (dress_any D ⟨nn.toArray⟩ _ m1.deck (by simpa using HOk.out) (by rw [mk_size]; omega)).mono ?_
            rintro e V2 ⟨o, rfl, ho, mv⟩
            have m2 := m1.trans mv
            have ho' : DressOf nn o := by simpa using ho
            have hol : o.length ≤ 68 := by have := ho'.len; omega
            have HO := Lib.hid ho'
            have gb := mv.blk (by omega) gb
            clear mv ho ho'
            refine hK.out _ _ ((KG.out.moved m2).held7 ((m2).blk hxD HXG.out)) (fun hHeld => ?_)
            clear hK K
            try simp only [List.getElem_toArray, List.getElem_cons_zero, List.getElem_cons_succ, Act.put, List.setIfInBounds_toArray, List.set_cons_zero, List.set_cons_succ]
            refine wpAnyH_ready (rs := [5]) (by kernel_rfl) (by simp) ?_
            refine AllReadyH.cons rfl (fun K hK => ?_) (AllReadyH.nil)
            go_simp
            refine (written_any dy dm dd 1 _ BD.out (by omega)).mono ?_
            rw [HWR1.out]
            rintro e V3 ⟨rfl, hb⟩
            have m3 := m2.below hb
            have gb := blk_below hb (lt_of_blk gb) gb
            clear hb
            refine hK.out _ _ ((KG.out.moved m3).held7 ((m3).blk hxD HXG.out)) (fun hHeld => ?_)
            clear hK K
            try simp only [List.getElem_toArray, List.getElem_cons_zero, List.getElem_cons_succ, Act.put, List.setIfInBounds_toArray, List.set_cons_zero, List.set_cons_succ]
            refine wpAnyH_ready (rs := [6]) (by kernel_rfl) (by simp) ?_
            refine AllReadyH.cons rfl (fun K hK => ?_) (AllReadyH.nil)
            go_simp
            refine hK.out _ _ ((KG.out.moved (m3.alloc (.cells ([o, wr1].flatMap encS).toArray 9))).held7 (((m3.alloc (.cells ([o, wr1].flatMap encS).toArray 9))).blk hxD HXG.out)) (fun hHeld => ?_)
            clear hK K
            try simp only [List.getElem_toArray, List.getElem_cons_zero, List.getElem_cons_succ, Act.put, List.setIfInBounds_toArray, List.set_cons_zero, List.set_cons_succ]
            refine wph_name (fun V4 hV => ?_)
            have m4 : Moved D wB V4 := by rw [hV]; exact m3.alloc (.cells ([o, wr1].flatMap encS).toArray 9)
            have gb := show V4.heap[_]? = some _ by rw [hV]; exact blk_old gb
            have gl : V4.heap[V3.heap.size]? = some (.cells ([o, wr1].flatMap encS).toArray 9 (0, 0)) := by rw [hV]; exact blk_new rfl
            clear hV hHeld
            have hHeld : V4.cell? ⟨w2.heap.size + 1, 0, none⟩ = some (.slice (some ⟨w2.heap.size, 0, none⟩) 2 2) ∧ V4.cell? ⟨w2.heap.size + 1, 1, none⟩ = some (.slice at' r.titles.length ct) ∧ V4.cell? ⟨w2.heap.size + 1, 2, none⟩ = some (.slice an r.nicks.length cn) ∧ V4.cell? ⟨w2.heap.size + 1, 3, none⟩ = some (.slice as' r.streets.length cs) ∧ V4.cell? ⟨w8.heap.size, 0, none⟩ = some (.int .i64 dy) ∧ V4.cell? ⟨w8.heap.size, 1, none⟩ = some (.int .i64 dm) ∧ V4.cell? ⟨w8.heap.size, 2, none⟩ = some (.int .i64 dd) := (KG.out.moved m4).held7 ((m4).blk hxD HXG.out)
            refine wpAnyH_ready (rs := [7]) (by kernel_rfl) (by simp) ?_
            refine AllReadyH.cons rfl (fun K hK => ?_) (AllReadyH.nil)
            go_simp
            have hlt0 := lt_of_blk gb
            obtain ⟨⟨r1, er⟩, hR⟩ : ∃ R, makeN ⟨equalF, r⟩ 99 7 [o, wr1] = R := ⟨_, rfl⟩
            have hmk := rmake_yes (fun b => Wd.heap.size ≤ b) Any1 _ _ _ _ ⟨equalF, r⟩ 99 7 [o, wr1] (.slice (some ⟨V3.heap.size, 0, none⟩) 2 2) _ (KG.out.moved m4).s (blockVec (k := 1) (enc := encS) (L := [o, wr1]) (S := Any1) (A := V3.heap.size) (fun _ => rfl) gl trivial 2 rfl) (equal_check HRD.out) rfl (by decide) (by intro x hx; simp at hx; rcases hx with rfl | rfl <;> omega)
            rw [hR] at hmk
            refine hmk.mono ?_
            rintro e V5 ⟨_, rfl, ⟨sv, rfl, hvv⟩, hb⟩
            have m5 := m4.below hb
            have gb := blk_below hb (lt_of_blk gb) gb
            have gl := blk_below hb (lt_of_blk gl) gl
            have hvv := hvv.move (w' := V5) (S' := fun b => wB.heap.size ≤ b ∧ b ≠ wB.heap.size) (Nat.le_refl _) fun b hb' hs => ⟨rfl, by have h1 := m4.size; have hs' := hs; exact ⟨by omega, by omega⟩⟩
            obtain ⟨asv, csv, esv⟩ := hvv.slice; subst esv
            have HRR := Lib.hid hR
            clear hb hmk hR
            refine hK.out _ _ ((KG.out.moved m5).held7 ((m5).blk hxD HXG.out)) (fun hHeld => ?_)
            clear hK K
            try simp only [List.getElem_toArray, List.getElem_cons_zero, List.getElem_cons_succ, Act.put, List.setIfInBounds_toArray, List.set_cons_zero, List.set_cons_succ]
            refine wpAnyH_take (i := 8) (v := ?_) rfl (by kernel_rfl) (by kernel_rfl) (by kernel_rfl) (fun _ _ _ h => h) (Or.inl ⟨by rfl, ?_⟩) (by assumption) ?_
            rotate_left 1
            · (intro wS hSw; (try dsimp only at hSw); go_simp; try with_reducible rfl)
            try simp only [List.getElem_toArray, List.getElem_cons_zero, List.getElem_cons_succ, Act.put, List.setIfInBounds_toArray, List.set_cons_zero, List.set_cons_succ]
            refine wpAnyH_take (i := 9) (v := ?_) rfl (by kernel_rfl) (by kernel_rfl) (by kernel_rfl) (fun _ _ _ h => h) (Or.inl ⟨by rfl, ?_⟩) (by assumption) ?_
            rotate_left 1
            · (intro wS hSw; (try dsimp only at hSw); go_simp; try with_reducible rfl)
            try simp only [List.getElem_toArray, List.getElem_cons_zero, List.getElem_cons_succ, Act.put, List.setIfInBounds_toArray, List.set_cons_zero, List.set_cons_succ]
            refine wpAnyH_take (i := 10) (v := ?_) rfl (by kernel_rfl) (by kernel_rfl) (by kernel_rfl) (fun _ _ _ h => h) (Or.inl ⟨by rfl, ?_⟩) (by assumption) ?_
            rotate_left 1
            · (intro wS hSw; (try dsimp only at hSw); go_simp; try with_reducible rfl)
            try simp only [List.getElem_toArray, List.getElem_cons_zero, List.getElem_cons_succ, Act.put, List.setIfInBounds_toArray, List.set_cons_zero, List.set_cons_succ]
          all_goals
            obtain ⟨c0, c1, c2⟩ := cells3 gb; have f0 := frozen_of_row _ _ 0 _ _ gb; have f1 := frozen_of_row _ _ 1 _ _ gb; have f2 := frozen_of_row _ _ 2 _ _ gb; have za := lt_of_blk gb
            have ms := (((m5.set (a := ⟨_, 0, none⟩) hrb (.int .i64 r1.id)).set (a := ⟨_, 1, none⟩) hrb (.int .i64 r1.ver)).set (a := ⟨_, 2, none⟩) hrb (.slice asv r1.vals.length csv))
            refine wpAnyH_ready (rs := [12]) (by kernel_rfl) (by simp) ?_
            refine AllReadyH.cons rfl (fun K hK => ?_) AllReadyH.nil
            go_simp
            refine hK.out _ _ ((KG.out.moved ms).held7 ((ms).blk hxD HXG.out)) (fun hHeld => ?_)
            clear hK K
            try simp only [List.getElem_toArray, List.getElem_cons_zero, List.getElem_cons_succ, Act.put, List.setIfInBounds_toArray, List.set_cons_zero, List.set_cons_succ]
            refine wpAnyH_take (i := 13) (v := ?_) rfl (by kernel_rfl) (by kernel_rfl) (by kernel_rfl) (fun _ _ _ h => h) (Or.inl ⟨by rfl, ?_⟩) (by assumption) ?_
            rotate_left 1
            · (intro wS hSw; (try dsimp only at hSw); go_simp; try with_reducible rfl)
            try simp only [List.getElem_toArray, List.getElem_cons_zero, List.getElem_cons_succ, Act.put, List.setIfInBounds_toArray, List.set_cons_zero, List.set_cons_succ]
            refine wpAnyH_done (by kernel_rfl) ?_ _
            refine NoPanic.normal ?_
            go_wp2_with fail
            go_meet
            exact ⟨_, er, _, r1, o, rfl, rfl, blk_set (blk_set (blk_set gb)), (((hvv.far (fun b hb => hb.2)).far (fun b hb => hb.2)).far (fun b hb => hb.2)).weaken (fun b hb => hb.1), HRR, HO, ms, hrb⟩
        case rest =>
          obtain ⟨rb, eb, svb, r2, o, rfl, rfl, gb, hvb, HM2, HO, mw, hrb⟩ := hcut
          obtain ⟨ab, cb, rfl⟩ := hvb.slice
          obtain ⟨dg, hdg⟩ : ∃ g, digits8 dy dm dd = g := ⟨_, rfl⟩
          have h1 := HM1.out
          rw [← HWR0.out, equal_made HRD.out HN0.out HPn.out HVd.out BD.out (by omega) rfl, hdg] at h1
          obtain ⟨e1, e2⟩ := Prod.mk.inj h1
          subst e1 e2
          have hm1 := HM1.out
          have ho0 : o ≠ [] := by
            intro e; subst e
            have := HO.out.eq
            rw [HTk.out] at this
            exact absurd this (by simp [rawL, toks, toksA])
          have KH := Lib.hid (KG.out.moved mw)
          rcases HDr.out o HO.out with hq | hq
          · have h2 := HM2.out
            rw [equal_failed HRD.out ho0 hq rfl] at h2
            obtain ⟨e3, e4⟩ := Prod.mk.inj h2
            subst e3 e4
            clear h1 h2 hm1 hq HM1 HM2
            go_wp2_with fail
            go_ret
            exact ⟨rfl, KH.out.m.base HB1.out (by omega)⟩
          · have h2 := HM2.out
            rw [← HWR1.out, equal_made HRD.out ho0 hq HVd.out BD.out (by omega) rfl, hdg] at h2
            obtain ⟨e3, e4⟩ := Prod.mk.inj h2
            subst e3 e4
            have hR1 := rec_made HM1.out; have hR2 := rec_made HM2.out
            have HRi1 := Lib.hid (show RecIn ⟨equalF, r⟩ P ⟨1, 1, [pn, dg]⟩ from ⟨equal_check HRD.out, hR1.2.1, HPD.out.len, HPD.out.ok, hR1.2.2⟩)
            have HRi2 := Lib.hid (show RecIn ⟨equalF, r⟩ P ⟨99, 7, [pn, dg]⟩ from ⟨equal_check HRD.out, hR2.2.1, HPD.out.len, HPD.out.ok, hR2.2.2⟩)
            obtain ⟨F, hF⟩ : ∃ F, fieldsN ⟨equalF, r⟩ P k [pn, dg] P.length = F := ⟨_, rfl⟩
            have hFl : F.length ≤ 1000000 := by rw [← hF, fieldsN_len, HPD.out.len]; omega
            have HFw := Lib.hid (show ∀ b ∈ F, b.words.length ≤ 1000000 by rw [← hF]; exact fieldsN_words HPD.out.ok (Nat.le_refl _))
            have hX1 : encN ⟨equalF, r⟩ P k ⟨1, 1, [pn, dg]⟩ = ⟨1, 1, F⟩ := by rw [← hF]; rfl
            have hX2 : encN ⟨equalF, r⟩ P k ⟨99, 7, [pn, dg]⟩ = ⟨99, 7, F⟩ := by rw [← hF]; rfl
            have HX1 := Lib.hid hX1; have HX2 := Lib.hid hX2
            have hgaH := mw.blk (by omega) HGA.out
            have HVA2 := Lib.hid (HVA.out.move (S' := fun b => D < b) mw.size fun b hb hs => ⟨mw.grown.block b hb (by have hs' : D < b := hs; simp; omega), hs⟩)
            have HVB := Lib.hid hvb; have HGB := Lib.hid gb
            obtain ⟨p0, p1, p2, p3⟩ := cellsS KH.out.b; obtain ⟨k0, k1⟩ := cells2K KH.out.kk; obtain ⟨a0, a1, a2⟩ := cells3 hgaH
            have HGA2 := Lib.hid hgaH
            clear h1 h2 hm1 hq HM1 HM2 hR1 hR2 hF hX1 hX2 hgaH hvb gb mw KG HVA HGA
            try dsimp only at a0 a1 a2
            go_wp2_with fail
            refine (erecord_yes (fun b => Wd.heap.size ≤ b) _ _ _ _ ⟨equalF, r⟩ P _ k ⟨1, 1, [pn, dg]⟩ _ wc KH.out.s KH.out.p.any HVA2.out.any HRi1.out).mono ?_
            rw [HX1.out]
            rintro e wU ⟨_, rfl, ⟨su, rfl, hbu⟩, hb⟩
            dsimp only at hbu ⊢
            obtain ⟨au, cu, rfl⟩ := hbu.slice
            have HBU := Lib.hid (hbu.move (w' := wU) (T := fun b => b < wU.heap.size) (Nat.le_refl _) fun b hb _ => ⟨rfl, hb⟩)
            have KI := Lib.hid (KH.out.below hb)
            have HGB1 := Lib.hid (blk_below hb (lt_of_blk HGB.out) HGB.out)
            have HVB1 := Lib.hid (HVB.out.below hb)
            clear hbu hb p0 p1 p2 p3 k0 k1 a0 a1 a2 KH HVB HGB HVA2 HGA2 HRi1 HX1
            obtain ⟨p0, p1, p2, p3⟩ := cellsS KI.out.b; obtain ⟨k0, k1⟩ := cells2K KI.out.kk; obtain ⟨b0, b1, b2⟩ := cells3 HGB1.out
            have ly := lt_of_blk KI.out.b; have lk := lt_of_blk KI.out.kk; have lb := lt_of_blk HGB1.out
            try dsimp only at b0 b1 b2
            go_wp2_with fail
            refine wp_calls_world (fun W9 hW9 => ?_)
            have hb9 : Below wU.heap.size wU W9 := by rw [hW9]; exact (Below.refl wU.heap.size wU).alloc (Nat.le_refl _) _
            have hu9 : W9.heap[wU.heap.size]? = some (.cells #[.int .i64 1, .int .i64 1, .slice au F.length cu] 57 (0, 0)) := by rw [hW9]; exact blk_new rfl
            clear hW9
            have KJ := KI.out.below hb9
            refine (erecord_yes (fun b => Wd.heap.size ≤ b) _ _ _ _ ⟨equalF, r⟩ P _ k ⟨99, 7, [pn, dg]⟩ _ W9 KJ.s KJ.p.any (HVB1.out.below hb9).any HRi2.out).mono ?_
            rw [HX2.out]
            rintro e wV ⟨_, rfl, ⟨sv, rfl, hbv⟩, hb⟩
            dsimp only at hbv ⊢
            obtain ⟨av, cv, rfl⟩ := hbv.slice
            have HBV := Lib.hid (hbv.move (w' := wV) (T := fun b => b < wV.heap.size) (Nat.le_refl _) fun b hb _ => ⟨rfl, hb⟩)
            have hu10 := blk_below hb (lt_of_blk hu9) hu9
            have luv := lt_of_blk hu10
            have HU10 := Lib.hid hu10
            have HBU2 := Lib.hid ((HBU.out.below hb9).below hb)
            have KK := Lib.hid (KJ.below hb)
            obtain ⟨u0, u1, u2⟩ := cells3 hu10
            clear hbv hb hb9 hu9 hu10 KJ KI p0 p1 p2 p3 k0 k1 b0 b1 b2 ly lk lb HBU HVB1 HGB1 HRi2 HX2
            go_wp2_with fail
            have hDv : Wd.heap.size ≤ wV.heap.size := KK.out.m.size
            refine wp_world (fun Wv hWv => ?_)
            have hbv : Below wV.heap.size wV Wv := by rw [hWv]; exact (Below.refl wV.heap.size wV).alloc (Nat.le_refl _) _
            have hv15 : Wv.heap[wV.heap.size]? = some (.cells #[.int .i64 99, .int .i64 7, .slice av F.length cv] 57 (0, 0)) := by rw [hWv]; exact blk_new rfl
            have hu15 : Wv.heap[wU.heap.size]? = some (.cells #[.int .i64 1, .int .i64 1, .slice au F.length cu] 57 (0, 0)) := by rw [hWv]; exact blk_old HU10.out
            have hne : wU.heap.size ≠ wV.heap.size := by omega
            have HV15 := Lib.hid hv15; have HU15 := Lib.hid hu15; have HBv := Lib.hid hbv
            have K15 := Lib.hid (KK.out.below hbv)
            have lv15 := lt_of_blk hv15; have lu15 := lt_of_blk hu15
            obtain ⟨y0, y1, y2⟩ := cells3 hv15; have f0 := frozen_of_row _ _ 0 _ _ hv15; have f1 := frozen_of_row _ _ 1 _ _ hv15
            clear u0 u1 u2 hWv hv15 hbv HU10 KK
            obtain ⟨u0, u1, u2⟩ := cells3 hu15
            clear hu15
            refine wp_region_noPanic ?_
            refine wp_region_held_drew (S := (fun w' => w'.cell? ⟨wU.heap.size, 0, none⟩ = some (.int .i64 1) ∧ w'.cell? ⟨wU.heap.size, 1, none⟩ = some (.int .i64 1))) (by kernel_rfl) (⟨u0, u1⟩) (fun hHeld => ?_)
            refine wpAnyH_take (i := 0) (v := ?_) rfl (by kernel_rfl) (by kernel_rfl) (by kernel_rfl) (fun _ _ _ h => h) (Or.inl ⟨by rfl, ?_⟩) (by assumption) ?_
            rotate_left 1
            · (intro wS hSw; (try dsimp only at hSw); go_simp; try with_reducible rfl)
            try simp only [List.getElem_toArray, List.getElem_cons_zero, List.getElem_cons_succ, Act.put, List.setIfInBounds_toArray, List.set_cons_zero, List.set_cons_succ]
            refine wpAnyH_take (i := 1) (v := ?_) rfl (by kernel_rfl) (by kernel_rfl) (by kernel_rfl) (fun _ _ _ h => h) (Or.inl ⟨by rfl, ?_⟩) (by assumption) ?_
            rotate_left 1
            · (intro wS hSw; (try dsimp only at hSw); go_simp; try with_reducible rfl)
            try simp only [List.getElem_toArray, List.getElem_cons_zero, List.getElem_cons_succ, Act.put, List.setIfInBounds_toArray, List.set_cons_zero, List.set_cons_succ]
            refine wpAnyH_take (i := 2) (v := ?_) rfl (by kernel_rfl) (by kernel_rfl) (by kernel_rfl) (fun _ _ _ h => h) (Or.inl ⟨by rfl, ?_⟩) (by assumption) ?_
            rotate_left 1
            · (intro wS hSw; (try dsimp only at hSw); go_simp; try with_reducible rfl)
            try simp only [List.getElem_toArray, List.getElem_cons_zero, List.getElem_cons_succ, Act.put, List.setIfInBounds_toArray, List.set_cons_zero, List.set_cons_succ]
            refine wpAnyH_take (i := 3) (v := ?_) rfl (by kernel_rfl) (by kernel_rfl) (by kernel_rfl) (fun _ _ _ h => h) (Or.inl ⟨by rfl, ?_⟩) (by assumption) ?_
            rotate_left 1
            · (intro wS hSw; (try dsimp only at hSw); go_simp; try with_reducible rfl)
            try simp only [List.getElem_toArray, List.getElem_cons_zero, List.getElem_cons_succ, Act.put, List.setIfInBounds_toArray, List.set_cons_zero, List.set_cons_succ]
            refine wpAnyH_take (i := 4) (v := ?_) rfl (by kernel_rfl) (by kernel_rfl) (by kernel_rfl) (fun _ _ _ h => h) (Or.inl ⟨by rfl, ?_⟩) (by assumption) ?_
            rotate_left 1
            · (intro wS hSw; (try dsimp only at hSw); go_simp; try with_reducible rfl)
            try simp only [List.getElem_toArray, List.getElem_cons_zero, List.getElem_cons_succ, Act.put, List.setIfInBounds_toArray, List.set_cons_zero, List.set_cons_succ]
            refine wpAnyH_ready (rs := [5]) (by kernel_rfl) (by simp) ?_
            refine AllReadyH.cons rfl (fun K hK => ?_) AllReadyH.nil
            go_simp
            refine hK.out _ _ (⟨(cells3 (blk_far (a := ⟨wV.heap.size, 0, none⟩) (v := .int .i64 1) HU15.out hne)).1, (cells3 (blk_far (a := ⟨wV.heap.size, 0, none⟩) (v := .int .i64 1) HU15.out hne)).2.1⟩) (fun hHeld => ?_)
            clear hK K
            try simp only [List.getElem_toArray, List.getElem_cons_zero, List.getElem_cons_succ, Act.put, List.setIfInBounds_toArray, List.set_cons_zero, List.set_cons_succ]
            refine wpAnyH_take (i := 6) (v := ?_) rfl (by kernel_rfl) (by kernel_rfl) (by kernel_rfl) (fun _ _ _ h => h) (Or.inl ⟨by rfl, ?_⟩) (by assumption) ?_
            rotate_left 1
            · (intro wS hSw; (try dsimp only at hSw); go_simp; try with_reducible rfl)
            try simp only [List.getElem_toArray, List.getElem_cons_zero, List.getElem_cons_succ, Act.put, List.setIfInBounds_toArray, List.set_cons_zero, List.set_cons_succ]
            refine wpAnyH_ready (rs := [7]) (by kernel_rfl) (by simp) ?_
            refine AllReadyH.cons rfl (fun K hK => ?_) AllReadyH.nil
            go_simp
            refine hK.out _ _ (⟨(cells3 (blk_far (a := ⟨wV.heap.size, 1, none⟩) (v := .int .i64 1) (blk_far (a := ⟨wV.heap.size, 0, none⟩) (v := .int .i64 1) HU15.out hne) hne)).1, (cells3 (blk_far (a := ⟨wV.heap.size, 1, none⟩) (v := .int .i64 1) (blk_far (a := ⟨wV.heap.size, 0, none⟩) (v := .int .i64 1) HU15.out hne) hne)).2.1⟩) (fun hHeld => ?_)
            clear hK K
            try simp only [List.getElem_toArray, List.getElem_cons_zero, List.getElem_cons_succ, Act.put, List.setIfInBounds_toArray, List.set_cons_zero, List.set_cons_succ]
            refine wpAnyH_done (by kernel_rfl) ?_ _
            refine NoPanic.normal ?_
            refine exitk_world (fun Wz hWz => ?_)
            have hvz : Wz.heap[wV.heap.size]? = some (.cells #[.int .i64 1, .int .i64 1, .slice av F.length cv] 57 (0, 0)) := by rw [hWz]; exact blk_set (i := 1) (v := .int .i64 1) (blk_set (i := 0) (v := .int .i64 1) HV15.out)
            have huz : Wz.heap[wU.heap.size]? = some (.cells #[.int .i64 1, .int .i64 1, .slice au F.length cu] 57 (0, 0)) := by rw [hWz]; exact blk_far (blk_far HU15.out hne) hne
            have hzs : Wv.heap.size ≤ Wz.heap.size := by rw [hWz]; simp [World.setCell, World.drew]
            have hzo : ∀ b, b ≠ wV.heap.size → Wz.heap[b]? = Wv.heap[b]? := fun b hb => by rw [hWz]; exact (heap_setCell_other _ _ _ _ hb).trans (heap_setCell_other _ _ _ _ hb)
            have hmz : Moved D Wd Wz := by
              rw [hWz]
              exact (K15.out.m.drew.set (a := ⟨wV.heap.size, 0, none⟩) hDv _).set (a := ⟨wV.heap.size, 1, none⟩) hDv _
            have hUz : EncVal Wz Any1 (.agg #[.int .i64 1, .int .i64 1, .slice au F.length cu]) ⟨1, 1, F⟩ := ⟨_, rfl, (HBU2.out.below HBv.out).move (T := Any1) hzs fun b hb hs => ⟨hzo b (by have hs' : b < wU.heap.size := hs; omega), trivial⟩⟩
            have hVz : EncVal Wz Any1 (.agg #[.int .i64 1, .int .i64 1, .slice av F.length cv]) ⟨1, 1, F⟩ := ⟨_, rfl, (HBV.out.below HBv.out).move (T := Any1) hzs fun b hb hs => ⟨hzo b (by have hs' : b < wV.heap.size := hs; omega), trivial⟩⟩
            have HUz := Lib.hid hUz; have HVz := Lib.hid hVz; have HMz := Lib.hid hmz
            clear u0 u1 u2 y0 y1 y2 f0 f1 hWz hzo hUz hVz hmz hHeld HU15 HV15 HBU2 HBV K15
            obtain ⟨u0, u1, u2⟩ := cells3 huz; obtain ⟨y0, y1, y2⟩ := cells3 hvz
            clear huz hvz
            go_wp2_with fail
            refine (esame_any Any1 Any1 _ _ ⟨1, 1, F⟩ ⟨1, 1, F⟩ _ HUz.out HVz.out hFl HFw.out).mono ?_
            rw [sameE_self]
            rintro e wZ ⟨rfl, hb⟩
            go_wp2_with fail
            go_ret
            exact ⟨rfl, (HMz.out.below hb).base HB1.out (by omega)⟩
  · have hd : decide (n ≤ 400) = false := by simpa using hn
    clear hr hn
    go_enter Tryz.func3, Tryz.ntmps3
    go_wp2_with fail
    refine (awake_e _).mono ?_; rintro e w1 ⟨rfl, hb1⟩
    go_wp2_with fail
    refine (few_any a n cap _).mono ?_; rintro e w' ⟨rfl, rfl⟩
    go_wp2_with fail
    refine (awake_e _).mono ?_; rintro e w2 ⟨rfl, hb2⟩
    go_wp2_with fail
    go_ret
    exact ⟨rfl, hb1.trans (hb2.mono hb1.size)⟩
end Go.Proofs.YtmakailcpkogdaaGreatDoor
end
section
namespace Go.Proofs.YtmakailcpkogdaaGreatDoor.encodeEqual
open Go.ChangeShapes Go.WideShapes Go.ChangeAt Go.RowKit Go.Joins
open Go.ChangeMaps (open_string shut_string)
set_option linter.unusedVariables false

theorem own : ownKnob Tryz.prog.godebug = none := by kernel_rfl
theorem laidOut : laidOutB Tryz.prog = true := by kernel_rfl

set_option maxRecDepth 100000 in
theorem lifted (os : Os) (started : os.Started) (H : Type) (enc : TypeId × Value → H) :
    ReturnsInHanded {} Tryz.checked os 3 .any (fun w args => (Rows.encodeEqualSpec.pre enc Tryz.prog Tryz.f3 Rows.encodeEqualRow.domain false w args ∧ laidMetH Tryz.prog Rows.encodeEqualRow.laid w) ∧ sizedMet enc Tryz.prog Tryz.f3 (OpenSpec.ofChange Rows.encodeEqualSpec) false w args) (Rows.encodeEqualSpec.post enc Tryz.prog Tryz.f3 false true false false) := by
  refine returnsInHanded_of_change_and (C := Tryz.checked) (X := fun w _ => laidMetH Tryz.prog Rows.encodeEqualRow.laid w) (fun _ _ _ hh h => h.of_heap hh) own started (by kernel_rfl) Tryz.func3
    (ChangeSpec.witness_shaped (enc := enc) (C := Tryz.checked) (os := os) (X := fun w _ => laidMetH Tryz.prog Rows.encodeEqualRow.laid w) false (World.laidAll Tryz.prog os Rows.encodeEqualRow.laid) #[.slice none 0 0] 8 (World.laidAll_os _ _ _)
      (World.shaped_of_ZipB (by kernel_rfl) (by kernel_rfl)) (by kernel_rfl) (by kernel_rfl) (by kernel_rfl)
      (by rw [MakeChecks.laidMetH_plain _ _ _ (by kernel_rfl)]; exact laidMet_laidAll _ (by kernel_rfl) (by kernel_rfl))) ?_
  intro W base args ds gs before hval0 hW hcnd _ hLaid _
  have hval : ∀ (j : Nat) t v, Tryz.f3.params[j]? = some t → args[j]? = some v → Value.okWide Tryz.prog W .any base t v := hval0
  have hW' := hW
  obtain ⟨p, q, hA0, hV, rfl, hfz, hnd⟩ := hW
  have hA : DataW.TrodAll enc Tryz.prog W 0 (fun _ => true) true Tryz.f3.params.toList args.toList ds p := hA0
  rw [Tryz.params3] at hA hval
  obtain ⟨v0, vs0, d0, ds0, p0, q0, hargs, rfl, rfl, h0, r0⟩ := trodAll_cons hA
  obtain ⟨rfl, rfl, rfl⟩ := trodAll_nil r0
  obtain rfl : args = #[v0] := by cases args; simp_all
  obtain ⟨rfl, rfl⟩ := trodVars_none hV
  obtain ⟨a0, len0, cap0, rfl⟩ := okWide_slice Tryz.underlying22 (hval 0 22 v0 rfl rfl)
  have k0 := h0
  have lt0 : ∀ x ∈ p0, x.block < W.heap.size := by obtain ⟨m, hm⟩ := k0; exact DataW.trod_lt m _ _ _ hm
  obtain ⟨z0, w0⟩ : ∃ zs, IsRow .i64 W a0 len0 cap0 zs := by
    obtain ⟨fuel, hf⟩ := h0
    rcases open_ints Tryz.underlying22 Tryz.underlying3 (by kernel_rfl) hf with ⟨hcs, _⟩ | ⟨x, l, c, zs, hcs, _, hl, hm, hz, _, hcell, hwz⟩
    · simp [Value.cells] at hcs
      obtain ⟨rfl, rfl, rfl⟩ := hcs
      exact ⟨[], .inl ⟨rfl, rfl, rfl, rfl⟩⟩
    · simp [Value.cells] at hcs
      obtain ⟨rfl, rfl, rfl⟩ := hcs
      exact ⟨zs, .inr ⟨_, rfl, hl, hm, by simpa using hz, hcell, hwz⟩⟩
  clear hA0 hval0
  refine (eequal_walk a0 len0 cap0 z0 W w0).mono fun e W' ⟨he, bel⟩ => ?_
  subst he
  exact ⟨_, rfl, _, _, _, [], _, [], hW', trodAll_mk1 (shut_bool Tryz.underlying4 _), (trodAll_cons_mk (Below.trod laidOut (by kernel_rfl) (of_decide_eq_true (by kernel_rfl)) k0 bel lt0) trodAll_mk0), rfl, bel.frame _, fun h => by cases h⟩

set_option maxRecDepth 100000 in
set_option maxHeartbeats 100000000 in
theorem over : Rows.encodeEqualRow.holds Tryz.pinned (OpenSpec.ofChange Rows.encodeEqualSpec) :=
  OpenClaim.holds_of_wide 3 Tryz.f3 rfl rfl rfl rfl rfl rfl rfl ⟨rfl, rfl, rfl, rfl, rfl⟩ rfl rfl rfl rfl rfl (by as_aux_lemma => kernel_rfl) Tryz.func3 closed
    (of_decide_eq_true (by as_aux_lemma => kernel_rfl)) (by unfold Func.isWrapper; first | (rw [if_pos (by decide +kernel)]; kernel_rfl) | (rw [if_neg (by decide +kernel)]; exact ⟨rfl, rfl⟩))
    (fun os started H enc _ => lifted os started H enc)

set_option maxRecDepth 100000 in
set_option maxHeartbeats 100000000 in
/-- THE STATEMENT -/
theorem proved : Rows.EncodeEqualCardSaid :=
  Claim7.holds_tied_plain_at .later [] [.data, .data, .data, .data, .pinned] true (true, "2572fc081a092b3e8f883af2bc7fe2f3d6e70fb678b0b48358c326ab32c7ae55") true
    over (fun _ h => by cases h) (by as_aux_lemma => kernel_rfl) (fun _ h => by cases h) encodeEqual_row_tie rfl ⟨rfl, rfl⟩ (by as_aux_lemma => kernel_rfl) rfl
    (fun f fn hf hfn => by
      obtain rfl : f = 3 := Option.some.inj ((show Tryz.prog.funcNamed Rows.encodeEqualRow.func = some 3 by kernel_rfl).symm.trans hf) |>.symm
      obtain rfl : fn = Tryz.f3 := (Option.some.inj (Tryz.func3.symm.trans hfn)).symm
      exact ⟨by kernel_rfl, fun j t ht => by
        rw [Tryz.params3] at ht
        have hm : t ∈ [22] := by simpa using Array.mem_of_getElem? ht
        have hall : ([22].all fun u => !Tryz.prog.wantsStandIn u) = true := by kernel_rfl
        exact (show Tryz.prog.wantsStandIn t = false by simpa using List.all_eq_true.1 hall t hm)⟩)
    (by as_aux_lemma => kernel_rfl)
#print axioms proved
end Go.Proofs.YtmakailcpkogdaaGreatDoor.encodeEqual
end
