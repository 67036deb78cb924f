/- Parts of one proof: TextF, NameA, NameB, NameC, NameD, NameE, NameF, AddrA, AddrB, AddrC, Split, CutAny, MakeA, RangeBox, RecRows. -/
import Derived.Test.YthnfmolkppbbpaaGreatDoorPartRb1
import Derived.Lib.QuietBelow
import Derived.Maps.AppendAt
import Derived.Laws.OwnMore
import Derived.Laws.AppendOwnNone
import Derived.Lib.Split
import Derived.RangeFuncFrom
import Derived.RangeFuncBox
import Derived.RangeFuncNested
import Derived.RangeFuncBound
import Derived.RangeFuncCalls
import Derived.RangeFuncLeaves
import Derived.Shelf.Abstract
import Derived.Shelf.RegionOpen
import Derived.OwnWalkIn
import Derived.TacticsInMore
import Derived.LoopNIn
import Derived.LoopIn
set_option linter.unusedSimpArgs false
set_option linter.unusedVariables false
namespace Go.Proofs.YthnfmolkppbbpaaGreatDoor
section
set_option maxRecDepth 100000
open Go.RowKit
theorem tbl_cell {w : World} {b : Nat} (h : w.heap[b]? = some (.cells tblV 213 (0, 0))) (c : UInt8) (n : Nat) (hn : c.toNat = 128 + n) (h64 : n < 64) : w.cell? ⟨b, n, none⟩ = some (strV (replB c)) := by
  rw [cell_of_row w b n tblV _ _ h]
  unfold tblV replB
  rw [hn, Nat.add_sub_cancel_left, List.getElem?_toArray, List.getElem?_map, replB_get n h64]
  rfl
theorem pairAt_snd (s : ByteArray) (i : Nat) (hi : i + 1 < s.size) (h : pairAt (s.data.toList.drop i) = true) : ∃ n : Nat, s[i + 1].toNat = 128 + n ∧ n < 64 := by
  rw [drop_two s i hi] at h
  simp only [pairAt, pair_iff, decide_eq_true_iff] at h
  exact ⟨s[i + 1].toNat - 128, by omega, by omega⟩
theorem mk_size (l : List UInt8) : (⟨l.toArray⟩ : ByteArray).size = l.length := by simp [ByteArray.size]
theorem put_len {acc x : List UInt8} {n : Nat} (h : acc.length ≤ n) (hn : n ≤ 1000000) (hx : x.length ≤ 2) : (Lib.byteCells acc).length + (⟨x.toArray⟩ : ByteArray).size ≤ 140737488355328 := by
  rw [Lib.byteCells_length, mk_size]; omega
/-- what the loop of Fold holds -/
def FoldAt (w w1 : World) (l : List UInt8) (k : Nat) (wr : World) : Prop := ∃ acc : List UInt8, acc ++ rawL (l.drop k) = rawL l ∧
  Lib.IsBuilder 71 5 (w1.heap.size + 1) (w1.heap.size + 1) (Lib.byteCells acc) wr ∧ wr.heap[w1.heap.size]? = some (.cells tblV 213 (0, 0)) ∧ Below w.heap.size w wr ∧ w1.heap.size + 1 ≤ wr.heap.size
theorem FoldAt.len {w w1 : World} {l : List UInt8} {k : Nat} {wr : World} {acc : List UInt8} (h : acc ++ rawL (l.drop k) = rawL l) : acc.length ≤ l.length := by
  have := congrArg List.length h
  have h2 := (raw_ok l).2
  simp at this; omega
theorem FoldAt.step {w w1 wr w2 : World} {l acc x : List UInt8} {k k' : Nat} (hacc : acc ++ rawL (l.drop k) = rawL l) (hx : rawL (l.drop k) = x ++ rawL (l.drop k')) (ht : wr.heap[w1.heap.size]? = some (.cells tblV 213 (0, 0))) (hbw : Below w.heap.size w wr) (hz : w1.heap.size + 1 ≤ wr.heap.size) (hz1 : w.heap.size ≤ w1.heap.size)
    (hB : Lib.BuilderAt 71 5 (w1.heap.size + 1) (w1.heap.size + 1) (.pointer (some ⟨w1.heap.size + 1, 0, none⟩)) (Lib.byteCells acc ++ Lib.strCells ⟨x.toArray⟩) w2) (hb2 : Below (w1.heap.size + 1) wr w2) : FoldAt w w1 l k' w2 := by
  refine ⟨acc ++ x, by rw [List.append_assoc, ← hx]; exact hacc, .inr ?_, (hb2.block _ (by omega)).trans ht, hbw.trans (hb2.mono (by omega)), Nat.le_trans hz hb2.size⟩
  rw [Lib.byteCells_append]
  exact hB
set_option maxHeartbeats 4000000 in
theorem fold_yes (s : ByteArray) (w : World) (hs : s.size ≤ 100000) (hv : foldV s.data.toList = true) :
    Calls Tryz.prog 208 #[.string s] w fun e w' => e = .returned (.tuple #[strV (foldL s.data.toList), .int .i64 0]) ∧ Below w.heap.size w w' := by
  have hl : s.data.toList.length = s.size := by simp
  have HL := Lib.hid hl; clear hl
  have HV := Lib.hid hv; clear hv
  go_enter Tryz.func208, Tryz.ntmps208
  go_wp2_with fail
  refine (tvalid_any s _ (by omega)).mono ?_; rw [HV.out]; rintro e w' ⟨rfl, rfl⟩
  go_wp2_with fail
  refine (repl_any _).mono ?_; rintro e w1 ⟨rfl, hb1⟩
  have HB1 := Lib.hid hb1; clear hb1
  go_wp2_with (refine wpList_store_row rfl 213 (.tmp 4) (.tmp 10) rfl w1.heap.size tblV rfl rfl 213 _ (heap_alloc_new w1 _) (by kernel_rfl) (by kernel_rfl) (by kernel_rfl) ?_; rw [World.setRow_alloc_new])
  have hbz : w.heap.size ≤ w1.heap.size := HB1.out.size
  go_loopw [6] (fun i wr => ∃ k : Nat, k ≤ s.size ∧ i = .int .i64 k ∧ FoldAt w w1 s.data.toList k wr) (fun i _ => s.size - (intOf i).toNat)
  case atStart =>
    refine ⟨0, by omega, rfl, [], rfl, .inl ⟨Nat.le_refl _, _, by rw [show w1.heap.size + 1 = (w1.alloc (.cells tblV 213)).heap.size by simp]; exact heap_alloc_new _ _, ⟨rfl, .inl ⟨rfl, rfl⟩⟩, by simp [Value.ownBlock]⟩, blk_old (blk_new rfl), (HB1.out.alloc hbz _).alloc (by simp; omega) _, by simp⟩
  case round =>
    obtain ⟨k, hk, rfl, HF⟩ := hrel
    have HF' := Lib.hid HF; clear HF
    by_cases hlt : k < s.size
    · have hq : decide ((k : Int) < s.size) = true := by simp; omega
      go_wp2_with fail
      refine (pair_any s k _ hlt (by omega)).mono ?_; rintro e w' ⟨rfl, rfl⟩
      cases hp : pairAt (s.data.toList.drop k)
      · have HR := Lib.hid (raw_one s k hlt hp)
        clear hp
        obtain ⟨acc, hacc, hB, ht, hbw, hz⟩ := HF'.out
        have hal := FoldAt.len (w := w) (w1 := w1) (wr := wr) hacc
        have HA := Lib.hid hacc; have HT := Lib.hid ht; have HW := Lib.hid hbw; have HB := Lib.hid hB
        clear hacc ht hbw hB HF'
        go_wp2_with fail
        refine (plain_any s[k] _).mono ?_; rintro e w' ⟨rfl, rfl⟩
        have hpl := (plainB_ok s[k]).2
        go_wp2_with fail
        refine (wstr_any (w1.heap.size + 1) (w1.heap.size + 1) (Lib.byteCells acc) ⟨(plainB s[k]).toArray⟩ _ HB.out (put_len hal (by rw [HL.out]; omega) (by omega)) hz).mono ?_
        rintro e w2 ⟨rfl, hB2, hb2⟩
        have HF2 := Lib.hid (FoldAt.step HA.out HR.out HT.out HW.out hz hbz hB2 hb2)
        clear hB2 hb2
        go_wp2_with fail
        go_roundw
        case rel => exact ⟨k + 1, by omega, by go_num, HF2.out⟩
        case measure => simp [intOf]; omega
      · have h2 := pairAt_lt s k hlt hp
        have HR := Lib.hid (raw_two s k h2 hp)
        obtain ⟨n, hn, hn64⟩ := pairAt_snd s k h2 hp
        clear hp
        obtain ⟨acc, hacc, hB, ht, hbw, hz⟩ := HF'.out
        have hal := FoldAt.len (w := w) (w1 := w1) (wr := wr) hacc
        have hcell := tbl_cell ht s[k + 1] n hn hn64
        have hn' : (s[k + 1].toNat : Int) = 128 + (n : Int) := by omega
        have HA := Lib.hid hacc; have HT := Lib.hid ht; have HW := Lib.hid hbw; have HB := Lib.hid hB
        clear hacc ht hbw hB HF' hn
        go_wp2_with fail
        have hpl := (replB_ok s[k + 1]).2
        refine (wstr_any (w1.heap.size + 1) (w1.heap.size + 1) (Lib.byteCells acc) ⟨(replB s[k + 1]).toArray⟩ _ HB.out (put_len hal (by rw [HL.out]; omega) hpl) hz).mono ?_
        rintro e w2 ⟨rfl, hB2, hb2⟩
        have HF2 := Lib.hid (FoldAt.step HA.out HR.out HT.out HW.out hz hbz hB2 hb2)
        clear hB2 hb2
        go_wp2_with fail
        go_roundw
        case rel => exact ⟨k + 2, by omega, by go_num, HF2.out⟩
        case measure => simp [intOf]; omega
    · have hq : decide ((k : Int) < s.size) = false := by simp; omega
      obtain ⟨acc, hacc, hB, ht, hbw, hz⟩ := HF'.out
      rw [List.drop_eq_nil_of_le (by rw [HL.out]; omega)] at hacc
      have hacc' : acc = rawL s.data.toList := by simpa [rawL] using hacc
      subst hacc'
      have HW := Lib.hid hbw; have HB := Lib.hid hB
      clear hacc ht hbw hB HF'
      go_wp2_with fail
      refine (bstr_any (w1.heap.size + 1) (w1.heap.size + 1) _ _ HB.out hz).mono ?_
      rintro e w2 ⟨rfl, hb2⟩
      have HW2 := Lib.hid (HW.out.trans (hb2.mono (by omega))); clear hb2
      go_wp2_with fail
      have hrl := (raw_ok s.data.toList).2
      refine (tokens_any (rawL s.data.toList) _ (raw_ascii _) (by rw [HL.out] at hrl; omega)).mono ?_
      rintro e w3 ⟨A, rfl, hA, ho, hb3⟩
      have hV := Lib.hid (Vec.owns (S := Any1) (k := 1) (enc := encS) (fun _ => rfl) ho (fun _ _ _ => trivial))
      have HW3 := Lib.hid (HW2.out.trans (hb3.mono HW2.out.size)); clear hb3 ho
      go_wp2_with fail
      refine (join_any Any1 _ (toks (rawL s.data.toList)) _ hV.out (by have := (toksA_len (rawL s.data.toList) []).2.1; unfold toks; rw [HL.out] at hrl; omega) (by have := fold_len s.data.toList; unfold foldL at this; rw [HL.out] at this; omega)).mono ?_
      rintro e w4 ⟨rfl, hb4⟩
      have HW4 := Lib.hid (HW3.out.trans (hb4.mono HW3.out.size)); clear hb4
      go_wp2_with fail
      go_ret2
      exact ⟨rfl, HW4.out⟩
set_option maxHeartbeats 400000 in
theorem fold_no (s : ByteArray) (w : World) (hs : s.size ≤ 9223372036854775000) (hv : foldV s.data.toList = false) :
    Calls Tryz.prog 208 #[.string s] w fun e w' => e = .returned (.tuple #[strV [], .int .i64 3]) ∧ Below w.heap.size w w' := by
  have HV := Lib.hid hv; clear hv
  go_enter Tryz.func208, Tryz.ntmps208
  go_wp2_with fail
  refine (tvalid_any s _ (by omega)).mono ?_; rw [HV.out]; rintro e w' ⟨rfl, rfl⟩
  go_wp2_with fail
  go_ret2
  exact ⟨rfl, Below.refl _ _⟩
end
section
set_option maxRecDepth 100000
open Go.RowKit
@[local go_sem] theorem toList_mk (l : List UInt8) : (⟨l.toArray⟩ : ByteArray).toList = l := by
  rw [Lib.toList_data]
attribute [local go_sem] mk_size
def tokenB (l : List UInt8) : Bool := bif l.isEmpty then false else bif decide (l.length ≤ 64) then lettersL l == l else false
set_option maxHeartbeats 400000 in
theorem token_any (l : List UInt8) (w : World) :
    Calls Tryz.prog 147 #[strV l] w fun e w' => e = .returned (.bool (tokenB l)) ∧ Below w.heap.size w w' := by
  unfold tokenB
  by_cases h0 : l = []
  · subst h0
    go_enter Tryz.func147, Tryz.ntmps147
    go_wp2
    go_ret
    exact ⟨rfl, Below.refl _ _⟩
  · have h1 : l.isEmpty = false := by simpa using h0
    have h2 : (l == []) = false := by simpa using h0
    rw [h1]
    by_cases h3 : l.length ≤ 64
    · have h4 : decide (l.length ≤ 64) = true := by simpa using h3
      have h5 : decide ((l.length : Int) ≤ 64) = true := by simp; omega
      rw [h4]
      clear h0 h4
      go_enter Tryz.func147, Tryz.ntmps147
      go_wp2_with fail
      refine (letters_any ⟨l.toArray⟩ _ (by rw [mk_size]; omega)).mono ?_
      rintro e w1 ⟨rfl, hb⟩
      go_wp2_with fail
      go_ret
      exact ⟨rfl, hb⟩
    · have h4 : decide (l.length ≤ 64) = false := by simpa using h3
      have h5 : decide ((l.length : Int) ≤ 64) = false := by simp; omega
      rw [h4]
      clear h0 h4
      go_enter Tryz.func147, Tryz.ntmps147
      go_wp2_with fail
      go_ret
      exact ⟨rfl, Below.refl _ _⟩
end
section
set_option maxRecDepth 100000
open Go.RowKit
attribute [local go_sem] toList_mk mk_size
abbrev P2 := List UInt8 × List UInt8
/-- the two cells of a rule -/
def encP (x : P2) : List Value := [strV x.1, strV x.2]
theorem pred_find (s : List UInt8) (B : Nat) (w : World) (hB : B < w.heap.size) (hcell : w.cell? ⟨B, 0, none⟩ = some (strV s)) :
    PredBelow Tryz.prog 191 #[.pointer (some ⟨B, 0, none⟩)] (fun x => .agg (encP x).toArray) (fun x => x.1 == s) w := fun W x hb => by
  have hc : W.cell? ⟨B, 0, none⟩ = some (strV s) := (hb.cell (p := ⟨B, 0, none⟩) hB).trans hcell
  have hBW : B < W.heap.size := Nat.lt_of_lt_of_le hB hb.size
  have hne : B ≠ W.heap.size := by omega
  have HBb := Lib.hid hb; clear hb hcell
  show Calls Tryz.prog 191 #[.agg #[strV x.1, strV x.2], .pointer (some ⟨B, 0, none⟩)] W _
  go_enter Tryz.func191, Tryz.ntmps191
  go_wp2
  go_ret
  exact ⟨rfl, HBb.out.alloc HBb.out.size _⟩
set_option maxHeartbeats 400000 in
theorem idxP_nil (a : Option Addr) (c : Nat) (f : Value) (w : World) :
    Calls Tryz.prog 149 #[.slice a 0 c, f] w fun e w' => e = .returned (.int .i64 (-1)) ∧ w = w' := by
  go_enter Tryz.func149, Tryz.ntmps149
  go_wp2
  refine wp_loop_rounds 1 ?_; rw [rounds_succ]
  go_wp2
  go_ret
  exact ⟨rfl, rfl⟩
def findI (L : List P2) (s : List UInt8) : Int := Lib.idxBy (fun _ (y : P2) => y.1 == s) L default
set_option maxHeartbeats 1000000 in
theorem find_any (S : Nat → Prop) (v : Value) (L : List P2) (s : List UInt8) (w : World) (h : Vec w S 2 encP v L) (hn : L.length ≤ 1000000) :
    Calls Tryz.prog 148 #[v, strV s] w fun e w' => e = .returned (.int .i64 (findI L s)) ∧ Below w.heap.size w w' := by
  obtain ⟨a, cap, rfl, hcap, h0⟩ := h
  by_cases hz : L = []
  · subst hz
    clear h0
    go_enter Tryz.func148, Tryz.ntmps148
    go_wp2_with fail
    refine (idxP_nil a cap _ _).mono ?_
    rintro e w1 ⟨rfl, rfl⟩
    go_wp2_with fail
    go_ret
    exact ⟨rfl, (Below.refl _ _).alloc (Nat.le_refl _) _⟩
  · obtain ⟨b, off, rfl, _, hb, hc⟩ := h0 (List.length_pos_iff.2 hz)
    have eg : ∀ args w, (callFunc 191 args).run Tryz.prog w = .ok (.enter 191 args) w := enters_of Tryz.func191 (by kernel_rfl) rfl
    have hcon := AnyQ.slices_IndexFunc Tryz.laysIP 2 Tryz.isAgg103 Tryz.sizeOf103 encP (fun _ => rfl) (fun x => x.1 == s) 191 #[.pointer (some ⟨w.heap.size, 0, none⟩)] eg b off L.length cap L (w.alloc (.cells #[strV s] 9))
      (pred_find s w.heap.size _ (by simp) (by simp)) (Nat.le_refl _) (by omega) (by simp; omega) (fun j hj i u hi => by
        refine Lib.cell?_alloc_some _ ?_
        have e : L[j]? = some L[j]! := by rw [List.getElem?_eq_getElem hj, getElem!_pos L j hj]
        exact hc j _ e i u hi)
    rw [List.take_of_length_le (Nat.le_refl _)] at hcon
    have HC := Lib.hid hcon
    clear hcon hc h0
    go_enter Tryz.func148, Tryz.ntmps148
    go_wp2_with fail
    refine HC.out.mono ?_
    rintro e w1 ⟨rfl, hb1⟩
    go_wp2_with fail
    go_ret
    exact ⟨rfl, ((Below.refl _ w).alloc (Nat.le_refl _) _).trans (hb1.mono (by simp))⟩
end
section
set_option maxRecDepth 100000
open Go.RowKit
attribute [local go_sem] toList_mk mk_size
def ltB (a b : List UInt8) : Bool := Op.bytesLess a b
/-- entry j is right, and greater than the one before -/
def titleAt (L : List (List UInt8)) (j : Nat) : Bool := tokenB (L.getD j []) && (decide (j = 0) || ltB (L.getD (j - 1) []) (L.getD j []))
def titlesB (L : List (List UInt8)) : Bool := (List.range L.length).all (titleAt L)
def pairAtB (L : List P2) (j : Nat) : Bool := tokenB (L.getD j default).1 && tokenB (L.getD j default).2 && (decide (j = 0) || ltB (L.getD (j - 1) default).1 (L.getD j default).1) && decide (findI L (L.getD j default).2 < 0)
def pairsB (L : List P2) : Bool := (List.range L.length).all (pairAtB L)
theorem all_false {n : Nat} {p : Nat → Bool} {k : Nat} (hk : k < n) (h : p k = false) : (List.range n).all p = false := by
  rw [List.all_eq_false]; exact ⟨k, List.mem_range.2 hk, by simp [h]⟩
theorem all_true {n : Nat} {p : Nat → Bool} (h : ∀ j, j < n → p j = true) : (List.range n).all p = true := by
  rw [List.all_eq_true]; intro j hj; exact h j (List.mem_range.1 hj)
theorem vec_cell1 {w : World} {S : Nat → Prop} {a : Option Addr} {n cap : Nat} {L : List (List UInt8)} (h : Vec w S 1 encS (.slice a n cap) L) (h0 : 0 < L.length) : ∃ b off, a = some ⟨b, off, none⟩ ∧ S b ∧ b < w.heap.size ∧ ∀ j, j < L.length → w.cell? ⟨b, off + j, none⟩ = some (strV (L.getD j [])) := by
  obtain ⟨a', cap', h1, h2, h3⟩ := h
  cases h1
  obtain ⟨b, off, h4, hS, h5, h6⟩ := h3 h0
  refine ⟨b, off, h4, hS, h5, fun j hj => ?_⟩
  have := h6 j L[j] (List.getElem?_eq_getElem hj) 0 _ rfl
  rw [List.getD, List.getElem?_eq_getElem hj]
  simpa using this
set_option maxHeartbeats 1000000 in
theorem titles_any (S : Nat → Prop) (v : Value) (L : List (List UInt8)) (w : World) (h : Vec w S 1 encS v L) (hn : L.length ≤ 1000000) :
    Calls Tryz.prog 108 #[v] w fun e w' => e = .returned (.bool (titlesB L)) ∧ Below w.heap.size w w' := by
  obtain ⟨a, cap, rfl⟩ := h.slice
  by_cases hz : L = []
  · subst hz
    clear h
    go_enter Tryz.func108, Tryz.ntmps108
    go_wp2
    refine wp_loop_rounds 1 ?_; rw [rounds_succ]
    go_wp2
    go_ret
    exact ⟨rfl, Below.refl _ _⟩
  · obtain ⟨b, off, rfl, _, hb, hc⟩ := vec_cell1 h (List.length_pos_iff.2 hz)
    have HC := Lib.hid hc; clear hc h hz
    go_enter Tryz.func108, Tryz.ntmps108
    go_wp2_with fail
    go_loopw [7] (fun i wr => ∃ k : Nat, k ≤ L.length ∧ i = .int .i64 k ∧ Below w.heap.size w wr ∧ ∀ j, j < k → titleAt L j = true) (fun i _ => L.length - (intOf i).toNat)
    case atStart => exact ⟨0, by omega, rfl, Below.refl _ _, fun j hj => by omega⟩
    case round =>
      obtain ⟨k, hk, rfl, hbw, ha⟩ := hrel
      have HA := Lib.hid ha; clear ha
      by_cases hlt : k < L.length
      · have hq : decide ((k : Int) < L.length) = true := by simp; omega
        have hi : (k : Int) < (L.length : Int) := by omega
        have c1 : wr.cell? ⟨b, off + k, none⟩ = some (strV (L.getD k [])) := (hbw.cell (p := ⟨b, off + k, none⟩) hb).trans (HC.out k hlt)
        have HW := Lib.hid hbw; clear hbw
        obtain ⟨x, hx⟩ : ∃ x, L.getD k [] = x := ⟨_, rfl⟩
        rw [hx] at c1
        have HX := Lib.hid hx; clear hx
        go_wp2_with fail
        refine (token_any x _).mono ?_
        rintro e w2 ⟨rfl, hb2⟩
        have HW2 := Lib.hid (HW.out.trans (hb2.mono HW.out.size)); clear hb2 HW c1
        cases ht : tokenB x
        · have HT := Lib.hid (show titleAt L k = false by simp only [titleAt]; rw [HX.out, ht]; rfl); clear ht
          go_wp2_with fail
          go_ret
          exact ⟨ret_bool (by rw [titlesB, all_false hlt HT.out]), HW2.out⟩
        · by_cases hk0 : k = 0
          · subst hk0
            have HT := Lib.hid (show titleAt L 0 = true by simp only [titleAt]; rw [HX.out, ht]; rfl)
            clear ht
            go_wp2_with fail
            go_roundw
            case rel => exact ⟨1, by omega, by go_num, HW2.out, fun j hj => by (obtain rfl : j = 0 := by omega); exact HT.out⟩
            case measure => simp [intOf]; omega
          · obtain ⟨m, rfl⟩ : ∃ m, k = m + 1 := ⟨k - 1, by omega⟩
            have c2 : w2.cell? ⟨b, off + m, none⟩ = some (strV (L.getD m [])) := (HW2.out.cell (p := ⟨b, off + m, none⟩) hb).trans (HC.out m (by omega))
            obtain ⟨y, hy⟩ : ∃ y, L.getD m [] = y := ⟨_, rfl⟩
            rw [hy] at c2
            have HT := Lib.hid (show titleAt L (m + 1) = Op.bytesLess y x by simp only [titleAt, Nat.add_sub_cancel]; rw [HX.out, hy, ht]; simp [ltB])
            clear ht hy hk0
            cases hl : Op.bytesLess y x
            · rw [hl] at HT
              go_wp2_with fail
              go_ret
              exact ⟨ret_bool (by rw [titlesB, all_false hlt HT.out]), HW2.out⟩
            · rw [hl] at HT
              go_wp2_with fail
              go_roundw
              case rel => exact ⟨m + 2, by omega, by go_num, HW2.out, fun j hj => by
                by_cases e : j = m + 1
                · subst e; exact HT.out
                · exact HA.out j (by omega)⟩
              case measure => simp [intOf]; omega
      · have hq : decide ((k : Int) < L.length) = false := by simp; omega
        have HW := Lib.hid hbw; clear hbw
        go_wp2_with fail
        go_ret
        exact ⟨ret_bool (by rw [titlesB, all_true fun j hj => HA.out j (by omega)]), HW.out⟩
theorem vec_cell2 {α : Type} [Inhabited α] {enc : α → List Value} {w : World} {S : Nat → Prop} {a : Option Addr} {n cap : Nat} {L : List α} (h : Vec w S 2 enc (.slice a n cap) L) (h0 : 0 < L.length) : ∃ b off, a = some ⟨b, off, none⟩ ∧ S b ∧ b < w.heap.size ∧ ∀ j, j < L.length → ∀ i u, (enc (L.getD j default))[i]? = some u → w.cell? ⟨b, off + j * 2 + i, none⟩ = some u := by
  obtain ⟨a', cap', h1, h2, h3⟩ := h
  cases h1
  obtain ⟨b, off, h4, hS, h5, h6⟩ := h3 h0
  refine ⟨b, off, h4, hS, h5, fun j hj i u hu => ?_⟩
  rw [List.getD, List.getElem?_eq_getElem hj] at hu
  exact h6 j L[j] (List.getElem?_eq_getElem hj) i u hu
/-- a contract that makes memory alone, in whatever world behind w -/
theorem in_regrown {P : Program} {f : FuncId} {args : Array Value} {v : Value} (w : World) (h : ∀ W, Below w.heap.size w W → Calls P f args W fun e w' => e = .returned v ∧ Below W.heap.size W w') :
    ∀ d os, Calls P f args (Sort.grow (redrawn w d) os) fun e w'' => e = .returned v ∧ ∃ p : Regrown, w'' = Sort.grow (redrawn w p.d) p.os := fun d os => Calls.regrown_of (h _ (below_regrown w d os))
theorem find_in (v : Value) (L : List P2) (s : List UInt8) (w : World) (h : Vec w Any1 2 encP v L) (hn : L.length ≤ 1000000) (W : World) (hb : Below w.heap.size w W) : Calls Tryz.prog 148 #[v, strV s] W fun e w' => e = .returned (.int .i64 (findI L s)) ∧ Below W.heap.size W w' :=
  find_any Any1 v L s W (h.below hb) hn
set_option maxHeartbeats 4000000 in
theorem pairs_any (S : Nat → Prop) (v : Value) (L : List P2) (w : World) (h : Vec w S 2 encP v L) (hn : L.length ≤ 1000000) :
    Calls Tryz.prog 109 #[v] w fun e w' => e = .returned (.bool (pairsB L)) ∧ Below w.heap.size w w' := by
  obtain ⟨a, cap, rfl⟩ := h.slice
  by_cases hz : L = []
  · subst hz
    clear h
    go_enter Tryz.func109, Tryz.ntmps109
    go_wp2
    refine wp_loop_rounds 1 ?_; rw [rounds_succ]
    go_wp2
    go_ret
    exact ⟨rfl, Below.refl _ _⟩
  · have HV := Lib.hid h.any
    obtain ⟨b, off, rfl, _, hb, hc⟩ := vec_cell2 h (List.length_pos_iff.2 hz)
    have HC := Lib.hid hc; clear hc h hz
    go_enter Tryz.func109, Tryz.ntmps109
    go_wp2_with fail
    go_loopw [7] (fun i wr => ∃ k : Nat, k ≤ L.length ∧ i = .int .i64 k ∧ Below w.heap.size w wr ∧ ∀ j, j < k → pairAtB L j = true) (fun i _ => L.length - (intOf i).toNat)
    case atStart => exact ⟨0, by omega, rfl, Below.refl _ _, fun j hj => by omega⟩
    case round =>
      obtain ⟨k, hk, rfl, hbw, ha⟩ := hrel
      have HA := Lib.hid ha; clear ha
      by_cases hlt : k < L.length
      · have hq : decide ((k : Int) < L.length) = true := by simp; omega
        have hi : (k : Int) < (L.length : Int) := by omega
        obtain ⟨x, hx⟩ : ∃ x, L.getD k default = x := ⟨_, rfl⟩
        have hc := HC.out k hlt
        rw [hx] at hc
        have c0 : wr.cell? ⟨b, off + k * 2, none⟩ = some (strV x.1) := (hbw.cell (p := ⟨b, off + k * 2, none⟩) hb).trans (hc 0 _ rfl)
        have c1 : wr.cell? ⟨b, off + k * 2 + 1, none⟩ = some (strV x.2) := (hbw.cell (p := ⟨b, off + k * 2 + 1, none⟩) hb).trans (hc 1 _ rfl)
        have HX := Lib.hid hx; clear hx hc
        have HW := Lib.hid hbw; clear hbw
        go_wp2_with fail
        refine wp_world (fun wS hS => ?_)
        obtain ⟨xf, xt⟩ := x
        have bS : Below wr.heap.size wr wS := by rw [hS]; exact (Below.refl _ _).alloc (Nat.le_refl _) _
        have k0 := cell_regrown (show wS.cell? ⟨wr.heap.size, 0, none⟩ = some (strV xf) by rw [hS]; simp)
        have k1 := cell_regrown (show wS.cell? ⟨wr.heap.size, 1, none⟩ = some (strV xt) by rw [hS]; simp)
        have HWS := Lib.hid (HW.out.trans (bS.mono HW.out.size))
        clear bS hS c0 c1 HW
        have cT1 := in_regrown wS (fun W _ => token_any xf W)
        have cT2 := in_regrown wS (fun W _ => token_any xt W)
        have cF := in_regrown wS (find_in _ L xt wS (HV.out.below HWS.out) hn)
        have hpa : pairAtB L k = (tokenB xf && tokenB xt && (decide (k = 0) || ltB (L.getD (k - 1) default).1 xf) && decide (findI L xt < 0)) := by simp only [pairAtB]; rw [HX.out]
        generalize findI L xt = n at *
        cases ht1 : tokenB xf
        · rw [ht1] at cT1 hpa
          have HF := Lib.hid (show pairAtB L k = false by rw [hpa]; rfl)
          clear ht1 hpa
          go_wp2_with fail
          refine wp_region_quiet_below (by kernel_rfl) (by kernel_rfl) ?_
          repeat (go_big_quiet_step (first | with_reducible exact cT1 _ _ | with_reducible exact cT2 _ _ | with_reducible exact cF _ _))
          refine wpQuiet_nil ?_
          intro _ hw'
          obtain ⟨⟨dq, osq⟩, hw''⟩ := hw'
          subst hw''
          have HW3 := Lib.hid (HWS.out.trans ((below_regrown wS dq osq).mono HWS.out.size))
          go_wp2_with fail
          go_ret
          exact ⟨ret_bool (by rw [pairsB, all_false hlt HF.out]), HW3.out⟩
        · rw [ht1] at cT1 hpa
          clear ht1
          cases ht2 : tokenB xt
          · rw [ht2] at cT2 hpa
            have HF := Lib.hid (show pairAtB L k = false by rw [hpa]; rfl)
            clear ht2 hpa
            go_wp2_with fail
            refine wp_region_quiet_below (by kernel_rfl) (by kernel_rfl) ?_
            repeat (go_big_quiet_step (first | with_reducible exact cT1 _ _ | with_reducible exact cT2 _ _ | with_reducible exact cF _ _))
            refine wpQuiet_nil ?_
            intro _ hw'
            obtain ⟨⟨dq, osq⟩, hw''⟩ := hw'
            subst hw''
            have HW3 := Lib.hid (HWS.out.trans ((below_regrown wS dq osq).mono HWS.out.size))
            go_wp2_with fail
            go_ret
            exact ⟨ret_bool (by rw [pairsB, all_false hlt HF.out]), HW3.out⟩
          · rw [ht2] at cT2 hpa
            clear ht2
            by_cases hk0 : k = 0
            · subst hk0
              by_cases hneg : n < 0
              · have HF := Lib.hid (show pairAtB L 0 = true by rw [hpa]; simp [hneg])
                clear hpa
                go_wp2_with fail
                refine wp_region_quiet_below (by kernel_rfl) (by kernel_rfl) ?_
                repeat (go_big_quiet_step (first | with_reducible exact cT1 _ _ | with_reducible exact cT2 _ _ | with_reducible exact cF _ _))
                refine wpQuiet_nil ?_
                intro _ hw'
                obtain ⟨⟨dq, osq⟩, hw''⟩ := hw'
                subst hw''
                have HW3 := Lib.hid (HWS.out.trans ((below_regrown wS dq osq).mono HWS.out.size))
                go_wp2_with fail
                go_roundw
                case rel => exact ⟨1, by omega, by go_num, HW3.out, fun j hj => by
                  by_cases e : j = 0
                  · subst e; exact HF.out
                  · exact HA.out j (by omega)⟩
                case measure => simp [intOf]; omega
              · have HF := Lib.hid (show pairAtB L 0 = false by rw [hpa]; simp [hneg])
                have hnn : 0 ≤ n := by omega
                clear hpa
                go_wp2_with fail
                refine wp_region_quiet_below (by kernel_rfl) (by kernel_rfl) ?_
                repeat (go_big_quiet_step (first | with_reducible exact cT1 _ _ | with_reducible exact cT2 _ _ | with_reducible exact cF _ _))
                refine wpQuiet_nil ?_
                intro _ hw'
                obtain ⟨⟨dq, osq⟩, hw''⟩ := hw'
                subst hw''
                have HW3 := Lib.hid (HWS.out.trans ((below_regrown wS dq osq).mono HWS.out.size))
                go_wp2_with fail
                go_ret
                exact ⟨ret_bool (by rw [pairsB, all_false hlt HF.out]), HW3.out⟩
            · obtain ⟨m, rfl⟩ : ∃ m, k = m + 1 := ⟨k - 1, by omega⟩
              obtain ⟨y, hy⟩ : ∃ y, L.getD m default = y := ⟨_, rfl⟩
              have hcy := HC.out m (by omega)
              rw [hy] at hcy
              have k2 := cell_regrown (show wS.cell? ⟨b, off + m * 2, none⟩ = some (strV y.1) from (HWS.out.cell (p := ⟨b, off + m * 2, none⟩) hb).trans (hcy 0 _ rfl))
              rw [Nat.add_sub_cancel, hy] at hpa
              clear hcy hy hk0
              obtain ⟨yf, yt⟩ := y
              dsimp only at k2 hpa
              unfold ltB at hpa
              cases hl : Op.bytesLess yf xf
              · rw [hl] at hpa
                have HF := Lib.hid (show pairAtB L (m + 1) = false by rw [hpa]; simp)
                clear hpa
                go_wp2_with fail
                refine wp_region_quiet_below (by kernel_rfl) (by kernel_rfl) ?_
                repeat (go_big_quiet_step (first | with_reducible exact cT1 _ _ | with_reducible exact cT2 _ _ | with_reducible exact cF _ _))
                refine wpQuiet_nil ?_
                intro _ hw'
                obtain ⟨⟨dq, osq⟩, hw''⟩ := hw'
                subst hw''
                have HW3 := Lib.hid (HWS.out.trans ((below_regrown wS dq osq).mono HWS.out.size))
                go_wp2_with fail
                go_ret
                exact ⟨ret_bool (by rw [pairsB, all_false hlt HF.out]), HW3.out⟩
              · rw [hl] at hpa
                by_cases hneg : n < 0
                · have HF := Lib.hid (show pairAtB L (m + 1) = true by rw [hpa]; simp [hneg])
                  clear hpa
                  go_wp2_with fail
                  refine wp_region_quiet_below (by kernel_rfl) (by kernel_rfl) ?_
                  repeat (go_big_quiet_step (first | with_reducible exact cT1 _ _ | with_reducible exact cT2 _ _ | with_reducible exact cF _ _))
                  refine wpQuiet_nil ?_
                  intro _ hw'
                  obtain ⟨⟨dq, osq⟩, hw''⟩ := hw'
                  subst hw''
                  have HW3 := Lib.hid (HWS.out.trans ((below_regrown wS dq osq).mono HWS.out.size))
                  go_wp2_with fail
                  go_roundw
                  case rel => exact ⟨m + 2, by omega, by go_num, HW3.out, fun j hj => by
                    by_cases e : j = m + 1
                    · subst e; exact HF.out
                    · exact HA.out j (by omega)⟩
                  case measure => simp [intOf]; omega
                · have HF := Lib.hid (show pairAtB L (m + 1) = false by rw [hpa]; simp [hneg])
                  have hnn : 0 ≤ n := by omega
                  clear hpa
                  go_wp2_with fail
                  refine wp_region_quiet_below (by kernel_rfl) (by kernel_rfl) ?_
                  repeat (go_big_quiet_step (first | with_reducible exact cT1 _ _ | with_reducible exact cT2 _ _ | with_reducible exact cF _ _))
                  refine wpQuiet_nil ?_
                  intro _ hw'
                  obtain ⟨⟨dq, osq⟩, hw''⟩ := hw'
                  subst hw''
                  have HW3 := Lib.hid (HWS.out.trans ((below_regrown wS dq osq).mono HWS.out.size))
                  go_wp2_with fail
                  go_ret
                  exact ⟨ret_bool (by rw [pairsB, all_false hlt HF.out]), HW3.out⟩
      · have hq : decide ((k : Int) < L.length) = false := by simp; omega
        have HW := Lib.hid hbw; clear hbw
        go_wp2_with fail
        go_ret
        exact ⟨ret_bool (by rw [pairsB, all_true fun j hj => HA.out j (by omega)]), HW.out⟩
end
section
set_option maxRecDepth 100000
open Go.RowKit
attribute [local go_sem] toList_mk mk_size
structure RulesL where
  titles : List (List UInt8)
  nicks : List P2
  streets : List P2
def RulesAt (w : World) (S : Nat → Prop) (vt vn vs : Value) (r : RulesL) : Prop := Vec w S 1 encS vt r.titles ∧ Vec w S 2 encP vn r.nicks ∧ Vec w S 2 encP vs r.streets
theorem RulesAt.below {w w' : World} {S : Nat → Prop} {vt vn vs : Value} {r : RulesL} (h : RulesAt w S vt vn vs r) (hb : Below w.heap.size w w') : RulesAt w' S vt vn vs r := ⟨h.1.below hb, h.2.1.below hb, h.2.2.below hb⟩
theorem RulesAt.any {w : World} {S : Nat → Prop} {vt vn vs : Value} {r : RulesL} (h : RulesAt w S vt vn vs r) : RulesAt w Any1 vt vn vs r := ⟨h.1.any, h.2.1.any, h.2.2.any⟩
def hasB (L : List (List UInt8)) (s : List UInt8) : Bool := L.any fun x => x == s
theorem mkS_inj {a b : List UInt8} (h : mkS a = mkS b) : a = b := by
  have := congrArg (fun s : ByteArray => s.data.toList) h
  simpa [mkS] using this
theorem contains_has (L : List (List UInt8)) (s : List UInt8) : Lib.containsS (L.map mkS) (mkS s) = hasB L s := by
  rw [Bool.eq_iff_iff, Lib.containsS_iff]
  unfold hasB
  rw [List.any_eq_true]
  constructor
  · intro h
    obtain ⟨x, hx, he⟩ := List.mem_map.1 h
    have : x = s := mkS_inj he
    subst this
    exact ⟨x, hx, by simp⟩
  · rintro ⟨x, hx, he⟩
    have : x = s := by simpa using he
    subst this
    exact List.mem_map.2 ⟨x, hx, rfl⟩
theorem contains_any (S : Nat → Prop) (v : Value) (L : List (List UInt8)) (s : List UInt8) (w : World) (h : Vec w S 1 encS v L) (hn : L.length ≤ 1000000) :
    Calls Tryz.prog 150 #[v, strV s] w fun e w' => e = .returned (.bool (hasB L s)) ∧ w = w' := by
  obtain ⟨a, cap, rfl⟩ := h.slice
  by_cases hz : L = []
  · subst hz
    exact (Tryz.slices_Contains_string_empty a cap (mkS s) w).mono fun e w' ⟨he, hw⟩ => ⟨he, hw.symm⟩
  · obtain ⟨b, off, rfl, _, hb, hc⟩ := vec_cell1 h (List.length_pos_iff.2 hz)
    have := Tryz.slices_Contains_string b off L.length cap (L.map mkS) (mkS s) w (by simp) (by omega) (fun j hj => by
      have hj' : j < L.length := by simpa using hj
      rw [hc j hj', List.getD, List.getD, List.getElem?_map, List.getElem?_eq_getElem hj']; rfl)
    rw [List.take_of_length_le (by simp), contains_has] at this
    exact this.mono fun e w' ⟨he, hw⟩ => ⟨he, hw.symm⟩
set_option maxHeartbeats 400000 in
theorem dropped_any (S : Nat → Prop) (vt vn vs : Value) (L : List (List UInt8)) (s : List UInt8) (w : World) (h : Vec w S 1 encS vt L) (hn : L.length ≤ 1000000) :
    Calls Tryz.prog 112 #[.agg #[vt, vn, vs], strV s] w fun e w' => e = .returned (.bool (hasB L s)) ∧ Below w.heap.size w w' := by
  have HV := Lib.hid h; clear h
  go_enter Tryz.func112, Tryz.ntmps112
  go_wp2_with fail
  refine (contains_any S vt L s _ (HV.out.below ((Below.refl _ _).alloc (Nat.le_refl _) _)) hn).mono ?_
  rintro e w1 ⟨rfl, rfl⟩
  go_wp2_with fail
  go_ret
  exact ⟨rfl, (Below.refl _ _).alloc (Nat.le_refl _) _⟩
theorem pred_check (vt vn vs : Value) (L : List (List UInt8)) (B : Nat) (w : World) (hL : Vec w Any1 1 encS vt L) (hn : L.length ≤ 1000000) (hB : B < w.heap.size) (h0 : w.cell? ⟨B, 0, none⟩ = some vt) (h1 : w.cell? ⟨B, 1, none⟩ = some vn) (h2 : w.cell? ⟨B, 2, none⟩ = some vs) :
    PredBelow Tryz.prog 111 #[.pointer (some ⟨B, 0, none⟩)] (fun x => .agg (encP x).toArray) (fun x => hasB L x.2) w := fun W x hb => by
  have c0 : W.cell? ⟨B, 0, none⟩ = some vt := (hb.cell (p := ⟨B, 0, none⟩) hB).trans h0
  have c1 : W.cell? ⟨B, 1, none⟩ = some vn := (hb.cell (p := ⟨B, 1, none⟩) hB).trans h1
  have c2 : W.cell? ⟨B, 2, none⟩ = some vs := (hb.cell (p := ⟨B, 2, none⟩) hB).trans h2
  have hBW : B < W.heap.size := Nat.lt_of_lt_of_le hB hb.size
  have hne : B ≠ W.heap.size := by omega
  have HV := Lib.hid (hL.below hb)
  have HBb := Lib.hid hb; clear hb h0 h1 h2 hL
  obtain ⟨xf, xt⟩ := x
  show Calls Tryz.prog 111 #[.agg #[strV xf, strV xt], .pointer (some ⟨B, 0, none⟩)] W _
  go_enter Tryz.func111, Tryz.ntmps111
  go_wp2_with fail
  refine (dropped_any Any1 vt vn vs L xt _ (HV.out.below ((Below.refl _ _).alloc (Nat.le_refl _) _)) hn).mono ?_
  rintro e w1 ⟨rfl, hb1⟩
  go_wp2_with fail
  go_ret
  exact ⟨rfl, (HBb.out.alloc HBb.out.size _).trans (hb1.mono (by have := HBb.out.size; simp; omega))⟩
set_option maxHeartbeats 400000 in
theorem contP_nil (a : Option Addr) (c : Nat) (f : Value) (w : World) :
    Calls Tryz.prog 110 #[.slice a 0 c, f] w fun e w' => e = .returned (.bool false) ∧ w = w' := by
  go_enter Tryz.func110, Tryz.ntmps110
  go_wp2_with fail
  refine (idxP_nil a c _ _).mono ?_
  rintro e w1 ⟨rfl, rfl⟩
  go_wp2_with fail
  go_ret
  exact ⟨rfl, rfl⟩
theorem contP_any (p : P2 → Bool) (g : Nat) (lb : Array Value) (eg : ∀ args w, (callFunc g args).run Tryz.prog w = .ok (.enter g args) w) (S : Nat → Prop) (v : Value) (L : List P2) (w : World) (h : Vec w S 2 encP v L) (hn : L.length ≤ 1000000) (hp : PredBelow Tryz.prog g lb (fun x => .agg (encP x).toArray) p w) :
    Calls Tryz.prog 110 #[v, .func (.func g) #[] lb] w fun e w' => e = .returned (.bool (L.any p)) ∧ Below w.heap.size w w' := by
  obtain ⟨a, cap, rfl, hcap, h0⟩ := h
  by_cases hz : L = []
  · subst hz
    exact (contP_nil a cap _ w).mono fun e w' ⟨he, hw⟩ => ⟨he, by rw [← hw]; exact Below.refl _ _⟩
  · obtain ⟨b, off, rfl, _, hb, hc⟩ := h0 (List.length_pos_iff.2 hz)
    have hcon := AnyQ.slices_ContainsFunc Tryz.laysCP 2 Tryz.isAgg103 Tryz.sizeOf103 encP (fun _ => rfl) p g lb eg b off L.length cap L w hp (Nat.le_refl _) (by omega) hb (fun j hj i u hi => by
        have e : L[j]? = some L[j]! := by rw [List.getElem?_eq_getElem hj, getElem!_pos L j hj]
        exact hc j _ e i u hi)
    rw [List.take_of_length_le (Nat.le_refl _)] at hcon
    exact hcon
def checkR (r : RulesL) : Int :=
  if 32 < r.titles.length ∨ 32 < r.nicks.length ∨ 32 < r.streets.length then 1
  else if titlesB r.titles = true ∧ pairsB r.nicks = true ∧ pairsB r.streets = true then (if (r.nicks.any fun x => hasB r.titles x.2) = true then 5 else 0) else 5
set_option maxHeartbeats 2000000 in
theorem rcheck_any (S : Nat → Prop) (vt vn vs : Value) (r : RulesL) (w : World) (h : RulesAt w S vt vn vs r) :
    Calls Tryz.prog 75 #[.agg #[vt, vn, vs]] w fun e w' => e = .returned (.int .i64 (checkR r)) ∧ Below w.heap.size w w' := by
  obtain ⟨lt, ln, ls⟩ := r
  obtain ⟨h1, h2, h3⟩ := h
  dsimp only at h1 h2 h3
  obtain ⟨at1, ct, rfl⟩ := h1.slice
  obtain ⟨an, cn, rfl⟩ := h2.slice
  obtain ⟨as', cs, rfl⟩ := h3.slice
  have H1 := Lib.hid h1.any; have H2 := Lib.hid h2.any; have H3 := Lib.hid h3.any
  clear h1 h2 h3
  have hfin : ∀ n : Int, checkR ⟨lt, ln, ls⟩ = n → Ending.returned (.int .i64 n) = .returned (.int .i64 (checkR ⟨lt, ln, ls⟩)) := fun n h => by rw [h]
  have HF := Lib.hid hfin; clear hfin
  by_cases g1 : 32 < lt.length
  · have e1 : decide ((32 : Int) < lt.length) = true := by simp; omega
    go_enter Tryz.func75, Tryz.ntmps75
    go_wp2_with fail
    go_ret
    exact ⟨HF.out 1 (by unfold checkR; rw [if_pos (.inl g1)]), (Below.refl _ _).alloc (Nat.le_refl _) _⟩
  · have e1 : decide ((32 : Int) < lt.length) = false := by simp; omega
    by_cases g2 : 32 < ln.length
    · have e2 : decide ((32 : Int) < ln.length) = true := by simp; omega
      go_enter Tryz.func75, Tryz.ntmps75
      go_wp2_with fail
      go_ret
      exact ⟨HF.out 1 (by unfold checkR; rw [if_pos (.inr (.inl g2))]), (Below.refl _ _).alloc (Nat.le_refl _) _⟩
    · have e2 : decide ((32 : Int) < ln.length) = false := by simp; omega
      by_cases g3 : 32 < ls.length
      · have e3 : decide ((32 : Int) < ls.length) = true := by simp; omega
        go_enter Tryz.func75, Tryz.ntmps75
        go_wp2_with fail
        go_ret
        exact ⟨HF.out 1 (by unfold checkR; rw [if_pos (.inr (.inr g3))]), (Below.refl _ _).alloc (Nat.le_refl _) _⟩
      · have e3 : decide ((32 : Int) < ls.length) = false := by simp; omega
        go_enter Tryz.func75, Tryz.ntmps75
        go_wp2_with fail
        clear e1 e2 e3
        refine (titles_any Any1 _ lt _ (H1.out.below ((Below.refl _ _).alloc (Nat.le_refl _) _)) (by omega)).mono ?_
        rintro e w1 ⟨rfl, hb1⟩
        have X1 : w1.heap[w.heap.size]? = some (.cells #[.slice at1 lt.length ct, .slice an ln.length cn, .slice as' ls.length cs] 31 (0, 0)) := blk_below hb1 (by simp) (blk_new rfl)
        obtain ⟨p0, p1, p2⟩ := cells3 X1
        have z1 := lt_of_blk X1
        have HB1 := Lib.hid (((Below.refl w.heap.size w).alloc (Nat.le_refl _) _).trans (hb1.mono (by simp)))
        have HX1 := Lib.hid X1; clear X1 hb1
        cases ht : titlesB lt
        · have HT := Lib.hid ht; clear ht
          go_wp2_with fail
          go_ret
          exact ⟨HF.out 5 (by unfold checkR; rw [if_neg (show ¬ (32 < lt.length ∨ 32 < ln.length ∨ 32 < ls.length) by omega), HT.out]; simp), HB1.out⟩
        · have HT := Lib.hid ht; clear ht
          go_wp2_with fail
          refine (pairs_any Any1 _ ln _ (H2.out.below HB1.out) (by omega)).mono ?_
          rintro e w2 ⟨rfl, hb2⟩
          clear p0 p1 p2
          have X2 := blk_below hb2 z1 HX1.out
          obtain ⟨p0, p1, p2⟩ := cells3 X2
          have z2 := lt_of_blk X2
          have HB2 := Lib.hid (HB1.out.trans (hb2.mono HB1.out.size))
          have HX2 := Lib.hid X2; clear X2 hb2 HX1 HB1
          cases hp : pairsB ln
          · have HP := Lib.hid hp; clear hp
            go_wp2_with fail
            go_ret
            exact ⟨HF.out 5 (by unfold checkR; rw [if_neg (show ¬ (32 < lt.length ∨ 32 < ln.length ∨ 32 < ls.length) by omega), HP.out]; simp), HB2.out⟩
          · have HP := Lib.hid hp; clear hp
            go_wp2_with fail
            refine (pairs_any Any1 _ ls _ (H3.out.below HB2.out) (by omega)).mono ?_
            rintro e w3 ⟨rfl, hb3⟩
            clear p0 p1 p2
            have X3 := blk_below hb3 z2 HX2.out
            obtain ⟨p0, p1, p2⟩ := cells3 X3
            have z3 := lt_of_blk X3
            have HB3 := Lib.hid (HB2.out.trans (hb3.mono HB2.out.size))
            have HX3 := Lib.hid X3; clear X3 hb3 HX2 HB2
            cases hq : pairsB ls
            · have HQ := Lib.hid hq; clear hq
              go_wp2_with fail
              go_ret
              exact ⟨HF.out 5 (by unfold checkR; rw [if_neg (show ¬ (32 < lt.length ∨ 32 < ln.length ∨ 32 < ls.length) by omega), HQ.out]; simp), HB3.out⟩
            · have HQ := Lib.hid hq; clear hq
              go_wp2_with fail
              have eg : ∀ args w, (callFunc 111 args).run Tryz.prog w = .ok (.enter 111 args) w := enters_of Tryz.func111 (by kernel_rfl) rfl
              refine (contP_any (fun x => hasB lt x.2) 111 #[.pointer (some ⟨w.heap.size, 0, none⟩)] eg Any1 _ ln _ (H2.out.below HB3.out) (by omega) (pred_check _ _ _ lt w.heap.size _ (H1.out.below HB3.out) (by omega) z3 p0 p1 p2)).mono ?_
              rintro e w4 ⟨rfl, hb4⟩
              have HB4 := Lib.hid (HB3.out.trans (hb4.mono HB3.out.size))
              clear hb4 eg p0 p1 p2
              cases hr : ln.any fun x => hasB lt x.2
              · have HR := Lib.hid hr; clear hr
                go_wp2_with fail
                go_ret
                exact ⟨HF.out 0 (by unfold checkR; rw [if_neg (show ¬ (32 < lt.length ∨ 32 < ln.length ∨ 32 < ls.length) by omega), if_pos ⟨HT.out, HP.out, HQ.out⟩, if_neg (by rw [HR.out]; simp)]), HB4.out⟩
              · have HR := Lib.hid hr; clear hr
                go_wp2_with fail
                go_ret
                exact ⟨HF.out 5 (by unfold checkR; rw [if_neg (show ¬ (32 < lt.length ∨ 32 < ln.length ∨ 32 < ls.length) by omega), if_pos ⟨HT.out, HP.out, HQ.out⟩, if_pos HR.out]), HB4.out⟩
end
section
set_option maxRecDepth 100000
open Go.RowKit
attribute [local go_sem] toList_mk mk_size
/-- what a token becomes by rules -/
def canonL : List P2 → List UInt8 → List UInt8
  | [], s => s
  | p :: L, s => if p.1 == s then p.2 else canonL L s
theorem canon_from (s : List UInt8) : ∀ (L : List P2) (i : Nat), (Lib.idxByFrom (fun _ (y : P2) => y.1 == s) default L i < 0 ∧ canonL L s = s) ∨ (∃ k, k < L.length ∧ Lib.idxByFrom (fun _ (y : P2) => y.1 == s) default L i = ((i + k : Nat) : Int) ∧ (L.getD k default).2 = canonL L s) := by
  intro L
  induction L with
  | nil => intro i; left; simp [Lib.idxByFrom, canonL]
  | cons p L ih =>
    intro i
    cases h : p.1 == s
    · simp only [Lib.idxByFrom, canonL, h]
      rcases ih (i + 1) with ⟨h1, h2⟩ | ⟨k, h1, h2, h3⟩
      · left; exact ⟨by simpa using h1, by simpa using h2⟩
      · right
        refine ⟨k + 1, by simp; omega, ?_, by simpa using h3⟩
        simp only [Bool.false_eq_true, if_false]
        rw [h2]; congr 1; omega
    · right
      exact ⟨0, by simp, by simp [Lib.idxByFrom, h], by simp [canonL, h]⟩
theorem canon_find (L : List P2) (s : List UInt8) : (findI L s < 0 ∧ canonL L s = s) ∨ (∃ k, k < L.length ∧ findI L s = (k : Int) ∧ (L.getD k default).2 = canonL L s) := by
  have := canon_from s L 0
  simpa [findI, Lib.idxBy] using this
set_option maxHeartbeats 1000000 in
theorem canonical_any (S : Nat → Prop) (vt vn vs : Value) (L : List P2) (s : List UInt8) (w : World) (h : Vec w S 2 encP vn L) (hn : L.length ≤ 1000000) :
    Calls Tryz.prog 210 #[.agg #[vt, vn, vs], strV s] w fun e w' => e = .returned (strV (canonL L s)) ∧ Below w.heap.size w w' := by
  obtain ⟨an, cn, rfl⟩ := h.slice
  have HV := Lib.hid h; clear h
  have hcf := canon_find L s
  go_enter Tryz.func210, Tryz.ntmps210
  go_wp2_with fail
  refine (find_any S _ L s _ (HV.out.below ((Below.refl _ _).alloc (Nat.le_refl _) _)) hn).mono ?_
  rintro e w1 ⟨rfl, hb1⟩
  have X1 : w1.heap[w.heap.size]? = some (.cells #[vt, .slice an L.length cn, vs] 31 (0, 0)) := blk_below hb1 (by simp) (blk_new rfl)
  obtain ⟨p0, p1, p2⟩ := cells3 X1
  have HB1 := Lib.hid (((Below.refl w.heap.size w).alloc (Nat.le_refl _) _).trans (hb1.mono (by simp)))
  clear X1 hb1
  rcases hcf with ⟨h1, h2⟩ | ⟨k, hk, h1, h2⟩
  · have H2 := Lib.hid h2; clear h2
    generalize findI L s = n at *
    go_wp2_with fail
    go_ret
    exact ⟨by rw [H2.out]; rfl, HB1.out⟩
  · rw [h1]
    obtain ⟨b, off, rfl, _, hb, hc⟩ := vec_cell2 HV.out (by omega)
    have hc1 := hc k hk 1 _ rfl
    rw [h2] at hc1
    have c1 : w1.cell? ⟨b, off + k * 2 + 1, none⟩ = some (strV (canonL L s)) := (HB1.out.cell (p := ⟨b, off + k * 2 + 1, none⟩) hb).trans hc1
    clear hc hc1 h1 h2
    have hk' : (k : Int) < (L.length : Int) := by omega
    obtain ⟨y, hy⟩ : ∃ y, canonL L s = y := ⟨_, rfl⟩
    rw [hy] at c1
    have HY := Lib.hid hy; clear hy
    go_wp2_with fail
    go_ret
    exact ⟨by rw [HY.out]; rfl, HB1.out⟩
theorem infoS : (Tryz.prog.info? 9).map (fun i => (i.zero, i.size, i.bytes)) = some (some (.string ⟨#[]⟩), 1, 16) := by kernel_rfl
/-- what becomes of a token: nothing, or one -/
def normTok (r : RulesL) (t : List UInt8) : List (List UInt8) := if (lettersL t).isEmpty || hasB r.titles (lettersL t) then [] else [canonL r.nicks (lettersL t)]
def nameToks (r : RulesL) (L : List (List UInt8)) : List (List UInt8) := L.flatMap (normTok r)
/-- the normal form of a name, and the error -/
def nameN (r : RulesL) (l : List UInt8) : List UInt8 × Int :=
  if checkR r = 0 then (if foldV l = true then (if 6 < (nameToks r (toks (foldL l))).length ∨ 64 < (joinL (nameToks r (toks (foldL l)))).length then ([], 1) else (joinL (nameToks r (toks (foldL l))), 0)) else ([], 3)) else ([], checkR r)
def pairV (p : List UInt8 × Int) : Value := .tuple #[strV p.1, .int .i64 p.2]
theorem nameToks_snoc (r : RulesL) (L : List (List UInt8)) (t : List UInt8) : nameToks r (L ++ [t]) = nameToks r L ++ normTok r t := by simp [nameToks]
theorem normTok_len (r : RulesL) (t : List UInt8) : (normTok r t).length ≤ 1 := by unfold normTok; split <;> simp
theorem nameToks_len (r : RulesL) (L : List (List UInt8)) : (nameToks r L).length ≤ L.length := by
  induction L with
  | nil => simp [nameToks]
  | cons t L ih =>
    have := normTok_len r t
    simp only [nameToks, List.flatMap_cons, List.length_append, List.length_cons] at *
    omega
theorem check_zero {r : RulesL} (h : checkR r = 0) : (r.titles.length ≤ 32 ∧ r.nicks.length ≤ 32 ∧ r.streets.length ≤ 32) ∧ titlesB r.titles = true ∧ pairsB r.nicks = true ∧ pairsB r.streets = true ∧ (r.nicks.any fun x => hasB r.titles x.2) = false := by
  unfold checkR at h
  split at h
  · omega
  · split at h
    · rename_i h1 h2
      split at h
      · omega
      · rename_i h3
        exact ⟨by omega, h2.1, h2.2.1, h2.2.2, by simpa using h3⟩
    · omega
theorem pairs_at {L : List P2} (h : pairsB L = true) (j : Nat) (hj : j < L.length) : pairAtB L j = true := List.all_eq_true.1 h j (List.mem_range.2 hj)
theorem token_len {t : List UInt8} (h : tokenB t = true) : t.length ≤ 64 := by
  unfold tokenB at h
  cases h1 : t.isEmpty <;> simp [h1] at h
  exact h.1
theorem canon_len {L : List P2} (h : pairsB L = true) (s : List UInt8) (hs : s.length ≤ 64) : (canonL L s).length ≤ 64 := by
  rcases canon_find L s with ⟨_, h2⟩ | ⟨k, hk, _, h3⟩
  · rw [h2]; exact hs
  · rw [← h3]
    have := pairs_at h k hk
    unfold pairAtB at this
    simp only [Bool.and_eq_true] at this
    exact token_len this.1.1.2
theorem join_le {m : Nat} : ∀ (L : List (List UInt8)), (∀ t ∈ L, t.length ≤ m) → (joinL L).length ≤ L.length * (m + 1) := by
  intro L
  induction L with
  | nil => intro _; simp [joinL]
  | cons t L ih =>
    intro h
    have h1 := ih fun t ht => h t (List.mem_cons_of_mem _ ht)
    have h2 := h t List.mem_cons_self
    by_cases hL : L = []
    · subst hL; simp [joinL]; omega
    · rw [join_cons_ne _ _ hL]
      simp only [List.length_append, List.length_cons, List.length_nil, Nat.succ_mul] at *
      omega
theorem toks_le (l : List UInt8) : ∀ p, ∀ t ∈ toksA p l, t.length ≤ p.length + l.length := by
  induction l with
  | nil =>
    intro p t ht
    simp only [toksA] at ht
    split at ht
    · simp at ht
    · simp at ht; subst ht; simp
  | cons c l ih =>
    intro p t ht
    by_cases hc : c = 32
    · subst hc
      by_cases hp : p = []
      · subst hp
        rw [toksA_sp0] at ht
        have := ih [] t ht
        simp at *; omega
      · rw [toksA_sp _ _ hp] at ht
        rcases List.mem_cons.1 ht with rfl | ht
        · simp
        · have := ih [] t ht
          simp at *; omega
    · rw [toksA_ch _ _ _ hc] at ht
      have := ih _ t ht
      simp at *; omega
theorem nameToks_le {r : RulesL} (h : pairsB r.nicks = true) {L : List (List UInt8)} (hL : ∀ t ∈ L, t.length ≤ 64) : ∀ t ∈ nameToks r L, t.length ≤ 64 := by
  intro t ht
  obtain ⟨x, hx, ht⟩ := List.mem_flatMap.1 ht
  unfold normTok at ht
  split at ht
  · simp at ht
  · simp at ht; subst ht
    exact canon_len h _ (Nat.le_trans (letters_len x) (hL x hx))
end
section
set_option maxRecDepth 100000
open Go.RowKit
attribute [local go_sem] toList_mk mk_size
theorem join_mem (L : List (List UInt8)) : ∀ b ∈ joinL L, b = 32 ∨ ∃ t ∈ L, b ∈ t := by
  induction L with
  | nil => intro b hb; simp [joinL] at hb
  | cons t L ih =>
    intro b hb
    by_cases hL : L = []
    · subst hL; exact .inr ⟨t, by simp, by simpa [joinL] using hb⟩
    · rw [join_cons_ne _ _ hL] at hb
      rcases List.mem_append.1 hb with hb | hb
      · rcases List.mem_append.1 hb with hb | hb
        · exact .inr ⟨t, by simp, hb⟩
        · simp at hb; exact .inl hb
      · rcases ih b hb with h | ⟨x, hx, h⟩
        · exact .inl h
        · exact .inr ⟨x, List.mem_cons_of_mem _ hx, h⟩
theorem fold_ok (l : List UInt8) : ∀ b ∈ foldL l, okB b = true := by
  intro b hb
  rcases join_mem _ b hb with h | ⟨t, ht, hbt⟩
  · subst h; rfl
  · rcases toksA_mem _ [] t ht b hbt with h | h
    · simp at h
    · exact (raw_ok l).1 b h.1
theorem fold_ascii (l : List UInt8) : ascii (foldL l) := fun b hb => okB_lt (fold_ok l b hb)
theorem foldV_len {l : List UInt8} (h : foldV l = true) : l.length ≤ 64 := by
  unfold foldV at h; simp at h; exact h.2
theorem own_below {w w' : World} {B e size n : Nat} {v : Value} {xs : List Value} (h : w.ownsRow B e size v n xs) (hb : Below w.heap.size w w') : w'.ownsRow B e size v n xs := by
  refine ⟨h.1, ?_⟩
  rcases h.2 with h0 | ⟨g, cap, cur, hv, hg, hh, rest⟩
  · exact .inl h0
  · exact .inr ⟨g, cap, cur, hv, hg, (hb.block g (lt_of_blk hh)).trans hh, rest⟩
theorem TL_get {T : List (List UInt8)} (h : ∀ t ∈ T, t.length ≤ 64) (k : Nat) (hk : k < T.length) : (T.getD k []).length ≤ 64 := by
  rw [List.getD, List.getElem?_eq_getElem hk]; exact h _ (List.getElem_mem hk)
/-- a row of texts that the call owns, beside what lay in w4 -/
def OwnAt (w4 : World) (v : Value) (L : List (List UInt8)) (wr : World) : Prop :=
  wr.ownsRow w4.heap.size 9 1 v L.length (L.flatMap encS) ∧ Below w4.heap.size w4 wr
theorem OwnAt.below {w4 wr w' : World} {v : Value} {L : List (List UInt8)} (h : OwnAt w4 v L wr) (hb : Below wr.heap.size wr w') : OwnAt w4 v L w' :=
  ⟨own_below h.1 hb, h.2.trans (hb.mono h.2.size)⟩
theorem OwnAt.start (w4 : World) : OwnAt w4 (.slice none 0 0) [] w4 := ⟨⟨rfl, .inl ⟨rfl, rfl⟩⟩, Below.refl _ _⟩
theorem flat_snoc (L : List (List UInt8)) (y : List UInt8) : (L ++ [y]).flatMap encS = L.flatMap encS ++ [strV y] := by simp
set_option maxHeartbeats 4000000 in
theorem norm_yes (S : Nat → Prop) (vt vn vs : Value) (r : RulesL) (s : ByteArray) (w : World) (h : RulesAt w S vt vn vs r) (hc : checkR r = 0) (hv : foldV s.data.toList = true) :
    Calls Tryz.prog 165 #[.agg #[vt, vn, vs], .string s] w fun e w' => e = .returned (pairV (nameN r s.data.toList)) ∧ Below w.heap.size w w' := by
  have hs : s.size ≤ 64 := by
    have := foldV_len hv
    have h2 : s.data.toList.length = s.size := by simp
    omega
  obtain ⟨⟨k1, k2, k3⟩, g1, g2, g3, g4⟩ := check_zero hc
  have G2 := Lib.hid g2
  have HR := Lib.hid h.any
  have HC := Lib.hid hc; have HV := Lib.hid hv
  clear h hc hv g1 g2 g3 g4
  have hfin : nameN r s.data.toList = (if 6 < (nameToks r (toks (foldL s.data.toList))).length ∨ 64 < (joinL (nameToks r (toks (foldL s.data.toList)))).length then ([], 1) else (joinL (nameToks r (toks (foldL s.data.toList))), 0)) := by
    unfold nameN; rw [if_pos HC.out, if_pos HV.out]
  have HF := Lib.hid hfin; clear hfin
  go_enter Tryz.func165, Tryz.ntmps165
  go_wp2_with fail
  refine (rcheck_any Any1 vt vn vs r _ (HR.out.below ((Below.refl _ _).alloc (Nat.le_refl _) _))).mono ?_
  rw [HC.out]
  rintro e w1 ⟨rfl, hb1⟩
  have X1 : w1.heap[w.heap.size]? = some (.cells #[vt, vn, vs] 31 (0, 0)) := blk_below hb1 (by simp) (blk_new rfl)
  have HX1 := Lib.hid X1
  have HB1 := Lib.hid (((Below.refl w.heap.size w).alloc (Nat.le_refl _) _).trans (hb1.mono (by simp)))
  clear X1 hb1
  go_wp2_with fail
  refine (fold_yes s _ (by omega) HV.out).mono ?_
  rintro e w2 ⟨rfl, hb2⟩
  have HX2 := Lib.hid (blk_below hb2 (lt_of_blk HX1.out) HX1.out)
  have HB2 := Lib.hid (HB1.out.trans (hb2.mono HB1.out.size))
  clear hb2 HX1 HB1
  go_wp2_with fail
  have hfl : (foldL s.data.toList).length ≤ 64 := by
    have := fold_len s.data.toList
    have h2 : s.data.toList.length = s.size := by simp
    omega
  obtain ⟨fl, hfl'⟩ : ∃ fl, foldL s.data.toList = fl := ⟨_, rfl⟩
  have hasc : ascii fl := hfl' ▸ fold_ascii _
  have HA := Lib.hid hasc
  rw [hfl'] at hfl HF ⊢
  clear hasc hfl'
  refine (tokens_any fl _ HA.out (by omega)).mono ?_
  rintro e w4 ⟨A, rfl, hA, ho, hb4⟩
  have HX4 := Lib.hid (blk_below hb4 (lt_of_blk HX2.out) HX2.out)
  have HB4 := Lib.hid (HB2.out.trans (hb4.mono HB2.out.size))
  have hV := Vec.owns (S := Any1) (k := 1) (enc := encS) (fun _ => rfl) ho (fun _ _ _ => trivial)
  have htl : ∀ t ∈ toks fl, t.length ≤ 64 := fun t ht => by have := toks_le fl [] t ht; simp at this; omega
  have htn : (toks fl).length ≤ 65 := by have := (toksA_len fl []).2.1; unfold toks; omega
  obtain ⟨T, hT⟩ : ∃ T, toks fl = T := ⟨_, rfl⟩
  rw [hT] at hV htl htn HF ⊢
  have HV4 := Lib.hid hV; have HTL := Lib.hid htl
  clear hb4 HX2 HB2 ho hV hT htl hA
  go_wp2_with fail
  go_loopw [9, 29] (fun v i wr => ∃ k : Nat, k ≤ T.length ∧ i = .int .i64 k ∧ OwnAt w4 v (nameToks r (T.take k)) wr) (fun _ i _ => T.length - (intOf i).toNat)
  case atStart => exact ⟨0, by omega, rfl, OwnAt.start w4⟩
  case round =>
    obtain ⟨k, hk, rfl, ho⟩ := hrel
    by_cases hlt : k < T.length
    · have hq : decide ((k : Int) < T.length) = true := by simp; omega
      have hi : (k : Int) < (T.length : Int) := by omega
      obtain ⟨b, off, e1, _, hb, hcx⟩ := vec_cell1 HV4.out (by omega)
      cases e1
      have htk : T.take (k + 1) = T.take k ++ [T.getD k []] := by
        rw [List.take_succ_eq_append_getElem hlt, List.getD, List.getElem?_eq_getElem hlt]; rfl
      have hxl : (T.getD k []).length ≤ 64 := TL_get HTL.out k hlt
      have hcx' := hcx k hlt
      obtain ⟨x, hx⟩ : ∃ x, T.getD k [] = x := ⟨_, rfl⟩
      rw [hx] at htk hxl hcx'
      have c1 : wr.cell? ⟨A, k, none⟩ = some (strV x) := by
        have := (ho.2.cell (p := ⟨A, 0 + k, none⟩) hb).trans hcx'
        simpa using this
      have HT := Lib.hid htk; have HO := Lib.hid ho
      have hnl := nameToks_len r (T.take k)
      have hnl2 : (nameToks r (T.take k)).length < 1099511627776 := by have := List.length_take_le k T; omega
      clear hx htk hcx hcx' ho hnl
      go_wp2_with fail
      refine (letters_any (mkS x) _ (by rw [show (mkS x).size = x.length from mk_size x]; omega)).mono ?_
      rw [show (mkS x).data.toList = x by simp [mkS]]
      rintro e w5 ⟨rfl, hb5⟩
      have HO5 := Lib.hid (HO.out.below hb5)
      have hX5 := blk_below (HO5.out.2) (lt_of_blk HX4.out) HX4.out
      clear HO hb5
      have HNT := Lib.hid (show normTok r x = if (lettersL x).isEmpty || hasB r.titles (lettersL x) then [] else [canonL r.nicks (lettersL x)] from rfl)
      have hyl := letters_len x
      obtain ⟨y, hy⟩ : ∃ y, lettersL x = y := ⟨_, rfl⟩
      rw [hy] at HNT hyl ⊢
      clear hy
      have HX5 := Lib.hid hX5
      obtain ⟨p0, p1, p2⟩ := cells3 hX5
      clear hX5
      by_cases hye : y = []
      · have e1 : (y == []) = true := by simpa using hye
        have e2 : y.isEmpty = true := by simpa using hye
        have HN := Lib.hid (show normTok r x = [] by rw [HNT.out, e2]; rfl)
        clear hye HNT
        go_wp2_with fail
        go_roundw
        case rel => exact ⟨k + 1, by omega, by go_num, by rw [HT.out, nameToks_snoc, HN.out, List.append_nil]; exact HO5.out⟩
        case measure => simp [intOf]; omega
      · have e1 : (y == []) = false := by simpa using hye
        have e2 : y.isEmpty = false := by simpa using hye
        rw [e2, Bool.false_or] at HNT
        clear hye
        go_wp2_with fail
        refine (dropped_any Any1 vt vn vs r.titles y _ (HR.out.1.below (HB4.out.trans (HO5.out.2.mono HB4.out.size))) (by omega)).mono ?_
        rintro e w6 ⟨rfl, hb6⟩
        have HO6 := Lib.hid (HO5.out.below hb6)
        have hX6 := blk_below hb6 (lt_of_blk HX5.out) HX5.out
        clear p0 p1 p2 HX5 hb6 HO5
        obtain ⟨p0, p1, p2⟩ := cells3 hX6
        have HX6 := Lib.hid hX6; clear hX6
        cases hd : hasB r.titles y
        · have HN := Lib.hid (show normTok r x = [canonL r.nicks y] by rw [HNT.out, hd]; rfl)
          clear hd HNT
          go_wp2_with fail
          refine (canonical_any Any1 vt vn vs r.nicks y _ (HR.out.2.1.below (HB4.out.trans (HO6.out.2.mono HB4.out.size))) (by omega)).mono ?_
          rintro e w7 ⟨rfl, hb7⟩
          have HO7 := Lib.hid (HO6.out.below hb7)
          clear p0 p1 p2 HX6 hb7 HO6
          obtain ⟨z, hz⟩ : ∃ z, canonL r.nicks y = z := ⟨_, rfl⟩
          rw [hz] at HN ⊢
          clear hz
          have hbz : w4.heap.size ≤ w7.heap.size := HO7.out.2.size
          go_wp2_with (at_builtin; refine wpList_append_new rfl _ _ 28 rfl w4.heap.size 9 1 16 (.string ⟨#[]⟩) Tryz.underlying28 infoS rfl (by decide) (by decide) _ _ _ rfl HO7.out.1 #[strV z] 1 rfl rfl (by simp [Value.oneCell']) hnl2 hbz ?_; intro v2 w8 ho8 hw8)
          go_roundw
          case rel => exact ⟨k + 1, by omega, by go_num, by rw [HT.out, nameToks_snoc, HN.out]; exact ⟨by rw [List.length_append, flat_snoc]; exact ho8, hw8 _ HO7.out.2⟩⟩
          case measure => simp [intOf]; omega
        · have HN := Lib.hid (show normTok r x = [] by rw [HNT.out, hd]; rfl)
          clear hd HNT
          go_wp2_with fail
          go_roundw
          case rel => exact ⟨k + 1, by omega, by go_num, by rw [HT.out, nameToks_snoc, HN.out, List.append_nil]; exact HO6.out⟩
          case measure => simp [intOf]; omega
    · have hq : decide ((k : Int) < T.length) = false := by simp; omega
      rw [List.take_of_length_le (by omega)] at ho
      have HV5 := Lib.hid (Vec.owns (S := Any1) (k := 1) (enc := encS) (fun _ => rfl) ho.1 (fun _ _ _ => trivial))
      have HW := Lib.hid (HB4.out.trans (ho.2.mono HB4.out.size))
      have hnl := nameToks_len r T
      have hjl := join_le (nameToks r T) (nameToks_le G2.out HTL.out)
      clear ho
      obtain ⟨N, hN⟩ : ∃ N, nameToks r T = N := ⟨_, rfl⟩
      rw [hN] at HV5 hnl hjl HF
      clear hN
      have hjb : (joinL N).length ≤ 1000000 := by
        have : N.length * 65 ≤ 65 * 65 := Nat.mul_le_mul_right 65 (by omega)
        omega
      clear hjl
      obtain ⟨av, cv, rfl⟩ := HV5.out.slice
      go_wp2_with fail
      refine (join_any Any1 _ N _ HV5.out (by omega) (by omega)).mono ?_
      rintro e w9 ⟨rfl, hb9⟩
      have HW9 := Lib.hid (HW.out.trans (hb9.mono HW.out.size)); clear hb9
      obtain ⟨J, hJ⟩ : ∃ J, joinL N = J := ⟨_, rfl⟩
      rw [hJ] at HF hjb ⊢
      clear hJ
      by_cases g1 : 6 < N.length
      · have d1 : decide ((6 : Int) < N.length) = true := by simp; omega
        rw [if_pos (.inl g1)] at HF
        go_wp2_with fail
        go_ret2
        exact ⟨by rw [HF.out]; rfl, HW9.out⟩
      · have d1 : decide ((6 : Int) < N.length) = false := by simp; omega
        by_cases g2 : 64 < J.length
        · have d2 : decide ((64 : Int) < J.length) = true := by simp; omega
          rw [if_pos (.inr g2)] at HF
          go_wp2_with fail
          go_ret2
          exact ⟨by rw [HF.out]; rfl, HW9.out⟩
        · have d2 : decide ((64 : Int) < J.length) = false := by simp; omega
          rw [if_neg (by omega)] at HF
          go_wp2_with fail
          go_ret2
          exact ⟨by rw [HF.out]; rfl, HW9.out⟩
set_option maxHeartbeats 1000000 in
theorem norm_no (S : Nat → Prop) (vt vn vs : Value) (r : RulesL) (s : ByteArray) (w : World) (h : RulesAt w S vt vn vs r) (hs : s.size ≤ 9223372036854775000) (hc : checkR r = 0) (hv : foldV s.data.toList = false) :
    Calls Tryz.prog 165 #[.agg #[vt, vn, vs], .string s] w fun e w' => e = .returned (pairV (nameN r s.data.toList)) ∧ Below w.heap.size w w' := by
  have HR := Lib.hid h.any
  have HC := Lib.hid hc; have HV := Lib.hid hv
  clear h hc hv
  have HF := Lib.hid (show nameN r s.data.toList = ([], 3) by unfold nameN; rw [if_pos HC.out, if_neg (by rw [HV.out]; simp)])
  go_enter Tryz.func165, Tryz.ntmps165
  go_wp2_with fail
  refine (rcheck_any Any1 vt vn vs r _ (HR.out.below ((Below.refl _ _).alloc (Nat.le_refl _) _))).mono ?_
  rw [HC.out]
  rintro e w1 ⟨rfl, hb1⟩
  have HB1 := Lib.hid (((Below.refl w.heap.size w).alloc (Nat.le_refl _) _).trans (hb1.mono (by simp)))
  clear hb1
  go_wp2_with fail
  refine (fold_no s _ hs HV.out).mono ?_
  rintro e w2 ⟨rfl, hb2⟩
  have HB2 := Lib.hid (HB1.out.trans (hb2.mono HB1.out.size))
  clear hb2 HB1
  go_wp2_with fail
  go_ret2
  exact ⟨by rw [HF.out]; rfl, HB2.out⟩
set_option maxHeartbeats 1000000 in
theorem norm_bad (S : Nat → Prop) (vt vn vs : Value) (r : RulesL) (s : ByteArray) (w : World) (h : RulesAt w S vt vn vs r) (hc : checkR r ≠ 0) :
    Calls Tryz.prog 165 #[.agg #[vt, vn, vs], .string s] w fun e w' => e = .returned (pairV (nameN r s.data.toList)) ∧ Below w.heap.size w w' := by
  have HR := Lib.hid h.any
  have HF := Lib.hid (show nameN r s.data.toList = ([], checkR r) by unfold nameN; rw [if_neg hc])
  have hne : (checkR r != 0) = true := by simpa using hc
  clear h hc
  go_enter Tryz.func165, Tryz.ntmps165
  go_wp2_with fail
  refine (rcheck_any Any1 vt vn vs r _ (HR.out.below ((Below.refl _ _).alloc (Nat.le_refl _) _))).mono ?_
  obtain ⟨c, hcc⟩ : ∃ c, checkR r = c := ⟨_, rfl⟩
  rw [hcc] at hne HF ⊢
  clear hcc
  rintro e w1 ⟨rfl, hb1⟩
  have HB1 := Lib.hid (((Below.refl w.heap.size w).alloc (Nat.le_refl _) _).trans (hb1.mono (by simp)))
  clear hb1
  go_wp2_with fail
  go_ret2
  exact ⟨by rw [HF.out]; rfl, HB1.out⟩
theorem norm_any (S : Nat → Prop) (vt vn vs : Value) (r : RulesL) (s : ByteArray) (w : World) (h : RulesAt w S vt vn vs r) (hs : s.size ≤ 9223372036854775000) :
    Calls Tryz.prog 165 #[.agg #[vt, vn, vs], .string s] w fun e w' => e = .returned (pairV (nameN r s.data.toList)) ∧ Below w.heap.size w w' := by
  by_cases hc : checkR r = 0
  · cases hv : foldV s.data.toList with
    | true => exact norm_yes S vt vn vs r s w h hc hv
    | false => exact norm_no S vt vn vs r s w h hs hc hv
  · exact norm_bad S vt vn vs r s w h hc
/-- is a text its own normal form -/
def isOwn (p : List UInt8 × Int) (l : List UInt8) : Bool := bif p.2 == 0 then p.1 == l else false
set_option maxHeartbeats 1000000 in
theorem normal_any (S : Nat → Prop) (vt vn vs : Value) (r : RulesL) (s : ByteArray) (w : World) (h : RulesAt w S vt vn vs r) (hs : s.size ≤ 9223372036854775000) :
    Calls Tryz.prog 166 #[.agg #[vt, vn, vs], .string s] w fun e w' => e = .returned (.bool (isOwn (nameN r s.data.toList) s.data.toList)) ∧ Below w.heap.size w w' := by
  have HR := Lib.hid h.any; clear h
  have HS := Lib.hid (Lib.toList_data s)
  go_enter Tryz.func166, Tryz.ntmps166
  go_wp2_with fail
  refine (norm_any Any1 vt vn vs r s _ (HR.out.below ((Below.refl _ _).alloc (Nat.le_refl _) _)) hs).mono ?_
  obtain ⟨p, hp⟩ : ∃ p, nameN r s.data.toList = p := ⟨_, rfl⟩
  rw [hp]
  have HP := Lib.hid hp; clear hp
  obtain ⟨pl, pe⟩ := p
  unfold pairV
  rintro e w1 ⟨rfl, hb1⟩
  have HB1 := Lib.hid (((Below.refl w.heap.size w).alloc (Nat.le_refl _) _).trans (hb1.mono (by simp)))
  clear hb1
  cases he : (pe == 0)
  all_goals
    go_wp2_with fail
    go_ret
    refine ⟨ret_bool ?_, HB1.out⟩
    rw [HP.out]
    simp [isOwn, he, HS.out]
end
section
set_option maxRecDepth 100000
open Go.RowKit
attribute [local go_sem] toList_mk mk_size
def numB : List UInt8 → Bool
  | c :: _ => isDgt c
  | [] => false
@[local go_sem] theorem get_zero (c : UInt8) (l : List UInt8) (h : 0 < (⟨(c :: l).toArray⟩ : ByteArray).size) : (⟨(c :: l).toArray⟩ : ByteArray)[0]'h = c := rfl
set_option maxHeartbeats 400000 in
theorem numeral_any (l : List UInt8) (w : World) :
    Calls Tryz.prog 217 #[strV l] w fun e w' => e = .returned (.bool (numB l)) ∧ w = w' := by
  cases l with
  | nil =>
    go_enter Tryz.func217, Tryz.ntmps217
    go_wp2
    go_ret
    exact ⟨rfl, rfl⟩
  | cons c l =>
    have HD := Lib.hid (dig_iff c)
    go_enter Tryz.func217, Tryz.ntmps217
    go_wp2
    all_goals
      go_ret
      exact ⟨ret_bool (by rw [show numB (c :: l) = isDgt c from rfl, HD.out]; simp; try omega), rfl⟩
/-- a number without the noughts ahead of it -/
def shortL (l : List UInt8) : List UInt8 := if numB (l.dropWhile (· == 48)) = true then l.dropWhile (· == 48) else 48 :: l.dropWhile (· == 48)
@[local go_sem] theorem nought_append (b : List UInt8) : (⟨#[48]⟩ : ByteArray) ++ ⟨b.toArray⟩ = ⟨(48 :: b).toArray⟩ := by
  apply ByteArray.ext; simp
theorem dropWhile_len (p : UInt8 → Bool) (l : List UInt8) : (l.dropWhile p).length ≤ l.length := by
  induction l with
  | nil => simp
  | cons c l ih => rw [List.dropWhile_cons]; split <;> simp; omega
theorem short_len (l : List UInt8) : (shortL l).length ≤ l.length + 1 := by
  have := dropWhile_len (· == 48) l
  unfold shortL; split <;> simp <;> omega
set_option maxHeartbeats 400000 in
theorem short_any (l : List UInt8) (w : World) (hl : l.length ≤ 1000000) :
    Calls Tryz.prog 218 #[strV l] w fun e w' => e = .returned (strV (shortL l)) ∧ w = w' := by
  have ht := Tryz.strings_TrimLeft_one (mkS l) 48 (by decide) w
  rw [show (mkS l).data.toList = l by simp [mkS]] at ht
  have HT := Lib.hid ht; clear ht
  have hfin : shortL l = if numB (Lib.trimLeftB l 48) = true then Lib.trimLeftB l 48 else 48 :: Lib.trimLeftB l 48 := rfl
  have hlen : (Lib.trimLeftB l 48).length ≤ l.length := dropWhile_len _ l
  obtain ⟨r, hr⟩ : ∃ r, Lib.trimLeftB l 48 = r := ⟨_, rfl⟩
  rw [hr] at HT hfin hlen
  have HF := Lib.hid hfin; clear hfin hr
  go_enter Tryz.func218, Tryz.ntmps218
  go_wp2_with fail
  refine HT.out.mono ?_
  rintro e w1 ⟨rfl, hw⟩
  subst hw
  go_wp2_with fail
  refine (numeral_any r _).mono ?_
  rintro e w1 ⟨rfl, rfl⟩
  cases hn : numB r
  · rw [if_neg (by rw [hn]; simp)] at HF
    have hsz : ¬ (9223372036854775807 : Int) < ((r.length + 1 : Nat) : Int) := by omega
    go_wp2_with fail
    go_ret
    exact ⟨by rw [HF.out]; rfl, rfl⟩
  · rw [if_pos hn] at HF
    go_wp2_with fail
    go_ret
    exact ⟨by rw [HF.out]; rfl, rfl⟩
end
section
set_option maxRecDepth 100000
open Go.RowKit
attribute [local go_sem] toList_mk mk_size
/-- append(s, x), with word of where the new slice lies -/
theorem wpList_append_newat {P : Program} {w : World} {ops : Array Oper} {rest : List Oper} {o : Oper} {a : Act} {Q : Exit → Act → World → Prop} (hgd : o.guard = none) (s x : Operand) (t : TypeId)
    (ho : o.op = .call { callee := .builtin .append, args := #[s, x], argTypes := #[t, t] })
    (base : Nat) (e : TypeId) (size bytes : Nat) (z : Value) (ht : P.underlying t = some (.slice e)) (hinfo : (P.info? e).map (fun i => (i.zero, i.size, i.bytes)) = some (some z, size, bytes))
    (hzs : z.cells.size = size) (hsz : 0 < size) (hby : bytes ≤ 128)
    (v : Value) (n : Nat) (xs : List Value) (hs : a.eval s = v) (hown : w.ownsRow base e size v n xs)
    (cs : Array Value) (c : Nat) (hx : a.eval x = .slice (some ⟨w.heap.size, 0, none⟩) 1 c) (hcs : cs.size = size) (h1 : ∀ u ∈ cs.toList, u.oneCell' = true)
    (hn : n < 1099511627776) (hbase : base ≤ w.heap.size)
    (h : ∀ v' w', w'.ownsRow base e size v' (n + 1) (xs ++ cs.toList) → (w.alloc (.cells cs e)).grownBy w' v.ownBlock → (v'.ownBlock = v.ownBlock ∨ v'.ownBlock = some (w.heap.size + 1)) → (∀ W, Below base W w → Below base W w') → wpList P ops Q rest (a.put o.dst v') w') :
    wpList P ops Q (o :: rest) a (w.alloc (.cells cs e)) := by
  obtain ⟨i, hi, hz, h2, h3⟩ := info_parts hinfo
  refine wpList_append_own_at _ hgd s x t ho base e i z size bytes ht hi hz h2 h3 hzs hsz v n xs hs (hown.alloc _) ⟨w.heap.size, 0, none⟩ 1 c cs.toList hx (by simp [hcs]) ?_ h1 (size_le_maxLen (by omega)) ?_ (by simp; omega) ?_
  · intro j u hu
    have : (⟨w.heap.size, 0, none⟩ : Addr).add j = ⟨w.heap.size, j, none⟩ := by unfold Addr.add; split <;> simp_all
    rw [this, cell_of_row _ _ _ _ _ _ (heap_alloc_new w _)]
    simpa using hu
  · exact Nat.le_trans (Nat.mul_le_mul (Nat.le_of_lt_succ (by omega : n + 1 < 1099511627776 + 1)) hby) (by decide)
  · intro v' w' ho' hg _ hat
    refine h v' w' ho' hg (by simpa using hat) fun W hW => (hW.alloc hbase _).grown hg (by simp; omega) ?_
    intro k hk
    exact (hown.lt k hk).1
/-- two rows of texts that the call owns, each by itself -/
def TwoAt (w : World) (u v : Value) (Y N : List (List UInt8)) (wr : World) : Prop :=
  wr.ownsRow w.heap.size 9 1 u Y.length (Y.flatMap encS) ∧ wr.ownsRow w.heap.size 9 1 v N.length (N.flatMap encS) ∧ (∀ g, u.ownBlock = some g → v.ownBlock ≠ some g) ∧ Below w.heap.size w wr
theorem TwoAt.below {w wr w' : World} {u v : Value} {Y N : List (List UInt8)} (h : TwoAt w u v Y N wr) (hb : Below wr.heap.size wr w') : TwoAt w u v Y N w' :=
  ⟨own_below h.1 hb, own_below h.2.1 hb, h.2.2.1, h.2.2.2.trans (hb.mono h.2.2.2.size)⟩
theorem TwoAt.swap {w wr : World} {u v : Value} {Y N : List (List UInt8)} (h : TwoAt w u v Y N wr) : TwoAt w v u N Y wr :=
  ⟨h.2.1, h.1, fun g hv hu => h.2.2.1 g hu hv, h.2.2.2⟩
theorem own_kept {w w' : World} {B e size n : Nat} {v : Value} {xs : List Value} {row : Option Nat} (h : w.ownsRow B e size v n xs) (hg : w.grownBy w' row) (hr : ∀ g, v.ownBlock = some g → row ≠ some g) : w'.ownsRow B e size v n xs := by
  refine ⟨h.1, ?_⟩
  rcases h.2 with h0 | ⟨g, cap, cur, hv, hg', hh, rest⟩
  · exact .inl h0
  · exact .inr ⟨g, cap, cur, hv, hg', (hg.block g (lt_of_blk hh) (fun e => hr g (by rw [hv]; rfl) e.symm)).trans hh, rest⟩
theorem TwoAt.put {w wr w2 : World} {u v u2 : Value} {Y N : List (List UInt8)} {y : List UInt8} (h : TwoAt w u v Y N wr) (ho : w2.ownsRow w.heap.size 9 1 u2 (Y.length + 1) (Y.flatMap encS ++ [strV y]))
    (hg : (wr.alloc (.cells #[strV y] 9)).grownBy w2 u.ownBlock) (hat : u2.ownBlock = u.ownBlock ∨ u2.ownBlock = some (wr.heap.size + 1)) (hw : ∀ W, Below w.heap.size W wr → Below w.heap.size W w2) : TwoAt w u2 v (Y ++ [y]) N w2 := by
  obtain ⟨h1, h2, h3, h4⟩ := h
  refine ⟨by rw [List.length_append, flat_snoc]; exact ho, own_kept (h2.alloc _) hg (fun g hv hu => h3 g hu hv), fun g hu hv => ?_, hw _ h4⟩
  rcases hat with hat | hat
  · exact h3 g (by rw [← hat]; exact hu) hv
  · rw [hat] at hu
    have := (h2.lt g hv).2
    injection hu with hu
    omega
theorem TwoAt.start (w : World) : TwoAt w (.slice none 0 0) (.slice none 0 0) [] [] w := ⟨⟨rfl, .inl ⟨rfl, rfl⟩⟩, ⟨rfl, .inl ⟨rfl, rfl⟩⟩, (fun g h => by simp [Value.ownBlock] at h), Below.refl _ _⟩
def PartPost (L : List (List UInt8)) (w : World) (e : Ending) (w' : World) : Prop := ∃ u v, e = .returned (.tuple #[u, v]) ∧ TwoAt w u v (L.filter numB) (L.filter fun x => !numB x) w'
theorem filter_snoc_yes {p : List UInt8 → Bool} (L : List (List UInt8)) (x : List UInt8) (h : p x = true) : (L ++ [x]).filter p = L.filter p ++ [x] := by simp [h]
theorem filter_snoc_no {p : List UInt8 → Bool} (L : List (List UInt8)) (x : List UInt8) (h : p x = false) : (L ++ [x]).filter p = L.filter p := by simp [h]
theorem take_snocT (T : List (List UInt8)) (k : Nat) (h : k < T.length) : T.take (k + 1) = T.take k ++ [T.getD k []] := by
  rw [List.take_succ_eq_append_getElem h, List.getD, List.getElem?_eq_getElem h]; rfl
set_option maxHeartbeats 2000000 in
theorem part_any (S : Nat → Prop) (v : Value) (L : List (List UInt8)) (w : World) (h : Vec w S 1 encS v L) (hn : L.length ≤ 1000000) :
    Calls Tryz.prog 219 #[v, .func (.func 217) #[] #[]] w (PartPost L w) := by
  obtain ⟨a, cap, rfl⟩ := h.slice
  have HV := Lib.hid h; clear h
  go_enter Tryz.func219, Tryz.ntmps219
  go_wp2_with fail
  go_loopw [4, 5, 10] (fun y n i wr => ∃ k : Nat, k ≤ L.length ∧ i = .int .i64 k ∧ TwoAt w y n ((L.take k).filter numB) ((L.take k).filter fun x => !numB x) wr) (fun _ _ i _ => L.length - (intOf i).toNat)
  case atStart => exact ⟨0, by omega, rfl, TwoAt.start w⟩
  case round =>
    obtain ⟨k, hk, rfl, ho⟩ := hrel
    have HO := Lib.hid ho; clear ho
    by_cases hlt : k < L.length
    · have hq : decide ((k : Int) < L.length) = true := by simp; omega
      have hi : (k : Int) < (L.length : Int) := by omega
      obtain ⟨b, off, rfl, _, hb, hcx⟩ := vec_cell1 HV.out (by omega)
      have htk := take_snocT L k hlt
      have hcx' := hcx k hlt
      obtain ⟨x, hx⟩ : ∃ x, L.getD k [] = x := ⟨_, rfl⟩
      rw [hx] at htk hcx'
      have c1 : wr.cell? ⟨b, off + k, none⟩ = some (strV x) := (HO.out.2.2.2.cell (p := ⟨b, off + k, none⟩) hb).trans hcx'
      have HT := Lib.hid htk
      have l1 : ((L.take k).filter numB).length < 1099511627776 := by have := List.length_filter_le numB (L.take k); have := List.length_take_le k L; omega
      have l2 : ((L.take k).filter fun x => !numB x).length < 1099511627776 := by have := List.length_filter_le (fun x => !numB x) (L.take k); have := List.length_take_le k L; omega
      have hbz : w.heap.size ≤ wr.heap.size := HO.out.2.2.2.size
      clear hx htk hcx hcx'
      go_wp2_with fail
      refine (numeral_any x _).mono ?_
      rintro e w1 ⟨rfl, rfl⟩
      cases hd : numB x
      · have F1 := Lib.hid (filter_snoc_no (p := numB) (L.take k) x hd)
        have F2 := Lib.hid (filter_snoc_yes (p := fun x => !numB x) (L.take k) x (by simp [hd]))
        clear hd
        go_wp2_with (at_builtin; refine wpList_append_newat rfl _ _ 28 rfl w.heap.size 9 1 16 (.string ⟨#[]⟩) Tryz.underlying28 infoS rfl (by decide) (by decide) _ _ _ rfl HO.out.2.1 #[strV x] 1 rfl rfl (by simp [Value.oneCell']) l2 hbz ?_; intro v2 w8 ho8 hg8 hat8 hw8)
        go_roundw
        case rel => exact ⟨k + 1, by omega, by go_num, by rw [HT.out, F1.out, F2.out]; exact (HO.out.swap.put ho8 hg8 hat8 hw8).swap⟩
        case measure => simp [intOf]; omega
      · have F1 := Lib.hid (filter_snoc_yes (p := numB) (L.take k) x hd)
        have F2 := Lib.hid (filter_snoc_no (p := fun x => !numB x) (L.take k) x (by simp [hd]))
        clear hd
        go_wp2_with (at_builtin; refine wpList_append_newat rfl _ _ 28 rfl w.heap.size 9 1 16 (.string ⟨#[]⟩) Tryz.underlying28 infoS rfl (by decide) (by decide) _ _ _ rfl HO.out.1 #[strV x] 1 rfl rfl (by simp [Value.oneCell']) l1 hbz ?_; intro v2 w8 ho8 hg8 hat8 hw8)
        go_roundw
        case rel => exact ⟨k + 1, by omega, by go_num, by rw [HT.out, F1.out, F2.out]; exact HO.out.put ho8 hg8 hat8 hw8⟩
        case measure => simp [intOf]; omega
    · have hq : decide ((k : Int) < L.length) = false := by simp; omega
      rw [List.take_of_length_le (by omega)] at HO
      go_wp2_with fail
      go_ret2
      exact ⟨_, _, rfl, HO.out⟩
end
section
set_option maxRecDepth 100000
open Go.RowKit
attribute [local go_sem] toList_mk mk_size
theorem idxP_any (p : P2 → Bool) (g : Nat) (lb : Array Value) (eg : ∀ args w, (callFunc g args).run Tryz.prog w = .ok (.enter g args) w) (S : Nat → Prop) (v : Value) (L : List P2) (w : World) (h : Vec w S 2 encP v L) (hn : L.length ≤ 1000000) (hp : PredBelow Tryz.prog g lb (fun x => .agg (encP x).toArray) p w) :
    Calls Tryz.prog 149 #[v, .func (.func g) #[] lb] w fun e w' => e = .returned (.int .i64 (Lib.idxBy (fun _ (y : P2) => p y) L default)) ∧ Below w.heap.size w w' := by
  obtain ⟨a, cap, rfl, hcap, h0⟩ := h
  by_cases hz : L = []
  · subst hz
    exact (idxP_nil a cap _ w).mono fun e w' ⟨he, hw⟩ => ⟨he, by rw [← hw]; exact Below.refl _ _⟩
  · obtain ⟨b, off, rfl, _, hb, hc⟩ := h0 (List.length_pos_iff.2 hz)
    have hcon := AnyQ.slices_IndexFunc Tryz.laysIP 2 Tryz.isAgg103 Tryz.sizeOf103 encP (fun _ => rfl) p g lb eg b off L.length cap L w hp (Nat.le_refl _) (by omega) hb (fun j hj i u hi => by
        have e : L[j]? = some L[j]! := by rw [List.getElem?_eq_getElem hj, getElem!_pos L j hj]
        exact hc j _ e i u hi)
    rw [List.take_of_length_le (Nat.le_refl _)] at hcon
    exact hcon
theorem pred_addr (s : List UInt8) (B : Nat) (w : World) (hB : B < w.heap.size) (hcell : w.cell? ⟨B, 0, none⟩ = some (strV s)) :
    PredBelow Tryz.prog 216 #[.pointer (some ⟨B, 0, none⟩)] (fun x => .agg (encP x).toArray) (fun x => x.1 == s) w := fun W x hb => by
  have hc : W.cell? ⟨B, 0, none⟩ = some (strV s) := (hb.cell (p := ⟨B, 0, none⟩) hB).trans hcell
  have hBW : B < W.heap.size := Nat.lt_of_lt_of_le hB hb.size
  have hne : B ≠ W.heap.size := by omega
  have HBb := Lib.hid hb; clear hb hcell
  show Calls Tryz.prog 216 #[.agg #[strV x.1, strV x.2], .pointer (some ⟨B, 0, none⟩)] W _
  go_enter Tryz.func216, Tryz.ntmps216
  go_wp2
  go_ret
  exact ⟨rfl, HBb.out.alloc HBb.out.size _⟩
/-- a block that holds just these texts -/
def RowB (w : World) (A : Nat) (L : List (List UInt8)) : Prop := w.heap[A]? = some (.cells (L.flatMap encS).toArray 9 (0, 0))
theorem own_block {w : World} {B A n : Nat} {L : List (List UInt8)} (h : w.ownsRow B 9 1 (.slice (some ⟨A, 0, none⟩) n n) n (L.flatMap encS)) : B ≤ A ∧ RowB w A L := by
  rcases h.2 with ⟨h0, _⟩ | ⟨g, cap, cur, hv, hg, hh, hn, hc, hsz, ht⟩
  · cases h0
  · cases hv
    refine ⟨hg, ?_⟩
    rw [List.take_of_length_le (by simp [hsz])] at ht
    unfold RowB
    rw [hh, ← ht]
theorem flat_len1 (L : List (List UInt8)) : (L.flatMap encS).length = L.length := by rw [flat_len (k := 1) (fun _ => rfl)]; omega
theorem flat_get1 (L : List (List UInt8)) (j : Nat) (hj : j < L.length) : (L.flatMap encS)[j]? = some (strV (L.getD j [])) := by
  have := flat_get (k := 1) (enc := encS) (fun _ => rfl) L j L[j] (List.getElem?_eq_getElem hj) 0 (by omega)
  rw [List.getD, List.getElem?_eq_getElem hj]
  simpa using this
theorem RowB.cell {w : World} {A : Nat} {L : List (List UInt8)} (h : RowB w A L) (j : Nat) (hj : j < L.length) : w.cell? ⟨A, j, none⟩ = some (strV (L.getD j [])) := by
  rw [cell_of_row _ _ _ _ _ _ h, List.getElem?_toArray]
  exact flat_get1 L j hj
theorem RowB.vec {w : World} {A : Nat} {L : List (List UInt8)} (h : RowB w A L) (cap : Nat) (hc : L.length ≤ cap) : Vec w Any1 1 encS (.slice (some ⟨A, 0, none⟩) L.length cap) L :=
  ⟨_, cap, rfl, hc, fun _ => ⟨A, 0, rfl, trivial, lt_of_blk h, fun j x hj i u hu => by
    have hj' : j < L.length := (List.getElem?_eq_some_iff.1 hj).1
    have hi : i = 0 := by
      cases i with
      | zero => rfl
      | succ i => simp [encS] at hu
    subst hi
    have := h.cell j hj'
    rw [List.getD, hj] at this
    simp [encS] at hu
    subst hu
    simpa using this⟩⟩
theorem flat_set (L : List (List UInt8)) (k : Nat) (y : List UInt8) : (L.set k y).flatMap encS = (L.flatMap encS).set k (strV y) := by
  induction L generalizing k with
  | nil => rfl
  | cons x L ih =>
    cases k with
    | zero => rfl
    | succ k => rw [List.set_cons_succ, List.flatMap_cons, List.flatMap_cons, ih]; rfl
theorem RowB.set {w : World} {A : Nat} {L : List (List UInt8)} (h : RowB w A L) (k : Nat) (y : List UInt8) : RowB (w.setCell ⟨A, k, none⟩ (strV y)) A (L.set k y) := by
  have := blk_set (i := k) (v := strV y) h
  unfold RowB
  rw [this, flat_set]
  simp
/-- what becomes of a token of an address -/
def addrTok (r : RulesL) (x : List UInt8) : List UInt8 := if numB x = true then shortL x else canonL r.streets x
def midL (f : List UInt8 → List UInt8) (T : List (List UInt8)) (k : Nat) : List (List UInt8) := (T.take k).map f ++ T.drop k
theorem mid_len (f : List UInt8 → List UInt8) (T : List (List UInt8)) (k : Nat) (hk : k ≤ T.length) : (midL f T k).length = T.length := by
  unfold midL; simp; omega
theorem mid_get (f : List UInt8 → List UInt8) (T : List (List UInt8)) (k : Nat) (hk : k < T.length) : (midL f T k).getD k [] = T.getD k [] := by
  unfold midL
  rw [List.getD, List.getElem?_append_right (by simp; omega), List.getElem?_drop, List.getD]
  congr 2
  simp; omega
theorem mid_set (f : List UInt8 → List UInt8) (T : List (List UInt8)) (k : Nat) (hk : k < T.length) (y : List UInt8) (hy : f (T.getD k []) = y) : (midL f T k).set k y = midL f T (k + 1) := by
  unfold midL
  have e : T.drop k = T.getD k [] :: T.drop (k + 1) := by
    rw [List.getD, List.getElem?_eq_getElem hk]; exact List.drop_eq_getElem_cons hk
  rw [take_snocT T k hk, e, List.set_append_right _ _ (by simp; omega)]
  have : k - ((T.take k).map f).length = 0 := by simp; omega
  rw [this, List.set_cons_zero, List.map_append, List.append_assoc, ← hy]
  rfl
theorem mid_same (f : List UInt8 → List UInt8) (T : List (List UInt8)) (k : Nat) (hk : k < T.length) (hy : f (T.getD k []) = T.getD k []) : midL f T k = midL f T (k + 1) := by
  unfold midL
  have e : T.drop k = T.getD k [] :: T.drop (k + 1) := by
    rw [List.getD, List.getElem?_eq_getElem hk]; exact List.drop_eq_getElem_cons hk
  rw [take_snocT T k hk, e, List.map_append, List.append_assoc, List.map_cons, List.map_nil, hy]
  rfl
end
section
/-- the parts of a text between single bytes c; p is the part that has begun -/
def splC (c : UInt8) : List UInt8 → List UInt8 → List (List UInt8)
  | p, [] => [p]
  | p, x :: r => if x == c then p :: splC c [] r else splC c (p ++ [x]) r
theorem splC_run (c : UInt8) (t : List UInt8) (h : c ∉ t) : ∀ p r, splC c p (t ++ r) = splC c (p ++ t) r := by
  induction t with
  | nil => intro p r; simp
  | cons x t ih =>
    intro p r
    have hx : (x == c) = false := by
      have : c ≠ x := fun e => h (by simp [e])
      simpa using fun e => this e.symm
    rw [List.cons_append, splC, hx, if_neg (by simp), ih (fun hb => h (List.mem_cons_of_mem _ hb)), List.append_assoc]
    rfl
theorem splC_no (c : UInt8) (t : List UInt8) (h : c ∉ t) (p : List UInt8) : splC c p t = [p ++ t] := by
  have := splC_run c t h p []
  rw [List.append_nil] at this
  rw [this]; rfl
theorem splC_at (c : UInt8) (a b : List UInt8) (h : c ∉ a) (p : List UInt8) : splC c p (a ++ c :: b) = (p ++ a) :: splC c [] b := by
  rw [splC_run c a h]; simp [splC]
/-- where c stands first -/
theorem byte_cases (c : UInt8) (l : List UInt8) : c ∉ l ∨ ∃ a b, l = a ++ c :: b ∧ c ∉ a := by
  by_cases h : c ∈ l
  · right
    induction l with
    | nil => simp at h
    | cons x l ih =>
      by_cases e : x = c
      · exact ⟨[], l, by rw [e]; rfl, by simp⟩
      · have h' : c ∈ l := by
          rcases List.mem_cons.1 h with h1 | h1
          · exact absurd h1.symm e
          · exact h1
        obtain ⟨a, b, e1, e2⟩ := ih h'
        exact ⟨x :: a, b, by rw [e1]; rfl, by
          intro hm
          rcases List.mem_cons.1 hm with h1 | h1
          · exact e h1.symm
          · exact e2 h1⟩
  · exact .inl h
theorem index_not (c : UInt8) (l : List UInt8) (h : c ∉ l) : Lib.index l [c] = -1 := by
  induction l with
  | nil => rfl
  | cons x l ih =>
    have hx : c ≠ x := fun e => h (by simp [e])
    have h1 := ih fun hb => h (List.mem_cons_of_mem _ hb)
    unfold Lib.index
    rw [if_neg (by simp [List.isPrefixOf, hx]), if_pos (by rw [h1]; rfl)]
theorem index_at (c : UInt8) (a b : List UInt8) (h : c ∉ a) : Lib.index (a ++ c :: b) [c] = a.length := by
  induction a with
  | nil => simp [Lib.index, List.isPrefixOf]
  | cons x a ih =>
    have hx : c ≠ x := fun e => h (by simp [e])
    have h1 := ih fun hb => h (List.mem_cons_of_mem _ hb)
    rw [List.cons_append]
    unfold Lib.index
    rw [if_neg (by simp [List.isPrefixOf, hx]), h1, if_neg (by simp)]
    simp
theorem count_not (c : UInt8) (l : List UInt8) (h : c ∉ l) (f : Nat) : Lib.countFrom [c] f l = 0 := by
  cases f with
  | zero => rfl
  | succ f => unfold Lib.countFrom; rw [index_not c l h]; rfl
theorem count_at (c : UInt8) (a b : List UInt8) (h : c ∉ a) (f : Nat) : Lib.countFrom [c] (f + 1) (a ++ c :: b) = 1 + Lib.countFrom [c] f b := by
  rw [Lib.countFrom, index_at c a b h, if_neg (by simp)]
  congr 2
  simp
theorem splitK_spl (c : UInt8) : ∀ (n : Nat) (l : List UInt8), l.length ≤ n → ∀ f, l.length < f → Lib.splitK [c] 0 (Lib.countFrom [c] f l) l = splC c [] l ∧ Lib.countFrom [c] f l + 1 = (splC c [] l).length := by
  intro n
  induction n with
  | zero =>
    intro l hl f hf
    have : l = [] := List.length_eq_zero_iff.1 (by omega)
    subst this
    rw [count_not c [] (by simp)]
    exact ⟨rfl, rfl⟩
  | succ n ih =>
    intro l hl f hf
    rcases byte_cases c l with h | ⟨a, b, rfl, h⟩
    · rw [count_not c l h, splC_no c l h]
      exact ⟨rfl, rfl⟩
    · obtain ⟨g, rfl⟩ : ∃ g, f = g + 1 := ⟨f - 1, by omega⟩
      rw [List.length_append, List.length_cons] at hl hf
      obtain ⟨h1, h2⟩ := ih b (by omega) g (by omega)
      rw [count_at c a b h, splC_at c a b h, show 1 + Lib.countFrom [c] g b = Lib.countFrom [c] g b + 1 by omega]
      refine ⟨?_, by rw [List.length_cons, ← h2]⟩
      rw [Lib.splitK, index_at c a b h, if_neg (by simp)]
      rw [show (a ++ c :: b).take (((a.length : Int)).toNat + 0) = a by simp]
      rw [show (a ++ c :: b).drop (((a.length : Int)).toNat + [c].length) = b by simp]
      rw [h1]; rfl
/-- a text cut at its first byte c -/
theorem cut_not (c : UInt8) (l : List UInt8) (h : c ∉ l) : Lib.cut l [c] = (l, [], false) := by
  unfold Lib.cut; rw [index_not c l h]; rfl
theorem cut_at (c : UInt8) (a b : List UInt8) (h : c ∉ a) : Lib.cut (a ++ c :: b) [c] = (a, b, true) := by
  unfold Lib.cut
  rw [index_at c a b h, if_pos (by omega)]
  simp
end
section
set_option maxRecDepth 100000
open Go.RowKit
attribute [local go_sem] toList_mk mk_size
/-- the library's variable internal/bytealg.MaxLen holds some number -/
def MaxAt (w : World) : Prop := ∃ m : Int, w.cell? ⟨Tryz.laysM145_ren.g 1, 0, none⟩ = some (.int .i64 m)
theorem MaxAt.lt {w : World} (h : MaxAt w) : Tryz.laysM145_ren.g 1 < w.heap.size := by
  obtain ⟨m, hm⟩ := h; exact World.block_lt_of_cell? _ ⟨_, 0, none⟩ hm
theorem MaxAt.below {w w' : World} {B : Nat} (h : MaxAt w) (hb : Below B w w') (hB : Tryz.laysM145_ren.g 1 < B) : MaxAt w' := by
  obtain ⟨m, hm⟩ := h
  exact ⟨m, (hb.cell (p := ⟨_, 0, none⟩) hB).trans hm⟩
theorem MaxAt.old {w w' : World} (h : MaxAt w) (hb : Below w.heap.size w w') : MaxAt w' := h.below hb h.lt
theorem cut_any (c : UInt8) (l : List UInt8) (w : World) (hm : MaxAt w) (hl : l.length ≤ 4294967200) :
    Calls Tryz.prog 77 #[strV l, strV [c]] w fun e w' => e = .returned (.tuple #[strV (Lib.cut l [c]).1, strV (Lib.cut l [c]).2.1, .bool (Lib.cut l [c]).2.2]) ∧ Below w.heap.size w w' := by
  obtain ⟨m, hm⟩ := hm
  have h := Any.strings_Cut { Tryz.laysM145 with } ⟨l.toArray⟩ ⟨#[c]⟩ m w (by rw [mk_size]; omega) hm
  refine h.mono ?_
  rintro e w' ⟨rfl, n, rfl⟩
  exact ⟨rfl, below_drewN (Below.refl _ _) n⟩
theorem split_any (c : UInt8) (l : List UInt8) (w : World) (hm : MaxAt w) (hl : l.length ≤ 4294967200) :
    Calls Tryz.prog 81 #[strV l, strV [c]] w fun e w' => e = .returned (.slice (some ⟨w.heap.size, 0, none⟩) (splC c [] l).length (splC c [] l).length) ∧ RowB w' w.heap.size (splC c [] l) ∧ Below w.heap.size w w' := by
  obtain ⟨m, hm⟩ := hm
  have h := Any.strings_Split { Tryz.laysM146 with } Tryz.laysM146.i9 ⟨l.toArray⟩ ⟨#[c]⟩ m w (by rw [mk_size]; omega) hm (by simp [ByteArray.size])
  obtain ⟨k1, k2⟩ := splitK_spl c l.length l (Nat.le_refl _) (l.length + 1) (by omega)
  have hd := Lib.splitB_data ⟨#[c]⟩ 0 (Lib.countB ⟨l.toArray⟩ ⟨#[c]⟩) ⟨l.toArray⟩
  have hc : Lib.countB ⟨l.toArray⟩ ⟨#[c]⟩ = Lib.countFrom [c] (l.length + 1) l := by unfold Lib.countB Lib.count; rfl
  have hd2 : (Lib.splitB ⟨#[c]⟩ 0 (Lib.countB ⟨l.toArray⟩ ⟨#[c]⟩) ⟨l.toArray⟩).map (·.data.toList) = splC c [] l := by
    rw [hd, hc]; exact k1
  have hv : (Lib.splitB ⟨#[c]⟩ 0 (Lib.countB ⟨l.toArray⟩ ⟨#[c]⟩) ⟨l.toArray⟩).map Value.string = (splC c [] l).flatMap encS := by
    rw [← hd2]
    induction Lib.splitB ⟨#[c]⟩ 0 (Lib.countB ⟨l.toArray⟩ ⟨#[c]⟩) ⟨l.toArray⟩ with
    | nil => rfl
    | cons x L ih => rw [List.map_cons, List.map_cons, List.flatMap_cons, ih]; rfl
  refine h.mono ?_
  rintro e w' ⟨rfl, rfl⟩
  rw [hv, hc, k2]
  exact ⟨rfl, blk_new rfl, (Below.refl _ _).alloc (Nat.le_refl _) _⟩
end
section
open Go.RowKit

theorem bits_u64_bd (op : BinOp) (x y : Int) : 0 ≤ bits op .u64 x y ∧ bits op .u64 x y < 18446744073709551616 := by
  have : ∃ e, bits op .u64 x y = IntKind.u64.wrap e := by unfold bits; exact ⟨_, rfl⟩
  obtain ⟨e, he⟩ := this
  rw [he]
  simp only [IntKind.wrap, IntKind.bits, IntKind.signed]
  simp
  omega

theorem grown_refl (w : World) (r : Option Nat) : w.grownBy w r := ⟨rfl, rfl, rfl, Nat.le_refl _, fun _ _ _ => rfl⟩
theorem grown_trans {w w1 w2 : World} {r : Option Nat} (h : w.grownBy w1 r) (h' : w1.grownBy w2 r) : w.grownBy w2 r :=
  ⟨h'.os.trans h.os, h'.tape.trans h.tape, h'.output.trans h.output, Nat.le_trans h.size h'.size, fun k hk hr => (h'.block k (Nat.lt_of_lt_of_le hk h.size) hr).trans (h.block k hk hr)⟩
theorem grown_drewN {w w1 : World} {r : Option Nat} (h : w.grownBy w1 r) (n : Nat) : w.grownBy (w1.drewN n) r := ⟨h.os, h.tape, h.output, h.size, h.block⟩
theorem grown_set {w w1 : World} {D i : Nat} {v : Value} (h : w.grownBy w1 (some D)) : w.grownBy (w1.setCell ⟨D, i, none⟩ v) (some D) :=
  grown_trans h ⟨rfl, rfl, rfl, by simp [World.setCell], fun k hk hr => heap_setCell_other _ _ _ _ (fun e => hr (by rw [e]))⟩
theorem grown_below {w w1 : World} {r : Option Nat} (h : Below w.heap.size w w1) : w.grownBy w1 r := ⟨h.os, h.tape, h.output, h.size, fun k hk _ => h.block k hk⟩
theorem grown_blk {w w1 : World} {D k : Nat} {o : Obj} (h : w.grownBy w1 (some D)) (ho : w.heap[k]? = some o) (hk : k ≠ D) : w1.heap[k]? = some o := by
  have hlt : k < w.heap.size := by
    rcases Nat.lt_or_ge k w.heap.size with h' | h'
    · exact h'
    · simp [Array.getElem?_eq_none h'] at ho
  rw [h.block k hlt (by simpa using hk)]; exact ho

/-- a slice of ints that can be read, in a block below D -/
def ListAt (w : World) (D : Nat) (s : Value) (n : Nat) : Prop :=
  ∃ a cap, s = .slice a n cap ∧ n ≤ 400 ∧ (0 < n → ∃ b off, a = some ⟨b, off, none⟩ ∧ b < D ∧ ∀ i, i < n → ∃ x : Int, w.cell? ⟨b, off + i, none⟩ = some (.int .i64 x))
theorem ListAt.same {w w1 : World} {D n : Nat} {s : Value} (h : ListAt w D s n) (hg : ∀ k, k < D → w1.heap[k]? = w.heap[k]?) : ListAt w1 D s n := by
  obtain ⟨a, cap, h1, h2, h3⟩ := h
  refine ⟨a, cap, h1, h2, fun hn => ?_⟩
  obtain ⟨b, off, h4, h5, h7⟩ := h3 hn
  refine ⟨b, off, h4, h5, fun i hi => ?_⟩
  obtain ⟨x, hx⟩ := h7 i hi
  exact ⟨x, (World.cell?_of_block (w := w) (a := ⟨b, off + i, none⟩) (hg b h5)).trans hx⟩
/-- a deck lies in block D -/
def DeckAt (w : World) (D : Nat) : Prop :=
  ∃ (s : Value) (n : Nat) (t st : Int), w.heap[D]? = some (.cells #[s, .int .i64 t, .int .u64 st] 65 (0, 0)) ∧ ListAt w D s n ∧ 0 ≤ t ∧ t ≤ n
theorem DeckAt.lt {w : World} {D : Nat} (h : DeckAt w D) : D < w.heap.size := by
  obtain ⟨s, n, t, st, h, _⟩ := h
  exact (Array.getElem?_eq_some_iff.1 h).1
theorem DeckAt.same {w w1 : World} {D : Nat} (h : DeckAt w D) (hg : ∀ k, k ≤ D → w1.heap[k]? = w.heap[k]?) : DeckAt w1 D := by
  obtain ⟨s, n, t, st, h1, h2, h3⟩ := h
  exact ⟨s, n, t, st, (hg D (Nat.le_refl _)).trans h1, h2.same fun k hk => hg k (Nat.le_of_lt hk), h3⟩
/-- a deck is as it was behind whatever leaves all that was there as it was -/
theorem DeckAt.below {w w1 : World} {D : Nat} (h : DeckAt w D) (hb : Below w.heap.size w w1) : DeckAt w1 D := by
  have hlt := h.lt
  exact h.same fun k hk => hb.block k (by omega)
/-- w' is w, but for the deck in block D, which has moved on, and for new blocks -/
structure Moved (D : Nat) (w w' : World) : Prop where
  grown : w.grownBy w' (some D)
  deck : DeckAt w' D
  lt : D < w.heap.size
theorem Moved.start {D : Nat} {w : World} (h : DeckAt w D) : Moved D w w := ⟨grown_refl _ _, h, h.lt⟩
theorem Moved.trans {D : Nat} {w w1 w2 : World} (h : Moved D w w1) (h' : Moved D w1 w2) : Moved D w w2 := ⟨grown_trans h.grown h'.grown, h'.deck, h.lt⟩
theorem Moved.below {D : Nat} {w w1 w2 : World} (h : Moved D w w1) (hb : Below w1.heap.size w1 w2) : Moved D w w2 := ⟨grown_trans h.grown (grown_below hb), h.deck.below hb, h.lt⟩
theorem Moved.alloc {D : Nat} {w w1 : World} (h : Moved D w w1) (o : Obj) : Moved D w (w1.alloc o) := h.below ((Below.refl _ _).alloc (Nat.le_refl _) _)
theorem Moved.drew {D : Nat} {w w1 : World} (h : Moved D w w1) : Moved D w w1.drew := h.below (Below.refl _ _).drew
theorem Moved.drewN {D : Nat} {w w1 : World} (h : Moved D w w1) (n : Nat) : Moved D w (w1.drewN n) := h.below (below_drewN (Below.refl _ _) n)
theorem Moved.set {D : Nat} {w w1 : World} (h : Moved D w w1) {a : Addr} (ha : w.heap.size ≤ a.block) (v : Value) : Moved D w (w1.setCell a v) := by
  have := h.lt
  refine ⟨⟨h.grown.os, h.grown.tape, h.grown.output, by simpa [World.setCell] using h.grown.size, fun k hk hr => ?_⟩, h.deck.same fun k hk => heap_setCell_other _ _ _ _ (by omega), this⟩
  rw [heap_setCell_other _ _ _ _ (by omega)]; exact h.grown.block k hk hr
theorem Moved.blk {D k : Nat} {w w1 : World} {o : Obj} (h : Moved D w w1) (hk : k ≠ D) (ho : w.heap[k]? = some o) : w1.heap[k]? = some o := grown_blk h.grown ho hk
theorem Moved.size {D : Nat} {w w1 : World} (h : Moved D w w1) : w.heap.size ≤ w1.heap.size := h.grown.size
/-- as seen from before the deck was made -/
theorem Moved.base {D B : Nat} {w0 w w1 : World} (h : Moved D w w1) (hb : Below B w0 w) (hB : B ≤ D) : Below B w0 w1 :=
  hb.trans ⟨h.grown.os, h.grown.tape, h.grown.output, h.grown.size, fun k hk => h.grown.block k (by have := h.lt; omega) (by simp; omega)⟩
def WordPost (D : Nat) (w : World) (e : Ending) (w' : World) : Prop :=
  ∃ r : Int, e = .returned (.int .u64 r) ∧ 0 ≤ r ∧ r < 18446744073709551616 ∧ Moved D w w'
theorem word_done {D n : Nat} {w w' : World} {s : Value} {r t st : Int} (hL : ListAt w D s n) (hg : w.grownBy w' (some D)) (hD : w'.heap[D]? = some (.cells #[s, .int .i64 t, .int .u64 st] 65 (0, 0)))
    (hlt : D < w.heap.size) (h0 : 0 ≤ t) (h1 : t ≤ n) (hr : 0 ≤ r ∧ r < 18446744073709551616) : WordPost D w (.returned (.int .u64 r)) w' :=
  ⟨r, rfl, hr.1, hr.2, hg, ⟨s, n, t, st, hD, hL.same fun k hk => hg.block k (by omega) (by simp; omega), h0, h1⟩, hlt⟩
set_option maxHeartbeats 400000 in
theorem word_more (D : Nat) (w : World) (b off n cap : Nat) (t st x : Int) (hD : w.heap[D]? = some (.cells #[.slice (some ⟨b, off, none⟩) n cap, .int .i64 t, .int .u64 st] 65 (0, 0)))
    (hL : ListAt w D (.slice (some ⟨b, off, none⟩) n cap) n) (hn : n ≤ 400) (h0 : 0 ≤ t) (h1 : t < n) (hb : b < D) (hx : w.cell? ⟨b, off + t.toNat, none⟩ = some (.int .i64 x)) :
    Calls Tryz.prog 47 #[.pointer (some ⟨D, 0, none⟩)] w (WordPost D w) := by
  obtain ⟨p0, p1, p2⟩ := cells3 hD
  obtain ⟨f0, f1, f2⟩ := free3 hD
  obtain ⟨t, rfl⟩ := Int.eq_ofNat_of_zero_le h0
  rw [Int.toNat_natCast] at hx
  have hlt := lt_of_blk hD
  have HD := Lib.hid hD; clear hD
  go_enter Tryz.func47, Tryz.ntmps47
  go_wp2
  go_quiet (fail)
  go_wp2
  go_quiet (fail)
  go_wp2
  go_quiet (fail)
  go_wp2
  go_ret
  exact word_done hL (grown_drewN (grown_set (grown_set (grown_drewN (grown_refl w _) _))) _) (blk_set (blk_set HD.out)) hlt (by omega) (by omega) (bits_u64_bd _ _ _)
set_option maxHeartbeats 400000 in
theorem word_end (D : Nat) (w : World) (a : Option Addr) (n cap : Nat) (t st : Int) (hD : w.heap[D]? = some (.cells #[.slice a n cap, .int .i64 t, .int .u64 st] 65 (0, 0)))
    (hL : ListAt w D (.slice a n cap) n) (hn : n ≤ 400) (h0 : 0 ≤ t) (h1 : t = n) :
    Calls Tryz.prog 47 #[.pointer (some ⟨D, 0, none⟩)] w (WordPost D w) := by
  subst h1
  obtain ⟨p0, p1, p2⟩ := cells3 hD
  obtain ⟨f0, f1, f2⟩ := free3 hD
  have hlt := lt_of_blk hD
  have HD := Lib.hid hD; clear hD
  go_enter Tryz.func47, Tryz.ntmps47
  go_wp2
  go_quiet (fail)
  go_wp2
  go_quiet (fail)
  go_wp2
  go_ret
  exact word_done hL (grown_drewN (grown_set (grown_drewN (grown_refl w _) _)) _) (blk_set HD.out) hlt (by omega) (by omega) (bits_u64_bd _ _ _)
theorem word_any (D : Nat) (w : World) (h : DeckAt w D) :
    Calls Tryz.prog 47 #[.pointer (some ⟨D, 0, none⟩)] w (WordPost D w) := by
  obtain ⟨s, n, t, st, hD, hL, h0, h1⟩ := h
  have hL' := hL
  obtain ⟨a, cap, rfl, hn, h2⟩ := hL
  by_cases ht : t = n
  · exact word_end D w a n cap t st hD hL' hn h0 ht
  · have ht' : t < n := by clear h2 hL'; omega
    obtain ⟨b, off, rfl, hb, hc⟩ := h2 (by clear h2 hL'; omega)
    obtain ⟨x, hx⟩ := hc t.toNat (by clear hc h2 hL'; omega)
    exact word_more D w b off n cap t st x hD hL' hn h0 ht' hb hx

theorem next_val {r k : Int} (h0 : 0 ≤ r) (h1 : r < 18446744073709551616) (hk : 1 ≤ k) : 0 ≤ (wrap64 (r / 2)).tmod k ∧ (wrap64 (r / 2)).tmod k < k := by
  have e : wrap64 (r / 2) = r / 2 := IntWalk.wrap64_in (r / 2) (by constructor <;> omega)
  have h2 : 0 ≤ r / 2 := by omega
  rw [e, Int.tmod_eq_emod_of_nonneg h2]
  exact ⟨Int.emod_nonneg _ (by omega), Int.emod_lt_of_pos _ (by omega)⟩
def NextPost (D : Nat) (w : World) (k : Int) (e : Ending) (w' : World) : Prop :=
  ∃ r : Int, e = .returned (.int .i64 r) ∧ 0 ≤ r ∧ r < k ∧ Moved D w w'
set_option maxHeartbeats 400000 in
theorem next_any (D : Nat) (w : World) (k : Int) (h : DeckAt w D) (hk : 1 ≤ k) (hk2 : k ≤ 1000000000) :
    Calls Tryz.prog 18 #[.pointer (some ⟨D, 0, none⟩), .int .i64 k] w (NextPost D w k) := by
  go_enter Tryz.func18, Tryz.ntmps18
  go_wp2_with fail
  refine (word_any D _ h).mono ?_
  rintro e w1 ⟨r, rfl, h0, h1, h2⟩
  have H1 := Lib.hid h1; clear h1
  have H2 := Lib.hid h2; clear h2
  go_wp2_with fail
  go_ret
  have hv := next_val h0 H1.out hk
  exact ⟨_, rfl, hv.1, hv.2, H2.out⟩
set_option maxHeartbeats 400000 in
theorem few_any (a : Option Addr) (n cap : Nat) (w : World) :
    Calls Tryz.prog 6 #[.slice a n cap] w fun e w' => e = .returned (.bool (decide (n ≤ 400))) ∧ w = w' := by
  go_enter Tryz.func6, Tryz.ntmps6
  go_wp2
  go_ret
  exact ⟨ret_bool (by simp; omega), rfl⟩
set_option maxHeartbeats 400000 in
theorem new_any (a : Option Addr) (n cap : Nat) (w : World) :
    Calls Tryz.prog 7 #[.slice a n cap] w fun e w' => e = .returned (.pointer (some ⟨w.heap.size, 0, none⟩)) ∧ w.alloc (.cells #[.slice a n cap, .int .i64 0, .int .u64 11400714819323198485] 65) = w' := by
  go_enter Tryz.func7, Tryz.ntmps7
  go_wp2
  go_ret
  exact ⟨rfl, rfl⟩
/-- a list that can be read, and no more than 400 numbers, makes a deck -/
theorem deck_new {w : World} {a : Option Addr} {n cap : Nat} (hn : n ≤ 400) (h : 0 < n → ∃ b off, a = some ⟨b, off, none⟩ ∧ b < w.heap.size ∧ ∀ i, i < n → ∃ x : Int, w.cell? ⟨b, off + i, none⟩ = some (.int .i64 x)) :
    DeckAt (w.alloc (.cells #[.slice a n cap, .int .i64 0, .int .u64 11400714819323198485] 65)) w.heap.size := by
  refine ⟨_, n, 0, _, blk_new rfl, ⟨a, cap, rfl, hn, fun h0 => ?_⟩, by omega, by omega⟩
  obtain ⟨b, off, h1, h2, h3⟩ := h h0
  refine ⟨b, off, h1, h2, fun i hi => ?_⟩
  obtain ⟨x, hx⟩ := h3 i hi
  exact ⟨x, (World.cell?_of_block (w := w) (a := ⟨b, off + i, none⟩) (((Below.refl _ _).alloc (Nat.le_refl _) _).block b h2)).trans hx⟩
end
section
open Go Go.RowKit
/-- the jump by which a round is left; none at all: a panic -/
def jumpOf : Exit → Option (Option Code)
  | .normal => some none
  | .ret => some (some .ret)
  | .exit id => some (some (.exit id))
  | .goto t => some (some (.goto t))
  | _ => none
/-- J bears what the iterator does beside the rounds: new blocks, walks, its own cell -/
def BearsBox {β : Type} (B bx : Nat) (J : β → World → Prop) : Prop := AbidesFrom B J ∧ ∀ s A v, J s A → J s (A.setCell ⟨bx, 0, none⟩ v)
/-- the iterator hands out the elements of L, one after the other, until a round says no -/
def SeqBox {α : Type} (F : Fence) (n : Nat) (P : Program) (g : Nat) (lb : Array Value) (encs : α → Array Value) (Kp : World → World → Prop) (bx : Nat) (L : List α) (w : World) : Prop :=
  ∀ (l : Nat) (J Jx : List α → World → Prop) (W : World), Below w.heap.size w W → BearsBox W.heap.size bx J → BearsBox W.heap.size bx Jx →
    (∀ pre x W1, J pre W1 → pre ++ [x] <+: L → YieldAt F (n - 1) P l (encs x) W1 fun e W' => (e = .returned (.bool true) ∧ J (pre ++ [x]) W' ∧ Kp W1 W') ∨ (e = .returned (.bool false) ∧ Jx (pre ++ [x]) W')) →
    J [] W → CallsIn F n P g (#[.func (.yield l) #[] #[]] ++ lb) W fun e W' => (∃ v, e = .returned v) ∧ (J L W' ∨ ∃ pre, pre <+: L ∧ Jx pre W')
/-- the loop's record and the block of what is put off -/
def BookAt (k : Nat) (r : LoopState → Option Code → Loop) (j : Option Code) (W : World) : Prop := W.heap[k + 1]? = some (.loop (r (if j.isNone then .ready else .done) j)) ∧ W.heap[k]? = some (.deferred (some []))
theorem BookAt.bears {k B bx : Nat} {r : LoopState → Option Code → Loop} {j : Option Code} {A C : World} {row : Option Nat} (h : BookAt k r j A) (hg : A.grownBy C row) (hr : ∀ x, row = some x → B ≤ x ∧ ∃ o : Obj, A.heap[x]? = some o ∧ o.isWalk = true) : BookAt k r j C :=
  ⟨(grownBy_keeps hg (fun x e => (hr x e).2) h.1 rfl).trans h.1, (grownBy_keeps hg (fun x e => (hr x e).2) h.2 rfl).trans h.2⟩
theorem BookAt.box {k bx : Nat} {r : LoopState → Option Code → Loop} {j : Option Code} {A : World} (h : BookAt k r j A) (hb : bx < k) (v : Value) : BookAt k r j (A.setCell ⟨bx, 0, none⟩ v) := by
  have key : ∀ x, x ≠ bx → (A.setCell ⟨bx, 0, none⟩ v).heap[x]? = A.heap[x]? := fun x hx => Below.heap_setCell _ _ _ x hx
  exact ⟨(key _ (by omega)).trans h.1, (key _ (by omega)).trans h.2⟩
/-- how a round of the body may end -/
def RoundEnds {α : Type} (Kp : World → World → Prop) (I : Option Code → List α → World → Prop) (xs : List α) (W : World) (e : Exit) (_ : Act) (W' : World) : Prop :=
  ∃ j, jumpOf e = some j ∧ KeepsOthers W W' ∧ (j = none → Kp W W') ∧ I j xs W'
theorem post_of_jump {P : Program} {l : Nat} {R : Ending → World → Prop} {e : Exit} {a : Act} {W : World} {j : Option Code} (hj : jumpOf e = some j) (h : ∃ v w', (Instr.endRound l j).run P W = .ok v w' ∧ R (.returned v) w') : roundPost P l R e a W := by
  cases e <;> simp only [jumpOf, Option.some.injEq] at hj <;> first | (subst hj; exact h) | (cases hj)
variable {F : Fence} {n : Nat} {P : Program}
theorem wpIn_range_box {α : Type} {g : Operand} {ps : Array Tmp} {assign body : Code} {Q : Exit → Act → World → Prop} {a : Act} {w : World}
    (hro : F.round = none) (h1 : 1 ≤ n) {gf : Nat} {lb : Array Value} (hg : a.eval g = .func (.func gf) #[] lb) (hF : F.fn gf) (eg : ∀ args w, (callFunc gf args).run P w = .ok (.enter gf args) w)
    {encs : α → Array Value} {Kp : World → World → Prop} {bx : Nat} {L : List α} (hseq : SeqBox F (n - 1) P gf lb encs Kp bx L w) (hbx : bx < w.heap.size)
    (hKt : ∀ {A B C : World}, Kp A B → Kp B C → Kp A C) (hKp : ∀ (W : World) (x : Nat) (o o' : Obj), w.heap.size ≤ x → W.heap[x]? = some o → o.isCells = false → o.isWalk = false → Kp W (W.putObj x o')) (hps : ∀ x, (encs x).size = ps.size)
    (I : Option Code → List α → World → Prop) (hI : ∀ j, OwnFrom w.heap.size (I j)) (hIb : ∀ j s A v, I j s A → I j s (A.setCell ⟨bx, 0, none⟩ v)) (h0 : I none [] w) (a₁ : α → Act)
    (hassign : ∀ (l : Nat) (x : α) (W : World) (K : Act → World → Prop), K (a₁ x) W →
      assign.wpIn (F.inRound l) (n - 1 - 1) P (Exit.then K (fun _ _ _ => False)) { tmps := (ps.zip (encs x)).foldl (fun t (p, v) => t.setIfInBounds p v) a.tmps, defers := [] } W)
    (hbody : ∀ (l : Nat) (pre : List α) (x : α) (W : World), I none pre W → pre ++ [x] <+: L → body.wpIn (F.inRound l) (n - 1 - 1) P (RoundEnds Kp I (pre ++ [x]) W) (a₁ x) W)
    (hdone : ∀ (D : Nat) (W : World), w.heap.size ≤ D → I none L W → W.heap[D]? = some (.deferred (some [])) → Q .normal { a with defers := { target := .collected D, args := #[] } :: a.defers } W)
    (hstop : ∀ (D : Nat) (c : Code) (pre : List α) (W : World), w.heap.size ≤ D → pre <+: L → I (some c) pre W → W.heap[D]? = some (.deferred (some [])) → c.wpIn F n P Q { a with defers := { target := .collected D, args := #[] } :: a.defers } W) :
    (Code.rangeFunc g ps assign body).wpIn F n P Q a w := by
  refine wpIn_rangeFunc fun fn hfn => ?_
  rw [hro]
  obtain ⟨k, hk⟩ : ∃ k, w.heap.size = k := ⟨_, rfl⟩
  rw [hk] at hbx hKp hI hdone hstop
  obtain ⟨r, hr⟩ : ∃ r : LoopState → Option Code → Loop, r = fun st pe => { state := st, pending := pe, fn, tmps := a.tmps, params := ps, assign, body, defers := k } := ⟨_, rfl⟩
  obtain ⟨V, hV⟩ : ∃ V, (w.alloc (.deferred (some []))).alloc (.loop (r .ready none)) = V := ⟨_, rfl⟩
  have hbV : Below w.heap.size w V := by rw [← hV]; exact ((Below.refl _ w).alloc (Nat.le_refl _) _).alloc (by simp) _
  have hBk : BookAt k r none V := by
    rw [← hV, ← hk]
    refine ⟨?_, (Below.heap_alloc _ _ _ (by simp)).trans (World.alloc_heap_new w _)⟩
    have h := World.alloc_heap_new (w.alloc (.deferred (some []))) (.loop (r .ready none))
    rw [World.size_alloc] at h
    exact h
  have hIV : I none [] V := by rw [← hV]; exact (hI none).alloc _ ((hI none).alloc _ h0)
  have hkV : k ≤ V.heap.size := by rw [← hk]; exact hbV.size
  have enter : (Instr.enterLoop fn a.tmps ps assign body none).run P w = .ok (k + 1, [{ target := .collected k, args := #[] }]) V := by
    rw [← hV, hr, ← hk]; exact run_enterLoop_outer _ _ _ _ _
  refine ⟨k + 1, [{ target := .collected k, args := #[] }], V, { target := .fn (.func gf) lb, args := #[.func (.yield (k + 1)) #[] #[]] }, V, gf, #[.func (.yield (k + 1)) #[] #[]] ++ lb, V, enter, ?_, ?_, ?_, fun _ => h1, ?_⟩
  · simp only [resolve, hg]; simp [go_sem]
  · intro f' hf'; simp [Target.leads] at hf'; subst hf'; exact hF
  · simp [invoke, go_sem, eg]
  have wk : ∀ {A : World} {row : Option Nat}, (∀ x, row = some x → V.heap.size ≤ x ∧ ∃ o : Obj, A.heap[x]? = some o ∧ o.isWalk = true) → ∀ x, row = some x → k ≤ x ∧ ∃ o : Obj, A.heap[x]? = some o ∧ o.isCells = false :=
    fun h x e => by obtain ⟨h1, o, h2, h3⟩ := h x e; exact ⟨Nat.le_trans hkV h1, o, h2, Obj.not_cells_of_walk h3⟩
  refine (hseq (k + 1) (fun pre W => I none pre W ∧ BookAt k r none W) (fun pre W => ∃ c, I (some c) pre W ∧ BookAt k r (some c) W) V hbV
    ⟨fun s A B row hs hg' hr' => ⟨hI none s A B row hs.1 hg' (wk hr'), hs.2.bears (bx := bx) hg' hr'⟩, fun s A v hs => ⟨hIb none s A v hs.1, hs.2.box hbx v⟩⟩
    ⟨fun s A B row ⟨c, hc, hb⟩ hg' hr' => ⟨c, hI _ s A B row hc hg' (wk hr'), hb.bears (bx := bx) hg' hr'⟩, fun s A v ⟨c, hc, hb⟩ => ⟨c, hIb _ s A v hc, hb.box hbx v⟩⟩ ?_ ⟨hIV, hBk⟩).mono ?_
  · rintro pre x W ⟨hi, hl, hd⟩ hpre
    have zW : k + 1 < W.heap.size := (Array.getElem?_eq_some_iff.1 hl).1
    have hy := run_yield (P := P) (args := encs x) hl (by rw [hr]; exact hps x)
    rw [hr] at hy
    refine ⟨fn, _, assign, body, hy, roundIn_of_wpIn hfn (hassign _ x W _ ⟨_, run_beginRound hl (by rw [hr]; rfl), ?_⟩)⟩
    obtain ⟨W2, hW2⟩ : ∃ W2, W.putObj (k + 1) (.loop { r .ready none with state := .busy }) = W2 := ⟨_, rfl⟩
    have h2 : W2.heap[k + 1]? = some (.loop { r .ready none with state := .busy }) := by rw [← hW2]; exact World.putObj_heap_same zW
    have d2 : W2.heap[k]? = some (.deferred (some [])) := by rw [← hW2]; exact (World.putObj_heap_other (by omega)).trans hd
    have i2 : I none pre W2 := by rw [← hW2]; exact (hI none).putObj _ hi (by omega) hl rfl
    have k2 : Kp W W2 := by rw [← hW2]; exact hKp _ _ _ _ (by omega) hl rfl rfl
    show body.wpIn (F.inRound (k + 1)) (n - 1 - 1) P _ (a₁ x) (W.putObj (k + 1) (.loop { r .ready none with state := .busy }))
    rw [hW2]
    refine wpIn_mono (hbody _ pre x _ i2 hpre) ?_
    rintro e a3 W3 ⟨j, hj, hk3, hp3, i3⟩
    have h3 := hk3.same _ _ h2 rfl
    have d3 := hk3.same _ _ d2 rfl
    have he := run_endRound (P := P) j h3
    refine post_of_jump hj ⟨_, _, he, ?_⟩
    have rec3 : ({ ({ r .ready none with state := .busy } : Loop) with state := if j.isNone then .ready else .done, pending := j } : Loop) = r (if j.isNone then .ready else .done) j := by rw [hr]
    rw [rec3]
    have bk : BookAt k r j (W3.putObj (k + 1) (.loop (r (if j.isNone then .ready else .done) j))) := ⟨World.putObj_heap_same (Array.getElem?_eq_some_iff.1 h3).1, (World.putObj_heap_other (by omega)).trans d3⟩
    have i4 : I j (pre ++ [x]) (W3.putObj (k + 1) (.loop (r (if j.isNone then .ready else .done) j))) := (hI j).putObj _ i3 (by omega) h3 rfl
    cases j with
    | none => exact .inl ⟨rfl, ⟨i4, bk⟩, hKt (hKt k2 (hp3 rfl)) (hKp _ _ _ _ (by omega) h3 rfl rfl)⟩
    | some c => exact .inr ⟨rfl, c, i4, bk⟩
  · rintro e W2 ⟨⟨v, rfl⟩, ⟨hi, hl, hd⟩ | ⟨pre, hpre, c, hi, hl, hd⟩⟩
    · have he := run_endLoop (P := P) hl (by rw [hr]; simp)
      exact ⟨none, _, by rw [he, hr], hdone k _ (Nat.le_refl _) ((hI none).putObj _ hi (by omega) hl rfl) ((World.putObj_heap_other (by omega)).trans hd)⟩
    · have he := run_endLoop (P := P) hl (by rw [hr]; simp)
      exact ⟨some c, _, by rw [he, hr], hstop k c pre _ (Nat.le_refl _) hpre ((hI _).putObj _ hi (by omega) hl rfl) ((World.putObj_heap_other (by omega)).trans hd)⟩
end
section
set_option maxRecDepth 100000
open Go.RowKit Go.Shelf
attribute [local go_sem] Oper.semAt_some
def rowsA : List UInt8 → List UInt8 → List (List UInt8 × List UInt8)
  | _, [] => []
  | p, c :: t => if c = 10 then (p, t) :: rowsA [] t else rowsA (p ++ [c]) t
theorem cell1R {w : World} {b : Nat} {x : Value} {t : TypeId} {fr : Nat × Nat} (h : w.heap[b]? = some (.cells #[x] t fr)) : w.cell? ⟨b, 0, none⟩ = some x := by rw [cell_of_row _ _ _ _ _ _ h]; rfl
/-- the rows of a text, each with what is behind it -/
def rowsL (t : List UInt8) : List (List UInt8 × List UInt8) := rowsA [] t
theorem rowsA_at : ∀ (a p b : List UInt8), (10 : UInt8) ∉ a → rowsA p (a ++ 10 :: b) = (p ++ a, b) :: rowsL b
  | [], p, b, _ => by simp [rowsA, rowsL]
  | c :: a, p, b, h => by
    have h1 : c ≠ 10 := fun e => h (by simp [e])
    rw [List.cons_append, rowsA, if_neg h1, rowsA_at a (p ++ [c]) b (fun e => h (List.mem_cons_of_mem _ e))]
    simp
theorem rowsA_no : ∀ (a p : List UInt8), (10 : UInt8) ∉ a → rowsA p a = []
  | [], p, _ => rfl
  | c :: a, p, h => by
    have h1 : c ≠ 10 := fun e => h (by simp [e])
    rw [rowsA, if_neg h1]
    exact rowsA_no a (p ++ [c]) (fun e => h (List.mem_cons_of_mem _ e))
theorem rowsL_at {a b : List UInt8} (h : (10 : UInt8) ∉ a) : rowsL (a ++ 10 :: b) = (a, b) :: rowsL b := by unfold rowsL; rw [rowsA_at a [] b h]; rfl
theorem rowsL_no {a : List UInt8} (h : (10 : UInt8) ∉ a) : rowsL a = [] := rowsA_no a [] h
/-- what a round must keep: the iterator's own cell, the library's variable -/
def KeepsRow (bx : Nat) (A B : World) : Prop := B.heap[bx]? = A.heap[bx]? ∧ (∀ m, A.cell? ⟨Tryz.laysM145_ren.g 1, 0, none⟩ = some m → B.cell? ⟨Tryz.laysM145_ren.g 1, 0, none⟩ = some m)
def encsR (p : List UInt8 × List UInt8) : Array Value := #[strV p.1, strV p.2]
def leftR (bx : Nat) (w : World) : Nat := match w.cell? ⟨bx, 0, none⟩ with
  | some (.string b) => b.size
  | _ => 0
theorem leftR_at {bx : Nat} {w : World} {b : List UInt8} {t : TypeId} {fr : Nat × Nat} (h : w.heap[bx]? = some (.cells #[strV b] t fr)) : leftR bx w = b.length := by
  unfold leftR; rw [cell1R h]; simp [strV, ByteArray.size]

theorem cell_far {w : World} {a : Addr} {v : Value} {b i : Nat} (h : b ≠ a.block) : (w.setCell a v).cell? ⟨b, i, none⟩ = w.cell? ⟨b, i, none⟩ := by
  unfold World.cell?
  rw [heap_setCell_other _ _ _ _ h]
set_option maxHeartbeats 4000000 in
theorem rows1_box (n : Nat) (hn : 1 ≤ n) (bx : Nat) (t : List UInt8) (w : World) (ht : t.length ≤ 4294967200) (hm : MaxAt w) (hx : w.heap[bx]? = some (.cells #[strV t] 9 (0, 0))) (hg : Tryz.laysM145_ren.g 1 ≠ bx) :
    SeqBox Fence.wide n Tryz.prog 76 #[.pointer (some ⟨bx, 0, none⟩)] encsR (KeepsRow bx) bx (rowsL t) w := by
  intro l J Jx W hW hJ hJx hY h0
  have hmW := hm.old hW
  have hxW := blk_below hW (lt_of_blk hx) hx
  have HJ := Lib.hid hJ; have HJx := Lib.hid hJx; have HM := Lib.hid hmW; have HX := Lib.hid hxW; have H0 := Lib.hid h0; have HY := Lib.hid hY
  clear hm hx hW hmW hxW hJ hJx h0 hY
  refine callsIn_of_wp Tryz.func76 rfl trivial ?_ rfl
  simp only [Tryz.ntmps76, List.size_toArray, List.length_cons, List.length_nil, Nat.reduceAdd, Nat.reduceSub, Array.replicate_succ, Array.replicate_zero, List.push_toArray, List.append_toArray, List.nil_append, List.cons_append]
  gi_wp2
  gi_loopw [3, 4, 5] (fun _ _ _ wr => ∃ pre rest, rowsL t = pre ++ rowsL rest ∧ rest.length ≤ 4294967200 ∧ wr.heap[bx]? = some (.cells #[strV rest] 9 (0, 0)) ∧ MaxAt wr ∧ J pre wr) (fun _ _ _ wr => leftR bx wr)
  case atStart => exact ⟨[], t, rfl, ht, HX.out, HM.out, H0.out⟩
  case round =>
    obtain ⟨pre, rest, hrows, hlen, hbox, hmax, hjs⟩ := hrel
    have hc0 : wr.cell? ⟨bx, 0, none⟩ = some (strV rest) := cell1R hbox
    have hf0 := frozen_of_row _ _ 0 _ _ hbox
    have lb := lt_of_blk hbox
    have hcut := cut_any 10 rest wr hmax hlen
    obtain ⟨T, hT⟩ : ∃ T, Lib.cut rest [10] = T := ⟨_, rfl⟩
    rw [hT] at hcut
    have HR := Lib.hid hrows; have HB := Lib.hid hbox; have HMx := Lib.hid hmax; have HJs := Lib.hid hjs; have HC := Lib.hid hcut; have HT := Lib.hid hT
    clear hrows hbox hmax hjs hcut hT
    rcases byte_cases 10 rest with hno | ⟨a, b, hab, ha⟩
    · have e := HT.out
      rw [cut_not 10 rest hno] at e
      subst e
      gi_wp2
      refine ⟨trivial, (callsIn_wide.2 HC.out).mono ?_⟩
      rintro e w2 ⟨rfl, hb2⟩
      have HJ2 := Lib.hid (HJ.out.1 _ wr w2 none HJs.out (grown_below hb2) (fun r e => by cases e))
      clear hb2
      gi_wp2
      refine ⟨fun _ h => (by cases h), ?_⟩
      gi_wp2
      refine bodyPost_ret (results_none rfl _ _ _) rfl ?_
      exact ⟨⟨_, rfl⟩, .inl (by rw [HR.out, rowsL_no hno, List.append_nil]; exact HJ2.out)⟩
    · subst hab
      have e := HT.out
      rw [cut_at 10 a b ha] at e
      subst e
      have hrow : rowsL t = pre ++ (a, b) :: rowsL b := by rw [HR.out, rowsL_at ha]
      have HRow := Lib.hid hrow
      clear hrow
      gi_wp2
      refine ⟨trivial, (callsIn_wide.2 HC.out).mono ?_⟩
      rintro e w2 ⟨rfl, hb2⟩
      have hb3 := blk_below hb2 lb HB.out
      have HM2 := Lib.hid (HMx.out.old hb2)
      have HB2 := Lib.hid hb3
      obtain ⟨fn, tmps, assign, body, hy, hR⟩ := HY.out pre (a, b) w2 (HJ.out.1 _ wr w2 none HJs.out (grown_below hb2) (fun r e => by cases e)) ⟨rowsL b, by rw [HRow.out]; simp⟩
      have hy : (Instr.yield l #[strV a, strV b]).run Tryz.prog w2 = .ok (.round l fn tmps assign body) w2 := hy
      have HRd := Lib.hid hR
      clear hR hb2 hb3 hc0 hf0
      gi_wp2
      refine HRd.out.mono ?_
      rintro e W3 (⟨rfl, hJ3, hk3⟩ | ⟨rfl, hJ3⟩)
      · have hb4 := hk3.1.trans HB2.out
        have hc4 : W3.cell? ⟨bx, 0, none⟩ = some (strV (a ++ 10 :: b)) := cell1R hb4
        have hf4 := frozen_of_row _ _ 0 _ _ hb4
        have HM4 := Lib.hid (show MaxAt W3 by obtain ⟨m, hm⟩ := HM2.out; exact ⟨m, hk3.2 _ hm⟩)
        have HB4 := Lib.hid hb4; have HJ4 := Lib.hid hJ3
        clear hk3 hb4 hJ3
        gi_wp2
        go_roundw
        case rel =>
          refine ⟨pre ++ [(a, b)], b, by rw [HRow.out]; simp, by simp at hlen; omega, ?_, ?_, HJ.out.2 _ _ _ HJ4.out⟩
          · exact blk_set (i := 0) (v := strV b) HB4.out
          · obtain ⟨m, hm⟩ := HM4.out
            exact ⟨m, (cell_far (a := ⟨bx, 0, none⟩) hg).trans hm⟩
        case measure =>
          rw [leftR_at (blk_set (i := 0) (v := strV b) HB4.out), leftR_at HB.out]
          simp; omega
      · have HJ4 := Lib.hid hJ3
        clear hJ3
        gi_wp2
        refine bodyPost_ret (results_none rfl _ _ _) rfl ?_
        exact ⟨⟨_, rfl⟩, .inr ⟨pre ++ [(a, b)], ⟨rowsL b, by rw [HRow.out]; simp⟩, HJ4.out⟩⟩
end
end Go.Proofs.YthnfmolkppbbpaaGreatDoor
