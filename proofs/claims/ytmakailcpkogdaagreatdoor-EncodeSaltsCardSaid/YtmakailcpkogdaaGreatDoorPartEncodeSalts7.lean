/- Parts of one proof: BitsB, BloomC, Shelf2, MakeV, MakeX, EncA, EncB. -/
import Derived.Test.YtmakailcpkogdaaGreatDoorPartEncodeSalts6
import Derived.Deep.RegionHeld3
import Derived.Shelf.Strings.Builder1
import Derived.Shelf.Strings.Builder2
import Derived.Shelf.Strings.OnBuilder
import Derived.Shelf.Strings.Trim
import Derived.Shelf.Small.Utf8
import Derived.Shelf.Small.Bits
import Derived.Shelf.Small.Strs
import Derived.Shelf.Strings.BuilderF
import Derived.Shelf.Strings.BuilderK
import Derived.Shelf.Utf8.RuneCount
import Derived.Shelf.Strconv.Itoa0
import Derived.Shelf.Strconv.Itoa1
import Derived.Shelf.LaysM
import Derived.Shelf.Strconv.Itoa2
import Derived.Shelf.Strconv.Itoa3
import Derived.Shelf.Strings.Search1
import Derived.Shelf.Strings.Search2
import Derived.Shelf.Strings.Search3
import Derived.Shelf.Strings.Cut
import Derived.Shelf.Strings.Count
import Derived.Shelf.Strings.Shaped
import Derived.Shelf.Sort.Plain
import Derived.Shelf.Strings.Split
import Derived.Shelf.Strings.SplitShaped
import Derived.Shelf.Unicode.Decode
import Derived.Shelf.Strings.Runes
import Derived.Shelf.Strings.RuneCount
import Derived.Shelf.Strings.AsciiSet
import Derived.Shelf.Strings.Explode
import Derived.Shelf.Bits.Mul64
import Derived.Shelf.Unicode.DecodeSlow
import Derived.Shelf.Unicode.DecodeAny
import Derived.Shelf.Unicode.DecodeLast
import Derived.Shelf.Strings.FieldsFuncAny
import Derived.Shelf.Slices.Turned
import Derived.Ground.Names2Prog
import Derived.Shelf.Slices.SearchI
import Derived.Shelf.Slices.In.SortNone
import Derived.Test.YtmakailcpkogdaaGreatDoorProg
section
/- bitset.Compare, the program's; cmp.Compare, cmp.Or, slices.Compare at what it uses. -/
set_option linter.unusedSimpArgs false
set_option linter.unusedVariables false
set_option maxRecDepth 100000
namespace Go.Proofs.YtmakailcpkogdaaGreatDoor
open Go.RowKit
theorem nanU_any (x : Int) (w : World) : Calls Tryz.prog 197 #[.int .u64 x] w fun e w' => e = .returned (.bool false) ∧ w = w' := by
  have h1 : (x != x) = false := by simp
  go_enter Tryz.func197, Tryz.ntmps197
  go_wp2_with fail
  go_ret
  exact ⟨by simp, rfl⟩
theorem nanI_any (x : Int) (w : World) : Calls Tryz.prog 186 #[.int .i64 x] w fun e w' => e = .returned (.bool false) ∧ w = w' := by
  have h1 : (x != x) = false := by simp
  go_enter Tryz.func186, Tryz.ntmps186
  go_wp2_with fail
  go_ret
  exact ⟨by simp, rfl⟩
set_option maxHeartbeats 1000000 in
theorem cmpU_any (x y : Int) (w : World) : Calls Tryz.prog 141 #[.int .u64 x, .int .u64 y] w fun e w' => e = .returned (.int .i64 (cmp3 x y)) ∧ w = w' := by
  obtain ⟨c, hc⟩ : ∃ c, cmp3 x y = c := ⟨_, rfl⟩
  rw [hc]
  unfold cmp3 at hc
  go_enter Tryz.func141, Tryz.ntmps141
  go_wp2_with fail
  refine (nanU_any x _).mono ?_
  rintro e w1 ⟨rfl, rfl⟩
  go_wp2_with fail
  refine (nanU_any y _).mono ?_
  rintro e w1 ⟨rfl, rfl⟩
  by_cases h1 : x < y
  · have d1 : decide (x < y) = true := by simpa using h1
    rw [if_pos h1] at hc; subst hc
    go_wp2_with fail
    go_ret
    exact ⟨rfl, rfl⟩
  · have d1 : decide (x < y) = false := by simpa using h1
    rw [if_neg h1] at hc
    by_cases h2 : y < x
    · have d2 : decide (y < x) = true := by simpa using h2
      rw [if_pos h2] at hc; subst hc
      go_wp2_with fail
      go_ret
      exact ⟨rfl, rfl⟩
    · have d2 : decide (y < x) = false := by simpa using h2
      rw [if_neg h2] at hc; subst hc
      go_wp2_with fail
      go_ret
      exact ⟨rfl, rfl⟩
set_option maxHeartbeats 1000000 in
theorem cmpI_any (x y : Int) (w : World) : Calls Tryz.prog 130 #[.int .i64 x, .int .i64 y] w fun e w' => e = .returned (.int .i64 (cmp3 x y)) ∧ w = w' := by
  obtain ⟨c, hc⟩ : ∃ c, cmp3 x y = c := ⟨_, rfl⟩
  rw [hc]
  unfold cmp3 at hc
  go_enter Tryz.func130, Tryz.ntmps130
  go_wp2_with fail
  refine (nanI_any x _).mono ?_
  rintro e w1 ⟨rfl, rfl⟩
  go_wp2_with fail
  refine (nanI_any y _).mono ?_
  rintro e w1 ⟨rfl, rfl⟩
  by_cases h1 : x < y
  · have d1 : decide (x < y) = true := by simpa using h1
    rw [if_pos h1] at hc; subst hc
    go_wp2_with fail
    go_ret
    exact ⟨rfl, rfl⟩
  · have d1 : decide (x < y) = false := by simpa using h1
    rw [if_neg h1] at hc
    by_cases h2 : y < x
    · have d2 : decide (y < x) = true := by simpa using h2
      rw [if_pos h2] at hc; subst hc
      go_wp2_with fail
      go_ret
      exact ⟨rfl, rfl⟩
    · have d2 : decide (y < x) = false := by simpa using h2
      rw [if_neg h2] at hc; subst hc
      go_wp2_with fail
      go_ret
      exact ⟨rfl, rfl⟩
/-- numbers of a slice of ints -/
abbrev encZ (x : Int) : List Value := [.int .i64 x]
set_option maxHeartbeats 1000000 in
theorem orI_any (v : Value) (L : List Int) (w : World) (h : Vec w Any1 1 encZ v L) (hn : L.length ≤ 1000000) :
    Calls Tryz.prog 129 #[v] w fun e w' => e = .returned (.int .i64 (orN L)) ∧ w = w' := by
  obtain ⟨a, cap, rfl⟩ := h.slice
  have HV := Lib.hid h; clear h
  obtain ⟨r, hr⟩ : ∃ r, orN L = r := ⟨_, rfl⟩
  rw [hr]
  have HR := Lib.hid hr; clear hr
  go_enter Tryz.func129, Tryz.ntmps129
  go_wp2_with fail
  go_loopw [8] (fun i wr => wr = w ∧ ∃ k : Nat, i = .int .i64 k ∧ k ≤ L.length ∧ Hid (orN (L.drop k) = r)) (fun i _ => L.length - (intOf i).toNat)
  case atStart => exact ⟨rfl, 0, rfl, by omega, Lib.hid HR.out⟩
  case round =>
    obtain ⟨rfl, k, rfl, hk, HT⟩ := hrel
    by_cases hlt : k < L.length
    · have hq : decide ((k : Int) < L.length) = true := by simp; omega
      obtain ⟨b, off, rfl, hb, hc⟩ := HV.out.get k hlt
      have c0 := hc 0 _ rfl
      rw [Nat.mul_one, Nat.add_zero] at c0
      have hd := List.drop_eq_getElem_cons hlt
      have ht := HT.out
      rw [hd] at ht
      obtain ⟨x, hx⟩ : ∃ x, L[k] = x := ⟨_, rfl⟩
      rw [hx] at c0 ht
      clear HT hd hx hc
      by_cases h0 : x = 0
      · subst h0
        unfold orN at ht
        rw [if_pos rfl] at ht
        have HT := Lib.hid ht; clear ht
        have d0 : ((0 : Int) != 0) = false := rfl
        go_wp2_with fail
        go_roundw
        case rel => exact ⟨trivial, k + 1, by go_num, by omega, HT⟩
        case measure => simp [intOf]; omega
      · have d0 : (x != (0 : Int)) = true := by simpa using h0
        unfold orN at ht
        rw [if_neg h0] at ht
        subst ht
        go_wp2_with fail
        go_ret
        exact ⟨rfl, rfl⟩
    · have hq : decide ((k : Int) < L.length) = false := by simp; omega
      have ht := HT.out
      rw [List.drop_eq_nil_of_le (by omega)] at ht
      unfold orN at ht
      subst ht
      clear HT
      go_wp2_with fail
      go_ret
      exact ⟨rfl, rfl⟩
set_option maxHeartbeats 2000000 in
theorem cmpW_any (S T : Nat → Prop) (u v : Value) (A B : List Int) (w : World) (hu : Vec w S 1 encU u A) (hv : Vec w T 1 encU v B) (hn : A.length ≤ 1000000) :
    Calls Tryz.prog 131 #[u, v] w fun e w' => e = .returned (.int .i64 (cmpW A B)) ∧ w = w' := by
  obtain ⟨a, ca, rfl⟩ := hu.slice
  obtain ⟨b, cb, rfl⟩ := hv.slice
  have HU := Lib.hid hu; have HV := Lib.hid hv; clear hu hv
  obtain ⟨r, hr⟩ : ∃ r, cmpW A B = r := ⟨_, rfl⟩
  rw [hr]
  have HR := Lib.hid hr; clear hr
  go_enter Tryz.func131, Tryz.ntmps131
  go_wp2_with fail
  go_loopw [11] (fun i wr => wr = w ∧ ∃ k : Nat, i = .int .i64 k ∧ k ≤ A.length ∧ k ≤ B.length ∧ Hid (cmpW (A.drop k) (B.drop k) = r)) (fun i _ => A.length - (intOf i).toNat)
  case atStart => exact ⟨rfl, 0, rfl, by omega, by omega, Lib.hid HR.out⟩
  case round =>
    obtain ⟨rfl, k, rfl, hk, hk2, HT⟩ := hrel
    by_cases hlt : k < A.length
    · have hq : decide ((k : Int) < A.length) = true := by simp; omega
      obtain ⟨ba, oa, rfl, hba, hca⟩ := HU.out.get k hlt
      have c0 := hca 0 _ rfl
      rw [Nat.mul_one, Nat.add_zero] at c0
      by_cases hl2 : k < B.length
      · have hq2 : decide ((B.length : Int) ≤ k) = false := by simp; omega
        obtain ⟨bb, ob, rfl, hbb, hcb⟩ := HV.out.get k hl2
        have e0 := hcb 0 _ rfl
        rw [Nat.mul_one, Nat.add_zero] at e0
        have ht := HT.out
        rw [cmpW_drop hlt hl2, getD_at _ _ hlt, getD_at _ _ hl2] at ht
        obtain ⟨x, hx⟩ : ∃ x, A[k] = x := ⟨_, rfl⟩
        obtain ⟨y, hy⟩ : ∃ y, B[k] = y := ⟨_, rfl⟩
        rw [hx] at c0 ht; rw [hy] at e0 ht
        obtain ⟨c, hc⟩ : ∃ c, cmp3 x y = c := ⟨_, rfl⟩
        rw [hc] at ht
        have HC := Lib.hid hc; have HT := Lib.hid ht
        clear hx hy hca hcb hc ht
        go_wp2_with fail
        refine (cmpU_any x y _).mono ?_
        rw [HC.out]
        rintro e w1 ⟨rfl, rfl⟩
        have ht := HT.out
        clear HT
        by_cases h0 : c = 0
        · subst h0
          rw [if_pos rfl] at ht
          have HT := Lib.hid ht; clear ht
          have d0 : ((0 : Int) != 0) = false := rfl
          go_wp2_with fail
          go_roundw
          case rel => exact ⟨trivial, k + 1, by go_num, by omega, by omega, HT⟩
          case measure => simp [intOf]; omega
        · have d0 : (c != (0 : Int)) = true := by simpa using h0
          rw [if_neg h0] at ht
          subst ht
          go_wp2_with fail
          go_ret
          exact ⟨rfl, rfl⟩
      · have hq2 : decide ((B.length : Int) ≤ k) = true := by simp; omega
        have ht := HT.out
        rw [show B.drop k = [] from List.drop_eq_nil_of_le (by omega), cmpW_nilr, if_neg (by rw [List.length_drop]; omega)] at ht
        subst ht
        clear HT hca
        go_wp2_with fail
        go_ret
        exact ⟨rfl, rfl⟩
    · have hq : decide ((k : Int) < A.length) = false := by simp; omega
      have ht := HT.out
      rw [show A.drop k = [] from List.drop_eq_nil_of_le (by omega), cmpW_nill, List.length_drop] at ht
      clear HT
      by_cases h1 : A.length < B.length
      · have d1 : decide ((A.length : Int) < B.length) = true := by simp; omega
        rw [if_neg (by omega)] at ht
        subst ht
        go_wp2_with fail
        go_ret
        exact ⟨rfl, rfl⟩
      · have d1 : decide ((A.length : Int) < B.length) = false := by simp; omega
        rw [if_pos (by omega)] at ht
        subst ht
        go_wp2_with fail
        go_ret
        exact ⟨rfl, rfl⟩
set_option maxHeartbeats 4000000 in
theorem cmpB_any (S T : Nat → Prop) (u v : Value) (a b : BitsL) (w : World) (hu : BitsAt w S u a) (hv : BitsAt w T v b) (hn : a.words.length ≤ 1000000) :
    Calls Tryz.prog 74 #[u, v] w fun e w' => e = .returned (.int .i64 (cmpB a b)) ∧ Below w.heap.size w w' := by
  obtain ⟨su, rfl, hu⟩ := hu
  obtain ⟨sv, rfl, hv⟩ := hv
  obtain ⟨aa, ca, rfl⟩ := hu.slice
  obtain ⟨ab, cb, rfl⟩ := hv.slice
  have HU := Lib.hid hu; have HV := Lib.hid hv; clear hu hv
  obtain ⟨x, hx⟩ : ∃ x, cmp3 a.len b.len = x := ⟨_, rfl⟩
  obtain ⟨y, hy⟩ : ∃ y, cmp3 a.words.length b.words.length = y := ⟨_, rfl⟩
  obtain ⟨z, hz⟩ : ∃ z, cmpW a.words b.words = z := ⟨_, rfl⟩
  obtain ⟨r, hr⟩ : ∃ r, cmpB a b = r := ⟨_, rfl⟩
  have hr2 : orN [x, y, z] = r := by rw [← hr, ← hx, ← hy, ← hz]; rfl
  rw [hr]
  have HX := Lib.hid hx; have HY := Lib.hid hy; have HZ := Lib.hid hz; have HR := Lib.hid hr2
  clear hx hy hz hr hr2
  go_enter Tryz.func74, Tryz.ntmps74
  go_wp2_with fail
  refine wp_world (fun W hW => ?_)
  have hb0 : Below w.heap.size w W := by rw [hW]; exact ((Below.refl w.heap.size w).alloc (Nat.le_refl _) _).alloc (by simp) _
  have ha0 : W.heap[w.heap.size]? = some (.cells #[.int .i64 a.len, .slice aa a.words.length ca] 68 (0, 0)) := by rw [hW]; exact blk_old (blk_new rfl)
  have he0 : W.heap[w.heap.size + 1]? = some (.cells #[.int .i64 b.len, .slice ab b.words.length cb] 68 (0, 0)) := by rw [hW]; exact blk_new (by simp)
  clear hW
  have HB0 := Lib.hid hb0
  obtain ⟨a0, a1⟩ := cells2K ha0; obtain ⟨b0, b1⟩ := cells2K he0
  have hwz := lt_of_blk he0
  clear ha0 he0 hb0
  refine wp_region_noPanic ?_
  refine wp_region_held_drew (S := (fun w' => w'.cell? ⟨w.heap.size, 0, none⟩ = some (.int .i64 a.len) ∧ w'.cell? ⟨w.heap.size, 1, none⟩ = some (.slice aa a.words.length ca) ∧ w'.cell? ⟨w.heap.size + 1, 0, none⟩ = some (.int .i64 b.len) ∧ w'.cell? ⟨w.heap.size + 1, 1, none⟩ = some (.slice ab b.words.length cb))) (by kernel_rfl) (⟨a0, a1, b0, b1⟩) (fun hHeld => ?_)
  refine wpAnyH_take (i := 0) (v := ?_) rfl (by kernel_rfl) (by kernel_rfl) (by kernel_rfl) (fun _ _ _ h => h) (Or.inl ⟨by rfl, ?_⟩) (by assumption) ?_
  rotate_left 1
  · (intro wS hSw; (try dsimp only at hSw); go_simp; try with_reducible rfl)
  try simp only [List.getElem_toArray, List.getElem_cons_zero, List.getElem_cons_succ, Act.put, List.setIfInBounds_toArray, List.set_cons_zero, List.set_cons_succ]
  refine wpAnyH_take (i := 1) (v := ?_) rfl (by kernel_rfl) (by kernel_rfl) (by kernel_rfl) (fun _ _ _ h => h) (Or.inl ⟨by rfl, ?_⟩) (by assumption) ?_
  rotate_left 1
  · (intro wS hSw; (try dsimp only at hSw); go_simp; try with_reducible rfl)
  try simp only [List.getElem_toArray, List.getElem_cons_zero, List.getElem_cons_succ, Act.put, List.setIfInBounds_toArray, List.set_cons_zero, List.set_cons_succ]
  refine wpAnyH_take (i := 2) (v := ?_) rfl (by kernel_rfl) (by kernel_rfl) (by kernel_rfl) (fun _ _ _ h => h) (Or.inl ⟨by rfl, ?_⟩) (by assumption) ?_
  rotate_left 1
  · (intro wS hSw; (try dsimp only at hSw); go_simp; try with_reducible rfl)
  try simp only [List.getElem_toArray, List.getElem_cons_zero, List.getElem_cons_succ, Act.put, List.setIfInBounds_toArray, List.set_cons_zero, List.set_cons_succ]
  refine wpAnyH_take (i := 3) (v := ?_) rfl (by kernel_rfl) (by kernel_rfl) (by kernel_rfl) (fun _ _ _ h => h) (Or.inl ⟨by rfl, ?_⟩) (by assumption) ?_
  rotate_left 1
  · (intro wS hSw; (try dsimp only at hSw); go_simp; try with_reducible rfl)
  try simp only [List.getElem_toArray, List.getElem_cons_zero, List.getElem_cons_succ, Act.put, List.setIfInBounds_toArray, List.set_cons_zero, List.set_cons_succ]
  refine wpAnyH_take (i := 5) (v := ?_) rfl (by kernel_rfl) (by kernel_rfl) (by kernel_rfl) (fun _ _ _ h => h) (Or.inl ⟨by rfl, ?_⟩) (by assumption) ?_
  rotate_left 1
  · (intro wS hSw; (try dsimp only at hSw); go_simp; try with_reducible rfl)
  try simp only [List.getElem_toArray, List.getElem_cons_zero, List.getElem_cons_succ, Act.put, List.setIfInBounds_toArray, List.set_cons_zero, List.set_cons_succ]
  refine wpAnyH_take (i := 6) (v := ?_) rfl (by kernel_rfl) (by kernel_rfl) (by kernel_rfl) (fun _ _ _ h => h) (Or.inl ⟨by rfl, ?_⟩) (by assumption) ?_
  rotate_left 1
  · (intro wS hSw; (try dsimp only at hSw); go_simp; try with_reducible rfl)
  try simp only [List.getElem_toArray, List.getElem_cons_zero, List.getElem_cons_succ, Act.put, List.setIfInBounds_toArray, List.set_cons_zero, List.set_cons_succ]
  refine wpAnyH_take (i := 7) (v := ?_) rfl (by kernel_rfl) (by kernel_rfl) (by kernel_rfl) (fun _ _ _ h => h) (Or.inl ⟨by rfl, ?_⟩) (by assumption) ?_
  rotate_left 1
  · (intro wS hSw; (try dsimp only at hSw); go_simp; try with_reducible rfl)
  try simp only [List.getElem_toArray, List.getElem_cons_zero, List.getElem_cons_succ, Act.put, List.setIfInBounds_toArray, List.set_cons_zero, List.set_cons_succ]
  refine wpAnyH_take (i := 8) (v := ?_) rfl (by kernel_rfl) (by kernel_rfl) (by kernel_rfl) (fun _ _ _ h => h) (Or.inl ⟨by rfl, ?_⟩) (by assumption) ?_
  rotate_left 1
  · (intro wS hSw; (try dsimp only at hSw); go_simp; try with_reducible rfl)
  try simp only [List.getElem_toArray, List.getElem_cons_zero, List.getElem_cons_succ, Act.put, List.setIfInBounds_toArray, List.set_cons_zero, List.set_cons_succ]
  refine wpAnyH_take (i := 9) (v := ?_) rfl (by kernel_rfl) (by kernel_rfl) (by kernel_rfl) (fun _ _ _ h => h) (Or.inl ⟨by rfl, ?_⟩) (by assumption) ?_
  rotate_left 1
  · (intro wS hSw; (try dsimp only at hSw); go_simp; try with_reducible rfl)
  try simp only [List.getElem_toArray, List.getElem_cons_zero, List.getElem_cons_succ, Act.put, List.setIfInBounds_toArray, List.set_cons_zero, List.set_cons_succ]
  refine wpAnyH_take (i := 10) (v := ?_) rfl (by kernel_rfl) (by kernel_rfl) (by kernel_rfl) (fun _ _ _ h => h) (Or.inl ⟨by rfl, ?_⟩) (by assumption) ?_
  rotate_left 1
  · (intro wS hSw; (try dsimp only at hSw); go_simp; try with_reducible rfl)
  try simp only [List.getElem_toArray, List.getElem_cons_zero, List.getElem_cons_succ, Act.put, List.setIfInBounds_toArray, List.set_cons_zero, List.set_cons_succ]
  refine wpAnyH_take (i := 12) (v := ?_) rfl (by kernel_rfl) (by kernel_rfl) (by kernel_rfl) (fun _ _ _ h => h) (Or.inl ⟨by rfl, ?_⟩) (by assumption) ?_
  rotate_left 1
  · (intro wS hSw; (try dsimp only at hSw); go_simp; try with_reducible rfl)
  try simp only [List.getElem_toArray, List.getElem_cons_zero, List.getElem_cons_succ, Act.put, List.setIfInBounds_toArray, List.set_cons_zero, List.set_cons_succ]
  refine wpAnyH_take (i := 13) (v := ?_) rfl (by kernel_rfl) (by kernel_rfl) (by kernel_rfl) (fun _ _ _ h => h) (Or.inl ⟨by rfl, ?_⟩) (by assumption) ?_
  rotate_left 1
  · (intro wS hSw; (try dsimp only at hSw); go_simp; try with_reducible rfl)
  try simp only [List.getElem_toArray, List.getElem_cons_zero, List.getElem_cons_succ, Act.put, List.setIfInBounds_toArray, List.set_cons_zero, List.set_cons_succ]
  refine wpAnyH_take (i := 14) (v := ?_) rfl (by kernel_rfl) (by kernel_rfl) (by kernel_rfl) (fun _ _ _ h => h) (Or.inl ⟨by rfl, ?_⟩) (by assumption) ?_
  rotate_left 1
  · (intro wS hSw; (try dsimp only at hSw); go_simp; try with_reducible rfl)
  try simp only [List.getElem_toArray, List.getElem_cons_zero, List.getElem_cons_succ, Act.put, List.setIfInBounds_toArray, List.set_cons_zero, List.set_cons_succ]
  refine wpAnyH_take (i := 15) (v := ?_) rfl (by kernel_rfl) (by kernel_rfl) (by kernel_rfl) (fun _ _ _ h => h) (Or.inl ⟨by rfl, ?_⟩) (by assumption) ?_
  rotate_left 1
  · (intro wS hSw; (try dsimp only at hSw); go_simp; try with_reducible rfl)
  try simp only [List.getElem_toArray, List.getElem_cons_zero, List.getElem_cons_succ, Act.put, List.setIfInBounds_toArray, List.set_cons_zero, List.set_cons_succ]
  refine wpAnyH_ready (rs := [4]) (by kernel_rfl) (by simp) ?_
  refine AllReadyH.cons rfl (fun K hK => ?_) AllReadyH.nil
  go_simp
  refine (cmpI_any _ _ _).mono ?_; rw [HX.out]; rintro e w1 ⟨rfl, rfl⟩
  refine hK.out _ _ (⟨a0, a1, b0, b1⟩) (fun hHeld => ?_)
  clear hK K
  try simp only [List.getElem_toArray, List.getElem_cons_zero, List.getElem_cons_succ, Act.put, List.setIfInBounds_toArray, List.set_cons_zero, List.set_cons_succ]
  refine wpAnyH_ready (rs := [11]) (by kernel_rfl) (by simp) ?_
  refine AllReadyH.cons rfl (fun K hK => ?_) AllReadyH.nil
  go_simp
  refine (cmpI_any _ _ _).mono ?_; rw [HY.out]; rintro e w1 ⟨rfl, rfl⟩
  refine hK.out _ _ (⟨a0, a1, b0, b1⟩) (fun hHeld => ?_)
  clear hK K
  try simp only [List.getElem_toArray, List.getElem_cons_zero, List.getElem_cons_succ, Act.put, List.setIfInBounds_toArray, List.set_cons_zero, List.set_cons_succ]
  refine wpAnyH_ready (rs := [16]) (by kernel_rfl) (by simp) ?_
  refine AllReadyH.cons rfl (fun K hK => ?_) AllReadyH.nil
  go_simp
  refine (cmpW_any S T _ _ a.words b.words _ (HU.out.below HB0.out.drew) (HV.out.below HB0.out.drew) hn).mono ?_; rw [HZ.out]; rintro e w1 ⟨rfl, rfl⟩
  refine hK.out _ _ (⟨a0, a1, b0, b1⟩) (fun hHeld => ?_)
  clear hK K
  try simp only [List.getElem_toArray, List.getElem_cons_zero, List.getElem_cons_succ, Act.put, List.setIfInBounds_toArray, List.set_cons_zero, List.set_cons_succ]
  refine wpAnyH_ready (rs := [17]) (by kernel_rfl) (by simp) ?_
  refine AllReadyH.cons rfl (fun K hK => ?_) AllReadyH.nil
  go_simp
  refine hK.out _ _ (⟨((Below.refl W.heap.size W).drew.alloc (Nat.le_refl _) _).cell (p := ⟨w.heap.size, 0, none⟩) (by show w.heap.size < _; omega) |>.trans a0, ((Below.refl W.heap.size W).drew.alloc (Nat.le_refl _) _).cell (p := ⟨w.heap.size, 1, none⟩) (by show w.heap.size < _; omega) |>.trans a1, ((Below.refl W.heap.size W).drew.alloc (Nat.le_refl _) _).cell (p := ⟨w.heap.size + 1, 0, none⟩) hwz |>.trans b0, ((Below.refl W.heap.size W).drew.alloc (Nat.le_refl _) _).cell (p := ⟨w.heap.size + 1, 1, none⟩) hwz |>.trans b1⟩) (fun hHeld => ?_)
  clear hK K
  try simp only [List.getElem_toArray, List.getElem_cons_zero, List.getElem_cons_succ, Act.put, List.setIfInBounds_toArray, List.set_cons_zero, List.set_cons_succ]
  refine wph_name (fun W1 hW1 => ?_)
  have hb1 : Below w.heap.size w W1 := by rw [hW1]; exact HB0.out.drew.alloc (by have := HB0.out.size; simpa using this) _
  have hv1 : Vec W1 Any1 1 encZ (.slice (some ⟨W.heap.size, 0, none⟩) 3 3) [x, y, z] := by rw [hW1]; exact blockVec (k := 1) (enc := encZ) (L := [x, y, z]) (S := Any1) (A := W.heap.size) (fun _ => rfl) (blk_new rfl) trivial 3 rfl
  have hHeld2 := hHeld
  rw [← hW1] at hHeld2
  clear hHeld hW1
  have hHeld := hHeld2; clear hHeld2
  have HV1 := Lib.hid hv1; have HB1 := Lib.hid hb1
  clear hv1 hb1
  refine wpAnyH_ready (rs := [18]) (by kernel_rfl) (by simp) ?_
  refine AllReadyH.cons rfl (fun K hK => ?_) AllReadyH.nil
  go_simp
  refine (orI_any _ [x, y, z] _ HV1.out (by simp)).mono ?_; rw [HR.out]; rintro e w1 ⟨rfl, rfl⟩
  refine hK.out _ _ (hHeld) (fun hHeld => ?_)
  clear hK K
  try simp only [List.getElem_toArray, List.getElem_cons_zero, List.getElem_cons_succ, Act.put, List.setIfInBounds_toArray, List.set_cons_zero, List.set_cons_succ]
  refine wpAnyH_take (i := 19) (v := ?_) rfl (by kernel_rfl) (by kernel_rfl) (by kernel_rfl) (fun _ _ _ h => h) (Or.inl ⟨by rfl, ?_⟩) (by assumption) ?_
  rotate_left 1
  · (intro wS hSw; (try dsimp only at hSw); go_simp; try with_reducible rfl)
  try simp only [List.getElem_toArray, List.getElem_cons_zero, List.getElem_cons_succ, Act.put, List.setIfInBounds_toArray, List.set_cons_zero, List.set_cons_succ]
  refine wpAnyH_done (by kernel_rfl) ?_ _
  refine NoPanic.normal ?_
  go_wp2_with fail
  go_ret
  exact ⟨rfl, HB1.out⟩
end Go.Proofs.YtmakailcpkogdaaGreatDoor
end
section
/- bloom, the program's: Encode. -/
set_option linter.unusedSimpArgs false
set_option linter.unusedVariables false
set_option maxRecDepth 100000
namespace Go.Proofs.YtmakailcpkogdaaGreatDoor
open Go.RowKit
theorem fl_u : ∀ l : List Int, l.flatMap encU = l.map (Value.int .u64) := by
  intro l; induction l with
  | nil => rfl
  | cons a l ih => simp only [List.flatMap_cons, List.map_cons, ih]; rfl
theorem word_cell {w : World} {g : Nat} {t : TypeId} {fr : Nat × Nat} {W : List Int} (h : w.heap[g]? = some (.cells (W.flatMap encU).toArray t fr)) (q : Nat) (hq : q < W.length) : w.cell? ⟨g, q, none⟩ = some (.int .u64 (W.getD q 0)) := by
  rw [cell_of_row _ _ _ _ _ _ h, fl_u, List.getElem?_toArray, List.getElem?_map, List.getElem?_eq_getElem hq, List.getD, List.getElem?_eq_getElem hq]; rfl
theorem word_set (W : List Int) (q : Nat) (x : Int) : ((W.flatMap encU).toArray).setIfInBounds q (.int .u64 x) = ((W.set q x).flatMap encU).toArray := by
  rw [fl_u, fl_u, List.setIfInBounds_toArray, List.map_set]
theorem fun_cellU {w : World} {gb : Nat} {t : TypeId} {fr : Nat × Nat} {L : List Int} (hr : w.heap[gb]? = some (.cells (L.flatMap encU).toArray t fr)) {i : Nat} {x : Int} (hi : L[i]? = some x) {u : Nat} {v : Value} (hu : (encU x)[u]? = some v) : w.cell? ⟨gb, 0 + i * 1 + u, none⟩ = some v := by
  rw [cell_of_row _ _ _ _ _ _ hr, Nat.zero_add, List.getElem?_toArray]
  have hul : u < 1 := (List.getElem?_eq_some_iff.1 hu).1
  rw [flat_get (enc := encU) (fun _ => rfl) L i x hi u hul]; exact hu
/-- where bloom.Encode stands: the boxes, the array's two cells, its words -/
structure EncAt (w : World) (p : ParL) (k : Int × Int) (gw c9 m : Nat) (W : List Int) (wr : World) : Prop where
  hp : wr.heap[w.heap.size]? = some (.cells (parC p) 64 (0, 0))
  hk : wr.heap[w.heap.size + 1]? = some (.cells #[.int .u64 k.1, .int .u64 k.2] 41 (0, 0))
  hr : wr.heap[w.heap.size + 2]? = some (.cells #[.int .i64 0, .slice none 0 0] 68 (0, 0))
  hc : wr.heap[c9]? = some (.cells #[.int .i64 p.len, .slice (some ⟨gw, 0, none⟩) m m] 68 (0, 0))
  hw : wr.heap[gw]? = some (.cells (W.flatMap encU).toArray 39 (0, 0))
  len : W.length = m
  ne : w.heap.size + 2 < gw ∧ w.heap.size + 2 < c9 ∧ gw ≠ c9
  b : Below w.heap.size w wr
theorem EncAt.below {w : World} {p : ParL} {k : Int × Int} {gw c9 m : Nat} {W : List Int} {wr wx : World} (h : EncAt w p k gw c9 m W wr) (hb : Below wr.heap.size wr wx) : EncAt w p k gw c9 m W wx :=
  ⟨blk_below hb (lt_of_blk h.hp) h.hp, blk_below hb (lt_of_blk h.hk) h.hk, blk_below hb (lt_of_blk h.hr) h.hr, blk_below hb (lt_of_blk h.hc) h.hc, blk_below hb (lt_of_blk h.hw) h.hw, h.len, h.ne, h.b.trans (hb.mono h.b.size)⟩
theorem EncAt.set {w : World} {p : ParL} {k : Int × Int} {gw c9 m : Nat} {W : List Int} {wr : World} (h : EncAt w p k gw c9 m W wr) (q : Nat) (x : Int) : EncAt w p k gw c9 m (W.set q x) (wr.setCell ⟨gw, q, none⟩ (.int .u64 x)) := by
  obtain ⟨n1, n2, n3⟩ := h.ne
  refine ⟨blk_far h.hp (by show w.heap.size ≠ gw; omega), blk_far h.hk (by show w.heap.size + 1 ≠ gw; omega), blk_far h.hr (by show w.heap.size + 2 ≠ gw; omega), blk_far h.hc (Ne.symm n3), ?_, by rw [List.length_set]; exact h.len, h.ne, h.b.setCell (p := ⟨gw, q, none⟩) (by show w.heap.size ≤ gw; omega) _⟩
  rw [← word_set]; exact blk_set h.hw
theorem EncAt.drew {w : World} {p : ParL} {k : Int × Int} {gw c9 m : Nat} {W : List Int} {wr : World} (h : EncAt w p k gw c9 m W wr) : EncAt w p k gw c9 m W wr.drew := ⟨h.hp, h.hk, h.hr, h.hc, h.hw, h.len, h.ne, h.b.drew⟩
def EncodePost (b : BitsL) (w : World) (e : Ending) (w' : World) : Prop := ∃ v, e = .returned (.tuple #[v, .int .i64 0]) ∧ BitsAt w' (fun x => w.heap.size ≤ x) v b ∧ Below w.heap.size w w'
set_option maxHeartbeats 8000000 in
theorem bencode_yes (S : Nat → Prop) (p : ParL) (k : Int × Int) (v : Value) (G : List (List UInt8)) (w : World) (hp : ParOk p) (hv : Vec w S 1 encS v G) (hg : ∀ g ∈ G, g.length ≤ 60000) (hn : G.length ≤ 80) :
    Calls Tryz.prog 185 #[.agg (parC p), .agg #[.int .u64 k.1, .int .u64 k.2], v] w (EncodePost (bloomN p k G).1 w) := by
  obtain ⟨a, cap, rfl⟩ := hv.slice
  have hl1 := hp.len1; have hl2 := hp.len2
  have hbm : (bloomN p k G).1 = ⟨p.len, G.foldl (orGram p k) (zeroW p.len)⟩ := by unfold bloomN; rw [if_pos hp.bloom, if_pos hn]
  rw [hbm]
  have HP := Lib.hid hp; have HV := Lib.hid hv.any; have HGl := Lib.hid hg
  have hn80 : decide ((80 : Int) < G.length) = false := by simp; omega
  clear hp hbm hv hg
  go_enter Tryz.func185, Tryz.ntmps185
  go_wp2_with fail
  refine wp_calls_world (fun W hW => ?_)
  have hb0 : Below w.heap.size w W := by rw [hW]; exact (((Below.refl _ _).alloc (Nat.le_refl _) _).alloc (by simp) _).alloc (by simp; omega) _
  have hp0 : W.heap[w.heap.size]? = some (.cells (parC p) 64 (0, 0)) := by rw [hW]; exact blk_old (blk_old (blk_new rfl))
  have hk0 : W.heap[w.heap.size + 1]? = some (.cells #[.int .u64 k.1, .int .u64 k.2] 41 (0, 0)) := by rw [hW]; exact blk_old (blk_new (by simp))
  have hr0 : W.heap[w.heap.size + 2]? = some (.cells #[.int .i64 0, .slice none 0 0] 68 (0, 0)) := by rw [hW]; exact blk_new (by simp)
  clear hW
  refine (bcheck_yes p W HP.out).mono ?_
  rintro e w1 ⟨rfl, hb⟩
  have hp1 := blk_below hb (lt_of_blk hp0) hp0; have hk1 := blk_below hb (lt_of_blk hk0) hk0; have hr1 := blk_below hb (lt_of_blk hr0) hr0
  have hb1 := hb0.trans (hb.mono hb0.size)
  have HB1 := Lib.hid hb1; have HP1 := Lib.hid hp1; have HK1 := Lib.hid hk1; have HR1 := Lib.hid hr1
  obtain ⟨q0, q1, q2⟩ := cells3 hp1; obtain ⟨k0, k1⟩ := cells2K hk1
  clear hb0 hp0 hk0 hr0 hb hp1 hk1 hr1 hb1
  go_wp2_with fail
  refine (bnew_yes p.len _ HP.out.right).mono ?_
  rintro e w2 ⟨gw, m, rfl, hm, hgw, hw0, hb⟩
  have hz0 := lt_of_blk HR1.out
  have hE : EncAt w p k gw w2.heap.size m (zeroW p.len) (w2.alloc (.cells #[.int .i64 p.len, .slice (some ⟨gw, 0, none⟩) m m] 68)) := by
    have hz1 := lt_of_blk hw0
    exact ⟨blk_old (blk_below hb (lt_of_blk HP1.out) HP1.out), blk_old (blk_below hb (lt_of_blk HK1.out) HK1.out), blk_old (blk_below hb (lt_of_blk HR1.out) HR1.out), blk_new rfl, blk_old hw0, by unfold zeroW; rw [List.length_replicate]; omega, ⟨by omega, by omega, by omega⟩, ((HB1.out.trans (hb.mono HB1.out.size)).alloc (by have := HB1.out.size; have := hb.size; omega) _)⟩
  have hm8 : m ≤ 8 := by omega
  have HM := Lib.hid hm
  have HE := Lib.hid hE
  clear hE hm hgw hw0 hb q0 q1 q2 k0 k1 HB1 HP1 HK1 HR1 hz0
  go_wp2_with fail
  refine wp_world (fun W0 hW0 => ?_)
  rw [← hW0] at HE
  have HBW := Lib.hid HE.out.b
  clear hW0
  go_loopw [12, 13, 14, 16, 35] (fun _ _ _ _ i wr => ∃ j : Nat, i = .int .i64 j ∧ j ≤ G.length ∧ EncAt w p k gw w2.heap.size m ((G.take j).foldl (orGram p k) (zeroW p.len)) wr) (fun _ _ _ _ i _ => G.length - (intOf i).toNat)
  case atStart => exact ⟨0, rfl, by omega, HE.out⟩
  case round =>
    obtain ⟨j, rfl, hj, he⟩ := hrel
    have HE2 := Lib.hid he; clear he HE
    by_cases hlt : j < G.length
    · have hq : decide ((j : Int) < G.length) = true := by simp; omega
      obtain ⟨g, hg⟩ : ∃ g, G[j] = g := ⟨_, rfl⟩
      have hgl : g.length ≤ 60000 := HGl.out g (by rw [← hg]; exact List.getElem_mem _)
      have hts : (G.take (j + 1)).foldl (orGram p k) (zeroW p.len) = orGram p k ((G.take j).foldl (orGram p k) (zeroW p.len)) g := by rw [List.take_succ_eq_append_getElem hlt, hg, List.foldl_append]; rfl
      have HTs := Lib.hid hts; clear hts
      obtain ⟨b, off, rfl, hbb, hc⟩ := (HV.out.below HE2.out.b).get j hlt
      have c0 := hc 0 _ rfl
      rw [Nat.mul_one, Nat.add_zero, hg] at c0
      obtain ⟨q0, q1, q2⟩ := cells3 HE2.out.hp; obtain ⟨k0, k1⟩ := cells2K HE2.out.hk
      obtain ⟨Wj, hWj⟩ : ∃ Wj, (G.take j).foldl (orGram p k) (zeroW p.len) = Wj := ⟨_, rfl⟩
      rw [hWj] at HE2 HTs
      clear hc hWj hg
      go_wp2_with fail
      refine (positions_yes p k g _ HP.out hgl).mono ?_
      rintro e w4 ⟨v4, rfl, hv4, hb4⟩
      have hgz := lt_of_blk HE2.out.hw
      have HE4 := Lib.hid (HE2.out.below hb4)
      have HV4 := Lib.hid (hv4.move (w' := w4) (S' := fun b => b ≠ gw) (Nat.le_refl _) fun b hb hs => ⟨rfl, by have hs' : wr.heap.size ≤ b := hs; omega⟩)
      obtain ⟨a4, c4, rfl⟩ := hv4.slice
      have hbd := posN_bd p.len (stepP p k g) (by omega) p.hashes.toNat (firstP p k g) (Int.emod_nonneg _ (by omega)) (Int.emod_lt_of_pos _ (by omega))
      have hlenl : (positionsN p k g).length ≤ 16 := by unfold positionsN; rw [posN_len]; have := HP.out.h2; omega
      have hog : orGram p k Wj g = (positionsN p k g).foldl orBit Wj := rfl
      obtain ⟨l, hl⟩ : ∃ l, positionsN p k g = l := ⟨_, rfl⟩
      have hbd2 : ∀ i ∈ l, 0 ≤ i ∧ i < p.len := by rw [← hl]; exact hbd
      rw [hl] at hlenl hog HV4 ⊢
      have HBd := Lib.hid hbd2; have HOG := Lib.hid hog
      clear hv4 hb4 hbd hl hbd2 hog HE2 q0 q1 q2 k0 k1 c0
      go_wp2_with fail
      go_loopw [16, 48] (fun _ i wr => ∃ n : Nat, i = .int .i64 n ∧ n ≤ l.length ∧ EncAt w p k gw w2.heap.size m ((l.take n).foldl orBit Wj) wr ∧ Vec wr (fun b => b ≠ gw) 1 encI (.slice a4 l.length c4) l) (fun _ i _ => l.length - (intOf i).toNat)
      case atStart => exact ⟨0, rfl, by omega, HE4.out, HV4.out⟩
      case round =>
        obtain ⟨n, rfl, hn, he, hv⟩ := hrel
        have HE5 := Lib.hid he; have HV5 := Lib.hid hv; clear he hv HE4 HV4
        by_cases hlt2 : n < l.length
        · have hq2 : decide ((n : Int) < l.length) = true := by simp; omega
          obtain ⟨i, hi⟩ : ∃ i, l[n] = i := ⟨_, rfl⟩
          obtain ⟨i0, i1⟩ := HBd.out i (by rw [← hi]; exact List.getElem_mem _)
          have hts2 : (l.take (n + 1)).foldl orBit Wj = orBit ((l.take n).foldl orBit Wj) i := by rw [List.take_succ_eq_append_getElem hlt2, hi, List.foldl_append]; rfl
          obtain ⟨Wn, hWn⟩ : ∃ Wn, (l.take n).foldl orBit Wj = Wn := ⟨_, rfl⟩
          rw [hWn] at HE5 hts2
          have HT2 := Lib.hid hts2
          obtain ⟨b4, off4, rfl, hbb4, hc4⟩ := HV5.out.get n hlt2
          have c5 := hc4 0 _ rfl
          rw [Nat.mul_one, Nat.add_zero, hi] at c5
          have hqn : (i / 64).toNat < Wn.length := by rw [HE5.out.len]; have := HM.out; omega
          have cw := word_cell HE5.out.hw _ hqn
          have fw := frozen_of_row _ _ (i / 64).toNat _ _ HE5.out.hw
          obtain ⟨d0, d1⟩ := cells2K HE5.out.hc
          clear hc4 hWn hi hts2
          have ht1 : i.tdiv 64 = i / 64 := Int.tdiv_eq_ediv_of_nonneg i0
          have ht2 : i.tmod 64 = i % 64 := Int.tmod_eq_emod_of_nonneg i0
          have hw1 : IntKind.i64.wrap (i / 64) = i / 64 := by rw [IntKind.wrap_i64]; omega
          have j0 : (0 : Int) ≤ i / 64 := by omega
          have j1 : i / 64 < (m : Int) := by have := HM.out; omega
          have j2 : (0 : Int) ≤ i % 64 := by omega
          have j3 : ¬ (i % 64 < 0) := by omega
          obtain ⟨wd, hwd⟩ : ∃ wd, Wn.getD (i / 64).toNat 0 = wd := ⟨_, rfl⟩
          rw [hwd] at cw
          have HWD := Lib.hid hwd; clear hwd
          go_wp2_with fail
          refine wp_region_noPanic ?_
          refine wp_region_k (by kernel_rfl) (fun w' => w'.cell? ⟨w2.heap.size, 1, none⟩ = some (.slice (some ⟨gw, 0, none⟩) m m) ∧ w'.cell? ⟨gw, (i / 64).toNat, none⟩ = some (.int .u64 wd)) 11 (⟨d1, cw⟩) (fun hHeld => ?_)
          refine wpAnyK_take (i := 0) (v := ?_) rfl (by kernel_rfl) (by kernel_rfl) (by kernel_rfl) (by kernel_rfl) (fun _ _ _ h => h) (Or.inl ⟨by rfl, ?_⟩) (by assumption) ?_
          rotate_left 1
          · (intro wS hSw; (try dsimp only at hSw); go_simp; try with_reducible rfl)
          try simp only [List.getElem_toArray, List.getElem_cons_zero, List.getElem_cons_succ, Act.put, List.setIfInBounds_toArray, List.set_cons_zero, List.set_cons_succ]
          refine wpAnyK_take (i := 1) (v := ?_) rfl (by kernel_rfl) (by kernel_rfl) (by kernel_rfl) (by kernel_rfl) (fun _ _ _ h => h) (Or.inl ⟨by rfl, ?_⟩) (by assumption) ?_
          rotate_left 1
          · (intro wS hSw; (try dsimp only at hSw); go_simp; try with_reducible rfl)
          try simp only [List.getElem_toArray, List.getElem_cons_zero, List.getElem_cons_succ, Act.put, List.setIfInBounds_toArray, List.set_cons_zero, List.set_cons_succ]
          refine wpAnyK_take (i := 2) (v := ?_) rfl (by kernel_rfl) (by kernel_rfl) (by kernel_rfl) (by kernel_rfl) (fun _ _ _ h => h) (Or.inl ⟨by rfl, ?_⟩) (by assumption) ?_
          rotate_left 1
          · (intro wS hSw; (try dsimp only at hSw); go_simp; try with_reducible rfl)
          try simp only [List.getElem_toArray, List.getElem_cons_zero, List.getElem_cons_succ, Act.put, List.setIfInBounds_toArray, List.set_cons_zero, List.set_cons_succ]
          refine wpAnyK_take (i := 3) (v := ?_) rfl (by kernel_rfl) (by kernel_rfl) (by kernel_rfl) (by kernel_rfl) (fun _ _ _ h => h) (Or.inl ⟨by rfl, ?_⟩) (by assumption) ?_
          rotate_left 1
          · (intro wS hSw; (try dsimp only at hSw); go_simp; try with_reducible rfl)
          try simp only [List.getElem_toArray, List.getElem_cons_zero, List.getElem_cons_succ, Act.put, List.setIfInBounds_toArray, List.set_cons_zero, List.set_cons_succ]
          refine wpAnyK_take (i := 4) (v := ?_) rfl (by kernel_rfl) (by kernel_rfl) (by kernel_rfl) (by kernel_rfl) (fun _ _ _ h => h) (Or.inl ⟨by rfl, ?_⟩) (by assumption) ?_
          rotate_left 1
          · (intro wS hSw; (try dsimp only at hSw); go_simp; try with_reducible rfl)
          try simp only [List.getElem_toArray, List.getElem_cons_zero, List.getElem_cons_succ, Act.put, List.setIfInBounds_toArray, List.set_cons_zero, List.set_cons_succ]
          refine wpAnyK_take (i := 5) (v := ?_) rfl (by kernel_rfl) (by kernel_rfl) (by kernel_rfl) (by kernel_rfl) (fun _ _ _ h => h) (Or.inl ⟨by rfl, ?_⟩) (by assumption) ?_
          rotate_left 1
          · (intro wS hSw; (try dsimp only at hSw); go_simp; try with_reducible rfl)
          try simp only [List.getElem_toArray, List.getElem_cons_zero, List.getElem_cons_succ, Act.put, List.setIfInBounds_toArray, List.set_cons_zero, List.set_cons_succ]
          refine wpAnyK_take (i := 6) (v := ?_) rfl (by kernel_rfl) (by kernel_rfl) (by kernel_rfl) (by kernel_rfl) (fun _ _ _ h => h) (Or.inl ⟨by rfl, ?_⟩) (by assumption) ?_
          rotate_left 1
          · (intro wS hSw; (try dsimp only at hSw); go_simp; try with_reducible rfl)
          try simp only [List.getElem_toArray, List.getElem_cons_zero, List.getElem_cons_succ, Act.put, List.setIfInBounds_toArray, List.set_cons_zero, List.set_cons_succ]
          refine wpAnyK_take (i := 7) (v := ?_) rfl (by kernel_rfl) (by kernel_rfl) (by kernel_rfl) (by kernel_rfl) (fun _ _ _ h => h) (Or.inl ⟨by rfl, ?_⟩) (by assumption) ?_
          rotate_left 1
          · (intro wS hSw; (try dsimp only at hSw); go_simp; try with_reducible rfl)
          try simp only [List.getElem_toArray, List.getElem_cons_zero, List.getElem_cons_succ, Act.put, List.setIfInBounds_toArray, List.set_cons_zero, List.set_cons_succ]
          refine wpAnyK_take (i := 8) (v := ?_) rfl (by kernel_rfl) (by kernel_rfl) (by kernel_rfl) (by kernel_rfl) (fun _ _ _ h => h) (Or.inl ⟨by rfl, ?_⟩) (by assumption) ?_
          rotate_left 1
          · (intro wS hSw; (try dsimp only at hSw); go_simp; try with_reducible rfl)
          try simp only [List.getElem_toArray, List.getElem_cons_zero, List.getElem_cons_succ, Act.put, List.setIfInBounds_toArray, List.set_cons_zero, List.set_cons_succ]
          refine wpAnyK_take (i := 9) (v := ?_) rfl (by kernel_rfl) (by kernel_rfl) (by kernel_rfl) (by kernel_rfl) (fun _ _ _ h => h) (Or.inl ⟨by rfl, ?_⟩) (by assumption) ?_
          rotate_left 1
          · (intro wS hSw; (try dsimp only at hSw); go_simp; try with_reducible rfl)
          try simp only [List.getElem_toArray, List.getElem_cons_zero, List.getElem_cons_succ, Act.put, List.setIfInBounds_toArray, List.set_cons_zero, List.set_cons_succ]
          refine wpAnyK_take (i := 10) (v := ?_) rfl (by kernel_rfl) (by kernel_rfl) (by kernel_rfl) (by kernel_rfl) (fun _ _ _ h => h) (Or.inl ⟨by rfl, ?_⟩) (by assumption) ?_
          rotate_left 1
          · (intro wS hSw; (try dsimp only at hSw); go_simp; try with_reducible rfl)
          try simp only [List.getElem_toArray, List.getElem_cons_zero, List.getElem_cons_succ, Act.put, List.setIfInBounds_toArray, List.set_cons_zero, List.set_cons_succ]
          refine wpAnyK_ready (rs := [11]) (by kernel_rfl) (by simp) ?_
          refine AllReadyK.cons rfl (fun K hK => ?_) AllReadyK.nil
          go_simp
          refine shutK_off hK (by decide) ?_
          clear hK K
          try simp only [List.getElem_toArray, List.getElem_cons_zero, List.getElem_cons_succ, Act.put, List.setIfInBounds_toArray, List.set_cons_zero, List.set_cons_succ]
          refine wpAnyK_done (by kernel_rfl) ?_ _
          refine NoPanic.normal ?_
          go_wp2_with fail
          go_roundw
          case rel =>
            refine ⟨n + 1, by go_num, by omega, ?_, ?_⟩
            · rw [HT2.out]
              have e : orBit Wn i = Wn.set (i / 64).toNat (bits .or .u64 wd (IntKind.u64.wrap (2 ^ (i % 64).toNat))) := by rw [← HWD.out]; rfl
              rw [e]; exact (HE5.out.set _ _).drew
            · exact (HV5.out.set1 (a := ⟨gw, (i / 64).toNat, none⟩) (fun b hb => hb) _).below ((Below.refl _ _).drew)
          case measure => simp [intOf]; omega
        · have hq2 : decide ((n : Int) < l.length) = false := by simp; omega
          obtain rfl : n = l.length := by omega
          rw [List.take_of_length_le (Nat.le_refl _), ← HOG.out, ← HTs.out] at HE5
          clear HV5
          go_wp2_with fail
          go_roundw
          case rel => exact ⟨j + 1, by go_num, by omega, HE5.out⟩
          case measure => simp [intOf]; omega
    · have hq : decide ((j : Int) < G.length) = false := by simp; omega
      obtain rfl : j = G.length := by omega
      rw [List.take_of_length_le (Nat.le_refl _)] at HE2
      obtain ⟨d0, d1⟩ := cells2K HE2.out.hc
      obtain ⟨r0, r1⟩ := cells2K HE2.out.hr
      have f0 := frozen_of_row _ _ 0 _ _ HE2.out.hr; have f1 := frozen_of_row _ _ 1 _ _ HE2.out.hr
      have zr := lt_of_blk HE2.out.hr
      go_wp2_with fail
      have hne := HE2.out.ne
      refine bodyPost_row2 rfl rfl (blk_set (i := 1) (v := .slice (some ⟨gw, 0, none⟩) m m) (blk_set (i := 0) (v := .int .i64 p.len) HE2.out.hr)) Tryz.underlying68 rfl (by kernel_rfl) ⟨_, rfl, ⟨_, rfl, ?_⟩, (HE2.out.b.setCell (p := ⟨w.heap.size + 2, 0, none⟩) (by show w.heap.size ≤ w.heap.size + 2; omega) _).setCell (p := ⟨w.heap.size + 2, 1, none⟩) (by show w.heap.size ≤ w.heap.size + 2; omega) _⟩
      have hgw := blk_far (a := ⟨w.heap.size + 2, 1, none⟩) (v := .slice (some ⟨gw, 0, none⟩) m m) (blk_far (a := ⟨w.heap.size + 2, 0, none⟩) (v := .int .i64 p.len) HE2.out.hw (by show gw ≠ w.heap.size + 2; omega)) (by show gw ≠ w.heap.size + 2; omega)
      have hl := HE2.out.len
      obtain ⟨WW, hWW⟩ : ∃ WW, G.foldl (orGram p k) (zeroW p.len) = WW := ⟨_, rfl⟩
      rw [hWW] at hgw hl ⊢
      exact ⟨_, m, by rw [hl], by rw [hl]; exact Nat.le_refl _, fun _ => ⟨gw, 0, rfl, by show w.heap.size ≤ gw; omega, lt_of_blk hgw, fun i x hi u v hu => fun_cellU hgw hi hu⟩⟩
end Go.Proofs.YtmakailcpkogdaaGreatDoor
end
section
/-
  DERIVED: THE SHELF's CONTRACTS AT THIS DUMP, IN PLAIN WORDS (tools/lay-plain.mjs out of 'TryzShelf.lean', which tools/lay-shelf.mjs wrote): THE SAME DECLARATIONS UNDER THE SAME NAMES: 'import', 'namespace', 'open', 'def', 'theorem' AND NOTHING ELSE: no command of the shelf's: FOR A HAND-IN. Each laying: the table of numbers ('.._ren') and one theorem, a field a fact of the dump's own or the kernel's comparison; each contract: ONE APPLICATION.
-/
namespace Go.Proofs
open Go.Shelf
def Tryz.lays171_ren : Go.Shelf.Ren := ⟨fun | 171 => 86 | 243 => 143 | 246 => 200 | 283 => 239 | 284 => 240 | 285 => 241 | 286 => 242 | 129 => 290 | 317 => 289 | 318 => 291 | 319 => 292 | 320 => 293 | 337 => 315 | 338 => 316 | n => n, fun | 3 => 3 | 9 => 9 | 2 => 2 | 4 => 4 | 171 => 259 | 0 => 0 | 53 => 39 | 37 => 73 | 5 => 5 | 173 => 262 | 212 => 295 | 51 => 283 | 20 => 20 | 213 => 296 | 46 => 138 | 232 => 325 | 233 => 326 | n => n, fun | 17 => 3 | 18 => 6 | 19 => 7 | n => n⟩
theorem Tryz.lays171 : Go.Proofs.Lays.n171 Tryz.prog Tryz.lays171_ren := {
  mixed := by kernel_rfl
  f129 := Tryz.func290.trans (congrArg some (by kernel_rfl))
  f171 := Tryz.func86.trans (congrArg some (by kernel_rfl))
  f243 := Tryz.func143.trans (congrArg some (by kernel_rfl))
  f246 := Tryz.func200.trans (congrArg some (by kernel_rfl))
  f283 := Tryz.func239.trans (congrArg some (by kernel_rfl))
  f284 := Tryz.func240.trans (congrArg some (by kernel_rfl))
  f285 := Tryz.func241.trans (congrArg some (by kernel_rfl))
  f286 := Tryz.func242.trans (congrArg some (by kernel_rfl))
  f317 := Tryz.func289.trans (congrArg some (by kernel_rfl))
  f318 := Tryz.func291.trans (congrArg some (by kernel_rfl))
  f319 := Tryz.func292.trans (congrArg some (by kernel_rfl))
  f320 := Tryz.func293.trans (congrArg some (by kernel_rfl))
  f337 := Tryz.func315.trans (congrArg some (by kernel_rfl))
  f338 := Tryz.func316.trans (congrArg some (by kernel_rfl))
  t0 := Tryz.underlying0
  a0 := Tryz.isAgg0
  z0 := Tryz.sizeOf0
  v0 := Tryz.zeroValue0
  t2 := Tryz.underlying2
  a2 := Tryz.isAgg2
  z2 := Tryz.sizeOf2
  v2 := Tryz.zeroValue2
  t3 := Tryz.underlying3
  a3 := Tryz.isAgg3
  z3 := Tryz.sizeOf3
  v3 := Tryz.zeroValue3
  t4 := Tryz.underlying4
  a4 := Tryz.isAgg4
  z4 := Tryz.sizeOf4
  v4 := Tryz.zeroValue4
  t5 := Tryz.underlying5
  a5 := Tryz.isAgg5
  z5 := Tryz.sizeOf5
  v5 := Tryz.zeroValue5
  t9 := Tryz.underlying9
  a9 := Tryz.isAgg9
  z9 := Tryz.sizeOf9
  v9 := Tryz.zeroValue9
  t20 := Tryz.underlying20
  a20 := Tryz.isAgg20
  z20 := Tryz.sizeOf20
  v20 := Tryz.zeroValue20
  t37 := Tryz.underlying73
  a37 := Tryz.isAgg73
  z37 := Tryz.sizeOf73
  v37 := Tryz.zeroValue73
  t46 := Tryz.underlying138
  a46 := Tryz.isAgg138
  z46 := Tryz.sizeOf138
  v46 := Tryz.zeroValue138
  t51 := Tryz.underlying283
  a51 := Tryz.isAgg283
  z51 := Tryz.sizeOf283
  v51 := Tryz.zeroValue283
  t53 := Tryz.underlying39
  a53 := Tryz.isAgg39
  z53 := Tryz.sizeOf39
  v53 := Tryz.zeroValue39
  t171 := Tryz.underlying259
  a171 := Tryz.isAgg259
  z171 := Tryz.sizeOf259
  v171 := Tryz.zeroValue259
  t173 := Tryz.underlying262
  a173 := Tryz.isAgg262
  z173 := Tryz.sizeOf262
  v173 := Tryz.zeroValue262
  t212 := Tryz.underlying295
  a212 := Tryz.isAgg295
  z212 := Tryz.sizeOf295
  v212 := Tryz.zeroValue295
  t213 := Tryz.underlying296
  a213 := Tryz.isAgg296
  z213 := Tryz.sizeOf296
  t232 := Tryz.underlying325
  a232 := Tryz.isAgg325
  z232 := Tryz.sizeOf325
  v232 := Tryz.zeroValue325
  t233 := Tryz.underlying326
  a233 := Tryz.isAgg326
  z233 := Tryz.sizeOf326
  v233 := Tryz.zeroValue326
  g17 := by kernel_rfl
  g18 := by kernel_rfl
  g19 := by kernel_rfl }
open Go.RowKit Go.Sort Go.Lib in
/-- THE ROAD WITHOUT THE TABLE: 0 <= i < 100: NO PREMISE ON THE WORLD, AND THE WORLD IS AS IT WAS: a row that keeps its argument in that range need list no table ('laid = []'). (LAID: no walk: one application.) -/
theorem Tryz.strconv_Itoa_small (i : Nat) (hi : i < 100) (w : World) :
    Calls Tryz.prog 86 #[.int .i64 i] w fun e w' => e = .returned (.string ⟨(Lib.decDigits i).toArray⟩) ∧ w' = w := Any.strconv_Itoa_small Tryz.lays171 i hi w
end Go.Proofs
end
section
/- recordlinkmake: Dress: a folded text in another dress. -/
set_option linter.unusedSimpArgs false
set_option linter.unusedVariables false
set_option maxRecDepth 100000
namespace Go.Proofs.YtmakailcpkogdaaGreatDoor
open Go.RowKit
attribute [local go_sem] toList_mk mk_size str_append
def DressPost (D : Nat) (l : List UInt8) (w : World) (e : Ending) (w' : World) : Prop := ∃ o : List UInt8, e = .returned (strV o) ∧ DressOf l o ∧ Moved D w w'
/-- texts that have just been laid into a new block, to pick from -/
theorem pick_new (D : Nat) (w w0 : World) (L : List (List UInt8)) (n : Nat) (hn : n = L.length) (h1 : 1 ≤ n) (h2 : n ≤ 1000) (m : Moved D w0 w) :
    Calls Tryz.prog 69 #[.pointer (some ⟨D, 0, none⟩), .slice (some ⟨w.heap.size, 0, none⟩) n n] (w.alloc (.cells (L.flatMap encS).toArray 9)) (PickPost D L w0) := by
  have hD := m.deck.lt
  have m2 := m.alloc (.cells (L.flatMap encS).toArray 9)
  exact (pick_any D _ _ L m2.deck (blockVec (k := 1) (enc := encS) (L := L) (S := fun b => b ≠ D) (A := w.heap.size) (fun _ => rfl) (blk_new rfl) (by omega) n hn) (by omega) (by omega)).mono fun _ _ ⟨l, he, hl, hm⟩ => ⟨l, he, hl, m2.trans hm⟩
theorem dressB_len {x : List UInt8} (h : x ∈ dressB) : x.length ≤ 2 := by
  simp [dressB] at h
  rcases h with rfl | rfl | rfl | rfl | rfl | rfl <;> simp
theorem dressC_len {x : List UInt8} (h : x ∈ dressC) : x.length ≤ 2 := by
  simp [dressC] at h
  rcases h with rfl | rfl | rfl <;> simp
/-- how far a text has been dressed -/
def DressMid (D : Nat) (w : World) (l : List UInt8) (k : Nat) (ol : List UInt8) (wr : World) : Prop := DressTo (l.take k) ol ∧ Moved D w wr
set_option maxHeartbeats 4000000 in
theorem dress_any (D : Nat) (s : ByteArray) (w : World) (h : DeckAt w D) (hs : ∀ b ∈ s.data.toList, okB b = true) (hn : s.size ≤ 1000) :
    Calls Tryz.prog 26 #[.pointer (some ⟨D, 0, none⟩), .string s] w (DressPost D s.data.toList w) := by
  have hl : s.data.toList.length = s.size := by simp
  have HL := Lib.hid hl; clear hl
  have HS := Lib.hid hs; clear hs
  have M0 := Lib.hid (Moved.start h); clear h
  go_enter Tryz.func26, Tryz.ntmps26
  go_wp2_with fail
  refine (pick_new D _ w dressA 4 rfl (by omega) (by omega) M0.out).mono ?_
  rintro e w1 ⟨o, rfl, ho, mv⟩
  have K0 := Lib.hid (show DressMid D w s.data.toList 0 o w1 from ⟨DressTo.start ho, mv⟩)
  clear ho mv
  go_wp2_with fail
  go_loopw [5, 6] (fun v i wr => ∃ (k : Nat) (ol : List UInt8), v = strV ol ∧ i = .int .i64 k ∧ k ≤ s.size ∧ DressMid D w s.data.toList k ol wr) (fun _ i _ => s.size - (intOf i).toNat)
  case atStart => exact ⟨0, o, rfl, rfl, by omega, K0.out⟩
  case round =>
    obtain ⟨k, ol, rfl, rfl, hk, hm⟩ := hrel
    have HT := Lib.hid hm.1; have M1 := Lib.hid hm.2
    have hol : ol.length ≤ 2001 := by have := hm.1.len; have := List.length_take_le k s.data.toList; omega
    clear hm K0
    by_cases hlt : k < s.size
    · have hq : decide ((k : Int) < s.size) = true := by simp; omega
      have ht := Lib.hid (take_snoc' s k hlt)
      have hok := Lib.hid (HS.out s[k] (by rw [show s[k] = s.data.toList[k]'(by rw [HL.out]; exact hlt) from rfl]; exact List.getElem_mem _))
      have hb := s[k].toNat_lt
      by_cases hsp : s[k] = 32
      · have e1 : ((s[k].toNat : Int) == 32) = true := by rw [hsp]; rfl
        have HSp := Lib.hid hsp; clear hsp
        go_wp2_with fail
        refine (pick_new D _ w dressB 6 rfl (by omega) (by omega) M1.out).mono ?_
        rintro e w2 ⟨x, rfl, hx, mv⟩
        have hxl := dressB_len hx
        have K1 := Lib.hid (show DressMid D w s.data.toList (k + 1) (ol ++ x) w2 from ⟨by rw [ht.out, HSp.out]; exact HT.out.space hx, mv⟩)
        clear hx mv e1
        go_wp2_with fail
        go_roundw
        case rel => exact ⟨k + 1, ol ++ x, rfl, by go_num, by omega, K1.out⟩
        case measure => simp [intOf]; omega
      · have e1 : ((s[k].toNat : Int) == 32) = false := by
          simp only [beq_eq_false_iff_ne, ne_eq]; intro e; apply hsp; rw [← UInt8.toNat_inj]; simp; omega
        clear hsp
        go_upto_block 2 with (fail)
        go_cut [5, 7] (fun s5 s7 wx => ∃ x : UInt8, s5 = strV ol ∧ s7 = .int .u8 x.toNat ∧ okByte x = true ∧ plainB x = [s[k]] ∧ Moved D w wx)
        case first =>
          cases hlo : isLow s[k]
          · have hc := hlo
            rw [low_iff, decide_eq_false_iff_not] at hc
            have hc' : (97 ≤ (s[k].toNat : Int) ∧ 122 < (s[k].toNat : Int)) ∨ (s[k].toNat : Int) < 97 := by omega
            clear hc hlo
            rcases hc' with ⟨g1, g2⟩ | g1
            all_goals
              go_wp2_with fail
              go_meet
              exact ⟨s[k], rfl, rfl, (plain_self hok.out).1, (plain_self hok.out).2, M1.out⟩
          · have hup := Lib.hid (plain_up hlo)
            have hc := hlo
            rw [low_iff, decide_eq_true_iff] at hc
            obtain ⟨g1, g2⟩ := hc
            have e2 : ((s[k] - 32).toNat : Int) = (s[k].toNat : Int) - 32 := by
              rw [UInt8.toNat_sub_of_le _ _ (by rw [UInt8.le_iff_toNat_le]; show 32 ≤ _; omega)]
              show ((s[k].toNat - 32 : Nat) : Int) = _
              omega
            have HE := Lib.hid e2; clear hlo e2
            go_wp2_with fail
            refine (one_any D _ 3 M1.out.deck (by omega) (by omega)).mono ?_
            rintro e w2 ⟨u, rfl, mv⟩
            have M2 := Lib.hid (M1.out.trans mv); clear mv
            cases u
            · go_wp2_with fail
              go_meet
              exact ⟨s[k], rfl, rfl, (plain_self hok.out).1, (plain_self hok.out).2, M2.out⟩
            · go_wp2_with fail
              go_meet
              exact ⟨s[k] - 32, rfl, by rw [HE.out], hup.out.1, hup.out.2, M2.out⟩
        case rest =>
          obtain ⟨x, rfl, rfl, hx1, hx2, m3⟩ := hcut
          have HX1 := Lib.hid hx1; have HX2 := Lib.hid hx2; have M3 := Lib.hid m3
          clear hx1 hx2 m3
          have hcv := one_byte wc x
          go_wp2_with fail
          refine (one_any D _ 20 (M3.out.alloc _).deck (by omega) (by omega)).mono ?_
          rintro e w2 ⟨u, rfl, mv⟩
          have M4 := Lib.hid ((M3.out.alloc _).trans mv)
          have K1 := Lib.hid (show DressMid D w s.data.toList (k + 1) (ol ++ [x]) w2 from ⟨by rw [ht.out]; exact HT.out.byte HX1.out HX2.out, M4.out⟩)
          have K2 := Lib.hid (show DressMid D w s.data.toList (k + 1) (ol ++ [x] ++ [39]) w2 from ⟨by rw [ht.out]; exact HT.out.mark HX1.out HX2.out, M4.out⟩)
          clear mv hcv
          cases u
          · go_wp2_with fail
            go_roundw
            case rel => exact ⟨k + 1, ol ++ [x], rfl, by go_num, by omega, K1.out⟩
            case measure => simp [intOf]; omega
          · by_cases h2 : k + 1 < s.size
            · have e2 : decide ((k : Int) + 1 < s.size) = true := by simp; omega
              by_cases hs2 : s[k + 1] = 32
              · have e3 : ((s[k + 1].toNat : Int) != 32) = false := by rw [hs2]; rfl
                clear hs2
                go_wp2_with fail
                go_roundw
                case rel => exact ⟨k + 1, ol ++ [x], rfl, by go_num, by omega, K1.out⟩
                case measure => simp [intOf]; omega
              · have e3 : ((s[k + 1].toNat : Int) != 32) = true := by
                  simp only [bne_iff_ne, ne_eq]; intro e; apply hs2; rw [← UInt8.toNat_inj]; simp; omega
                clear hs2
                go_wp2_with fail
                go_roundw
                case rel => exact ⟨k + 1, ol ++ [x] ++ [39], by simp, by go_num, by omega, K2.out⟩
                case measure => simp [intOf]; omega
            · have e2 : decide ((k : Int) + 1 < s.size) = false := by simp; omega
              go_wp2_with fail
              go_roundw
              case rel => exact ⟨k + 1, ol ++ [x], rfl, by go_num, by omega, K1.out⟩
              case measure => simp [intOf]; omega
    · have hq : decide ((k : Int) < s.size) = false := by simp; omega
      rw [List.take_of_length_le (by rw [HL.out]; omega)] at HT
      go_wp2_with fail
      refine (pick_new D _ w dressC 4 rfl (by omega) (by omega) M1.out).mono ?_
      rintro e w2 ⟨x, rfl, hx, mv⟩
      have hxl := dressC_len hx
      have M2 := Lib.hid mv; have HO := Lib.hid (HT.out.done hx)
      clear mv hx
      go_wp2_with fail
      go_ret
      exact ⟨ol ++ x, rfl, HO.out, M2.out⟩
end Go.Proofs.YtmakailcpkogdaaGreatDoor
end
section
/- recordlinkmake: Raw, Text: some text of bounded length. -/
set_option linter.unusedSimpArgs false
set_option linter.unusedVariables false
set_option maxRecDepth 100000
namespace Go.Proofs.YtmakailcpkogdaaGreatDoor
open Go.RowKit
attribute [local go_sem] toList_mk mk_size str_append
def codesD : List (List UInt8) := [[83, 87, 49, 32, 49, 65, 65], [56, 48, 48, 49], [56, 48, 32, 48, 50], [97, 45, 49]]
def addrsD : List (List UInt8) := [[49, 50, 32, 77, 97, 105, 110, 32, 83, 116, 46], [77, 97, 105, 110, 32, 83, 116, 32, 49, 50], [80, 97, 114, 107, 32, 82, 100, 32, 51, 98], [77, 97, 105, 110, 32, 83, 116, 114, 101, 101, 116], [48, 48, 55, 32, 80, 97, 114, 107, 32, 114, 100]]
def peopleD : List (List UInt8) := [[114, 111, 98, 101, 114, 116, 32, 115, 109, 105, 116, 104], [98, 111, 98, 32, 115, 109, 105, 116, 104], [114, 117, 112, 101, 114, 116], [97, 110, 110, 97, 32, 109, 105, 108, 108, 101, 114], [97, 110, 110], [111, 110, 101, 105, 108, 108], [109, 97, 114, 105, 97, 32, 118, 97, 110, 32, 115, 109, 105, 116, 104], [112, 101, 116, 101, 114]]
theorem pick_le {D N : Nat} {L : List (List UInt8)} {w w' : World} {e : Ending} (h : PickPost D L w e w') (hL : (L.all fun t => decide (t.length ≤ N)) = true) : SomeText D N w e w' := by
  obtain ⟨l, he, hl, hm⟩ := h
  exact ⟨l, he, by simpa using List.all_eq_true.1 hL l hl, hm⟩
theorem people_ok {x : List UInt8} (h : x ∈ peopleD) : (∀ b ∈ x, okB b = true) ∧ x.length ≤ 15 := by
  have : (peopleD.all fun t => t.all okB && decide (t.length ≤ 15)) = true := by decide
  have := List.all_eq_true.1 this x h
  rw [Bool.and_eq_true, List.all_eq_true, decide_eq_true_iff] at this
  exact this
theorem written_len (y m d f : Int) : (writtenL y m d f).length = 10 := by
  unfold writtenL
  split
  · simp [dg_len]
  · split <;> simp [dg_len]
set_option maxHeartbeats 4000000 in
theorem raw_deal (D : Nat) (k : Int) (w : World) (h : DeckAt w D) :
    Calls Tryz.prog 75 #[.pointer (some ⟨D, 0, none⟩), .int .i64 k] w (SomeText D 64 w) := by
  have M0 := Lib.hid (Moved.start h); clear h
  by_cases h2 : k = 2
  · subst h2
    go_enter Tryz.func75, Tryz.ntmps75
    go_wp2_with fail
    refine (one_any D _ 8 M0.out.deck (by omega) (by omega)).mono ?_
    rintro e w1 ⟨u, rfl, mv⟩
    have M1 := Lib.hid (M0.out.trans mv); clear mv
    cases u
    · go_wp2_with fail
      refine (next_any D _ 2 M1.out.deck (by omega) (by omega)).mono ?_
      rintro e w2 ⟨y, rfl, y0, y1, mv⟩
      have M2 := Lib.hid (M1.out.trans mv); clear mv
      go_wp2_with fail
      refine (next_any D _ 3 M2.out.deck (by omega) (by omega)).mono ?_
      rintro e w3 ⟨m, rfl, m0, m1, mv⟩
      have M3 := Lib.hid (M2.out.trans mv); clear mv
      go_wp2_with fail
      refine (next_any D _ 3 M3.out.deck (by omega) (by omega)).mono ?_
      rintro e w4 ⟨d, rfl, d0, d1, mv⟩
      have M4 := Lib.hid (M3.out.trans mv); clear mv
      go_wp2_with fail
      refine (next_any D _ 3 M4.out.deck (by omega) (by omega)).mono ?_
      rintro e w5 ⟨f, rfl, f0, f1, mv⟩
      have M5 := Lib.hid (M4.out.trans mv); clear mv
      go_wp2_with fail
      refine (written_any (1980 + y) (1 + m) (1 + d) f _ (by omega) (by omega)).mono ?_
      rintro e w6 ⟨rfl, hb⟩
      have M6 := Lib.hid (M5.out.below hb); clear hb
      go_wp2_with fail
      go_ret
      exact ⟨_, rfl, by rw [written_len]; omega, M6.out⟩
    · go_wp2_with fail
      go_ret
      exact ⟨[], rfl, by simp, M1.out⟩
  · have e2 : (k == 2) = false := by simpa using h2
    by_cases h3 : k = 3
    · subst h3
      clear h2 e2
      go_enter Tryz.func75, Tryz.ntmps75
      go_wp2_with fail
      refine (one_any D _ 8 M0.out.deck (by omega) (by omega)).mono ?_
      rintro e w1 ⟨u, rfl, mv⟩
      have M1 := Lib.hid (M0.out.trans mv); clear mv
      cases u
      · go_wp2_with fail
        refine (pick_new D _ w codesD 4 rfl (by omega) (by omega) M1.out).mono ?_
        intro e w2 hp
        obtain ⟨x, rfl, hx, mv⟩ := pick_le (N := 64) hp (by decide)
        have HX := Lib.hid hx; have M2 := Lib.hid mv
        clear hx mv hp
        go_wp2_with fail
        go_ret
        exact ⟨x, rfl, HX.out, M2.out⟩
      · go_wp2_with fail
        go_ret
        exact ⟨[], rfl, by simp, M1.out⟩
    · have e3 : (k == 3) = false := by simpa using h3
      by_cases h4 : k = 4
      · subst h4
        clear h2 e2 h3 e3
        go_enter Tryz.func75, Tryz.ntmps75
        go_wp2_with fail
        refine (one_any D _ 8 M0.out.deck (by omega) (by omega)).mono ?_
        rintro e w1 ⟨u, rfl, mv⟩
        have M1 := Lib.hid (M0.out.trans mv); clear mv
        cases u
        · go_wp2_with fail
          refine (pick_new D _ w addrsD 5 rfl (by omega) (by omega) M1.out).mono ?_
          intro e w2 hp
          obtain ⟨x, rfl, hx, mv⟩ := pick_le (N := 64) hp (by decide)
          have HX := Lib.hid hx; have M2 := Lib.hid mv
          clear hx mv hp
          go_wp2_with fail
          go_ret
          exact ⟨x, rfl, HX.out, M2.out⟩
        · go_wp2_with fail
          go_ret
          exact ⟨[], rfl, by simp, M1.out⟩
      · have e4 : (k == 4) = false := by simpa using h4
        clear h2 h3 h4
        go_enter Tryz.func75, Tryz.ntmps75
        go_wp2_with fail
        refine (one_any D _ 8 M0.out.deck (by omega) (by omega)).mono ?_
        rintro e w1 ⟨u, rfl, mv⟩
        have M1 := Lib.hid (M0.out.trans mv); clear mv
        cases u
        · go_wp2_with fail
          refine (pick_new D _ w peopleD 8 rfl (by omega) (by omega) M1.out).mono ?_
          rintro e w2 ⟨x, rfl, hx, mv⟩
          obtain ⟨p1, p2⟩ := people_ok hx
          have P1 := Lib.hid p1; have M2 := Lib.hid mv
          clear hx mv p1
          go_wp2_with fail
          refine (dress_any D ⟨x.toArray⟩ _ M2.out.deck (by simpa using P1.out) (by rw [mk_size]; omega)).mono ?_
          rintro e w3 ⟨o, rfl, ho, mv⟩
          have M3 := Lib.hid (M2.out.trans mv)
          have HO := Lib.hid (show o.length ≤ 64 by have := ho.len; simp at this; omega)
          clear mv ho
          go_wp2_with fail
          go_ret
          exact ⟨o, rfl, HO.out, M3.out⟩
        · go_wp2_with fail
          go_ret
          exact ⟨[], rfl, by simp, M1.out⟩
end Go.Proofs.YtmakailcpkogdaaGreatDoor
end
section
/- encode, the program's: the key of a field. -/
set_option linter.unusedSimpArgs false
set_option linter.unusedVariables false
set_option maxRecDepth 100000
namespace Go.Proofs.YtmakailcpkogdaaGreatDoor
open Go.RowKit
attribute [local go_sem] toList_mk mk_size str_append
theorem digs_len (i : Nat) (h : i < 100) : (Lib.decDigits i).length ≤ 2 := by
  have : ∀ j : Fin 100, (Lib.decDigits j).length ≤ 2 := by decide +kernel
  exact this ⟨i, h⟩
def optC (i : Int) (b : Bool) (s : List UInt8) : Array Value := #[.int .i64 i, .bool b, strV s]
set_option maxHeartbeats 4000000 in
theorem derive_any (k : Int × Int) (i : Nat) (b : Bool) (s : List UInt8) (w : World) (hi : i < 100) (hs : s.length ≤ 50000) :
    Calls Tryz.prog 77 #[.agg #[.int .i64 i, .bool b, strV s], .agg #[.int .u64 k.1, .int .u64 k.2]] w fun e w' => e = .returned (.agg #[.int .u64 (keyN k (Lib.decDigits i) b s).1, .int .u64 (keyN k (Lib.decDigits i) b s).2]) ∧ Below w.heap.size w w' := by
  have hd := digs_len i hi
  have hit := fun w => Tryz.strconv_Itoa_small i hi w
  obtain ⟨t, ht⟩ : ∃ t, Lib.decDigits i = t := ⟨_, rfl⟩
  rw [ht] at hd hit ⊢
  have HIt := Lib.hid hit
  obtain ⟨x, hx⟩ : ∃ x, deriveP k.1 k.2 (fieldLabel t) = x := ⟨_, rfl⟩
  have hl1 : ¬ 9223372036854775807 < 5 + t.length := by omega
  have hl2 : ¬ 9223372036854775807 < 5 + s.length := by omega
  have hfl : (fieldLabel t).length ≤ 60000 := by simp [fieldLabel]; omega
  have hsl : (saltLabel s).length ≤ 60000 := by simp [saltLabel]; omega
  obtain ⟨ft, hft⟩ : ∃ ft, fieldLabel t = ft := ⟨_, rfl⟩
  obtain ⟨st, hst⟩ : ∃ st, saltLabel s = st := ⟨_, rfl⟩
  rw [hft] at hx hfl; rw [hst] at hsl
  have hf5 : 102 :: 105 :: 101 :: 108 :: 100 :: t = ft := hft
  have hs5 : 115 :: 97 :: 108 :: 116 :: 61 :: s = st := hst
  have HX := Lib.hid hx; have HFT := Lib.hid hft; have HST := Lib.hid hst
  clear hit ht hx hft hst
  obtain ⟨r, hr⟩ : ∃ r, keyN k t b s = r := ⟨_, rfl⟩
  have hr2 : (bif b then deriveP x.1 x.2 (saltLabel s) else x) = r := by rw [← hr, ← HX.out, ← HFT.out]; rfl
  rw [hr]
  have HR := Lib.hid hr2
  clear hr hr2
  go_enter Tryz.func77, Tryz.ntmps77
  go_wp2_with fail
  refine wp_world (fun W hW => ?_)
  have hb0 : Below w.heap.size w W := by rw [hW]; exact (((Below.refl _ _).alloc (Nat.le_refl _) _).alloc (by simp) _).alloc (by simp; omega) _
  have ho0 : W.heap[w.heap.size]? = some (.cells #[.int .i64 i, .bool b, strV s] 128 (0, 0)) := by rw [hW]; exact blk_old (blk_old (blk_new rfl))
  have hk0 : W.heap[w.heap.size + 1]? = some (.cells #[.int .u64 k.1, .int .u64 k.2] 41 (0, 0)) := by rw [hW]; exact blk_old (blk_new (by simp))
  have hr0 : W.heap[w.heap.size + 2]? = some (.cells #[.int .u64 0, .int .u64 0] 41 (0, 0)) := by rw [hW]; exact blk_new (by simp)
  clear hW
  have HB0 := Lib.hid hb0; have HO0 := Lib.hid ho0; have HK0 := Lib.hid hk0; have HR0 := Lib.hid hr0
  obtain ⟨o0, o1, o2⟩ := cells3 ho0; obtain ⟨k0, k1⟩ := cells2K hk0
  clear hb0 ho0 hk0 hr0
  refine wp_region_noPanic ?_
  refine wp_region_k (by kernel_rfl) (fun w' => w'.cell? ⟨w.heap.size + 1, 0, none⟩ = some (.int .u64 k.1) ∧ w'.cell? ⟨w.heap.size + 1, 1, none⟩ = some (.int .u64 k.2) ∧ w'.cell? ⟨w.heap.size, 0, none⟩ = some (.int .i64 i)) 6 (⟨k0, k1, o0⟩) (fun hHeld => ?_)
  refine wpAnyK_take (i := 0) (v := ?_) rfl (by kernel_rfl) (by kernel_rfl) (by kernel_rfl) (by kernel_rfl) (fun _ _ _ h => h) (Or.inl ⟨by rfl, ?_⟩) (by assumption) ?_
  rotate_left 1
  · (intro wS hSw; (try dsimp only at hSw); go_simp; try with_reducible rfl)
  try simp only [List.getElem_toArray, List.getElem_cons_zero, List.getElem_cons_succ, Act.put, List.setIfInBounds_toArray, List.set_cons_zero, List.set_cons_succ]
  refine wpAnyK_take (i := 1) (v := ?_) rfl (by kernel_rfl) (by kernel_rfl) (by kernel_rfl) (by kernel_rfl) (fun _ _ _ h => h) (Or.inl ⟨by rfl, ?_⟩) (by assumption) ?_
  rotate_left 1
  · (intro wS hSw; (try dsimp only at hSw); go_simp; try with_reducible rfl)
  try simp only [List.getElem_toArray, List.getElem_cons_zero, List.getElem_cons_succ, Act.put, List.setIfInBounds_toArray, List.set_cons_zero, List.set_cons_succ]
  refine wpAnyK_take (i := 2) (v := ?_) rfl (by kernel_rfl) (by kernel_rfl) (by kernel_rfl) (by kernel_rfl) (fun _ _ _ h => h) (Or.inl ⟨by rfl, ?_⟩) (by assumption) ?_
  rotate_left 1
  · (intro wS hSw; (try dsimp only at hSw); go_simp; try with_reducible rfl)
  try simp only [List.getElem_toArray, List.getElem_cons_zero, List.getElem_cons_succ, Act.put, List.setIfInBounds_toArray, List.set_cons_zero, List.set_cons_succ]
  refine wpAnyK_ready (rs := [3]) (by kernel_rfl) (by simp) ?_
  refine AllReadyK.cons rfl (fun K hK => ?_) AllReadyK.nil
  go_simp
  refine (HIt.out _).mono ?_; rintro e w1 ⟨rfl, rfl⟩
  refine shutK hK (⟨k0, k1, o0⟩) (fun hHeld => ?_)
  clear hK K
  try simp only [List.getElem_toArray, List.getElem_cons_zero, List.getElem_cons_succ, Act.put, List.setIfInBounds_toArray, List.set_cons_zero, List.set_cons_succ]
  refine wpAnyK_take (i := 4) (v := ?_) rfl (by kernel_rfl) (by kernel_rfl) (by kernel_rfl) (by kernel_rfl) (fun _ _ _ h => h) (Or.inl ⟨by rfl, ?_⟩) (by assumption) ?_
  rotate_left 1
  · (intro wS hSw; (try dsimp only at hSw); go_simp; try with_reducible rfl)
  try simp only [List.getElem_toArray, List.getElem_cons_zero, List.getElem_cons_succ, Act.put, List.setIfInBounds_toArray, List.set_cons_zero, List.set_cons_succ]
  refine wpAnyK_ready (rs := [5]) (by kernel_rfl) (by simp) ?_
  refine AllReadyK.cons rfl (fun K hK => ?_) AllReadyK.nil
  go_simp
  refine (sderive_any k.1 k.2 ft _ hfl).mono ?_; rw [HX.out]; rintro e w1 ⟨rfl, hb⟩; have hb1 := ((Below.refl W.heap.size W).drew).trans hb; clear hb
  refine shutK hK (⟨(hb1.cell (p := ⟨w.heap.size + 1, 0, none⟩) (lt_of_blk HK0.out)).trans k0, (hb1.cell (p := ⟨w.heap.size + 1, 1, none⟩) (lt_of_blk HK0.out)).trans k1, (hb1.cell (p := ⟨w.heap.size, 0, none⟩) (lt_of_blk HO0.out)).trans o0⟩) (fun hHeld => ?_)
  clear hK K
  try simp only [List.getElem_toArray, List.getElem_cons_zero, List.getElem_cons_succ, Act.put, List.setIfInBounds_toArray, List.set_cons_zero, List.set_cons_succ]
  have hk1 := blk_below hb1 (lt_of_blk HK0.out) HK0.out
  obtain ⟨k2, k3⟩ := cells2K hk1
  have f0 := frozen_of_row _ _ 0 _ _ hk1; have f1 := frozen_of_row _ _ 1 _ _ hk1
  have zk := lt_of_blk hk1
  refine wpAnyK_ready (rs := [6]) (by kernel_rfl) (by simp) ?_
  refine AllReadyK.cons rfl (fun K hK => ?_) AllReadyK.nil
  go_simp
  refine shutK_off hK (by decide) ?_
  clear hK K
  try simp only [List.getElem_toArray, List.getElem_cons_zero, List.getElem_cons_succ, Act.put, List.setIfInBounds_toArray, List.set_cons_zero, List.set_cons_succ]
  refine wpAnyK_done (by kernel_rfl) ?_ _
  refine NoPanic.normal ?_
  clear k2 k3 f0 f1 k0 k1 o0 o1 o2
  refine exitk_world (fun W2 hW2 => ?_)
  have hk2 : W2.heap[w.heap.size + 1]? = some (.cells #[.int .u64 x.1, .int .u64 x.2] 41 (0, 0)) := by rw [hW2]; exact blk_set (i := 1) (v := .int .u64 x.2) (blk_set (i := 0) (v := .int .u64 x.1) hk1)
  have ho2 : W2.heap[w.heap.size]? = some (.cells #[.int .i64 i, .bool b, strV s] 128 (0, 0)) := by rw [hW2]; exact blk_far (blk_far (blk_below hb1 (lt_of_blk HO0.out) HO0.out) (by show w.heap.size ≠ w.heap.size + 1; omega)) (by show w.heap.size ≠ w.heap.size + 1; omega)
  have hr2 : W2.heap[w.heap.size + 2]? = some (.cells #[.int .u64 0, .int .u64 0] 41 (0, 0)) := by rw [hW2]; exact blk_far (blk_far (blk_below hb1 (lt_of_blk HR0.out) HR0.out) (by show w.heap.size + 2 ≠ w.heap.size + 1; omega)) (by show w.heap.size + 2 ≠ w.heap.size + 1; omega)
  have hb2 : Below w.heap.size w W2 := by rw [hW2]; exact ((HB0.out.trans (hb1.mono HB0.out.size)).setCell (p := ⟨w.heap.size + 1, 0, none⟩) (Nat.le_succ _) _).setCell (p := ⟨w.heap.size + 1, 1, none⟩) (Nat.le_succ _) _
  clear hW2 hb1 hk1 zk hHeld HB0 HO0 HK0 HR0
  have HB2 := Lib.hid hb2; have HR2 := Lib.hid hr2; have HK2 := Lib.hid hk2
  obtain ⟨o0, o1, o2⟩ := cells3 ho2; obtain ⟨k0, k1⟩ := cells2K hk2
  have zo := lt_of_blk ho2; have zk := lt_of_blk hk2; have zr := lt_of_blk hr2
  clear hb2 hr2 hk2 ho2
  cases b
  · obtain ⟨r0, r1⟩ := cells2K HR2.out
    have f0 := frozen_of_row _ _ 0 _ _ HR2.out; have f1 := frozen_of_row _ _ 1 _ _ HR2.out
    go_wp2_with fail
    rw [← show x = r from HR.out]
    exact bodyPost_row1 rfl rfl (blk_set (i := 1) (v := .int .u64 x.2) (blk_set (i := 0) (v := .int .u64 x.1) HR2.out)) Tryz.underlying41 rfl (by kernel_rfl)
      ⟨rfl, (HB2.out.setCell (p := ⟨w.heap.size + 2, 0, none⟩) (by show w.heap.size ≤ w.heap.size + 2; omega) _).setCell (p := ⟨w.heap.size + 2, 1, none⟩) (by show w.heap.size ≤ w.heap.size + 2; omega) _⟩
  · go_wp2_with fail
    refine (sderive_any x.1 x.2 st _ hsl).mono ?_
    rw [show deriveP x.1 x.2 st = r by rw [← HST.out]; exact HR.out]
    rintro e w3 ⟨rfl, hb⟩
    have hk3 := blk_below hb (lt_of_blk HK2.out) HK2.out
    have hr3 := blk_below hb (lt_of_blk HR2.out) HR2.out
    have HB3 := Lib.hid (HB2.out.trans (hb.mono HB2.out.size)); have HR3 := Lib.hid hr3
    obtain ⟨k2, k3⟩ := cells2K hk3
    have f2 := frozen_of_row _ _ 0 _ _ hk3; have f3 := frozen_of_row _ _ 1 _ _ hk3
    obtain ⟨r0, r1⟩ := cells2K hr3
    have f0 := frozen_of_row _ _ 0 _ _ hr3; have f1 := frozen_of_row _ _ 1 _ _ hr3
    have zk3 := lt_of_blk hk3; have zr3 := lt_of_blk hr3
    clear hb hk3 hr3 o0 o1 o2 k0 k1
    go_wp2_with fail
    exact bodyPost_row1 rfl rfl (blk_set (i := 1) (v := .int .u64 r.2) (blk_set (i := 0) (v := .int .u64 r.1) (blk_far (blk_far HR3.out (by show w.heap.size + 2 ≠ w.heap.size + 1; omega)) (by show w.heap.size + 2 ≠ w.heap.size + 1; omega)))) Tryz.underlying41 rfl (by kernel_rfl)
      ⟨rfl, (((HB3.out.setCell (p := ⟨w.heap.size + 1, 0, none⟩) (Nat.le_succ _) _).setCell (p := ⟨w.heap.size + 1, 1, none⟩) (Nat.le_succ _) _).setCell (p := ⟨w.heap.size + 2, 0, none⟩) (by show w.heap.size ≤ w.heap.size + 2; omega) _).setCell (p := ⟨w.heap.size + 2, 1, none⟩) (by show w.heap.size ≤ w.heap.size + 2; omega) _⟩
set_option maxHeartbeats 4000000 in
theorem fieldkey_any (k : Int × Int) (i : Nat) (b : Bool) (s : List UInt8) (w : World) (hi : i < 100) (hs : s.length ≤ 50000) :
    Calls Tryz.prog 33 #[.agg #[.int .u64 k.1, .int .u64 k.2], .int .i64 i, .bool b, strV s] w fun e w' => e = .returned (.agg #[.int .u64 (keyN k (Lib.decDigits i) b s).1, .int .u64 (keyN k (Lib.decDigits i) b s).2]) ∧ Below w.heap.size w w' := by
  obtain ⟨r, hr⟩ : ∃ r, keyN k (Lib.decDigits i) b s = r := ⟨_, rfl⟩
  rw [hr]
  have HR := Lib.hid hr; clear hr
  go_enter Tryz.func33, Tryz.ntmps33
  go_wp2_with fail
  refine (derive_any k i b s _ hi hs).mono ?_
  rw [HR.out]
  rintro e w1 ⟨rfl, hb⟩
  have HB1 := Lib.hid (((((Below.refl w.heap.size w).alloc (Nat.le_refl _) (.cells #[.int .u64 k.1, .int .u64 k.2] 41)).alloc (by simp) (.cells #[.int .u64 0, .int .u64 0] 41))).trans (hb.mono (by simp; omega)))
  have hr1 := blk_below (b := w.heap.size + 1) (o := .cells #[.int .u64 0, .int .u64 0] 41 (0, 0)) hb (by simp) (blk_new (by simp))
  have HR1 := Lib.hid hr1
  obtain ⟨r0, r1⟩ := cells2K hr1
  have f0 := frozen_of_row _ _ 0 _ _ hr1; have f1 := frozen_of_row _ _ 1 _ _ hr1
  have zr := lt_of_blk hr1
  clear hb hr1
  go_wp2_with fail
  exact bodyPost_row1 rfl rfl (blk_set (i := 1) (v := .int .u64 r.2) (blk_set (i := 0) (v := .int .u64 r.1) HR1.out)) Tryz.underlying41 rfl (by kernel_rfl)
    ⟨rfl, (HB1.out.setCell (p := ⟨w.heap.size + 1, 0, none⟩) (Nat.le_succ _) _).setCell (p := ⟨w.heap.size + 1, 1, none⟩) (Nat.le_succ _) _⟩
end Go.Proofs.YtmakailcpkogdaaGreatDoor
end
section
/- encode, the program's: the array of a field. -/
set_option linter.unusedSimpArgs false
set_option linter.unusedVariables false
set_option maxRecDepth 100000
namespace Go.Proofs.YtmakailcpkogdaaGreatDoor
open Go.RowKit Cal
attribute [local go_sem] toList_mk mk_size str_append
theorem vec_str {w : World} {S : Nat → Prop} {a : Option Addr} {n cap : Nat} {L : List (List UInt8)} (h : Vec w S 1 encS (.slice a n cap) L) (j : Nat) (hj : j < L.length) : ∃ b off, a = some ⟨b, off, none⟩ ∧ b < w.heap.size ∧ w.cell? ⟨b, off + j, none⟩ = some (strV (L.getD j [])) := by
  obtain ⟨b, off, e, hb, hc⟩ := h.get j hj
  refine ⟨b, off, e, hb, ?_⟩
  have := hc 0 _ rfl
  rw [Nat.mul_one, Nat.add_zero] at this
  rw [List.getD, List.getElem?_eq_getElem hj]; exact this
def FieldPost (b : BitsL) (w : World) (e : Ending) (w' : World) : Prop := ∃ v, e = .returned (.tuple #[v, .int .i64 0]) ∧ BitsAt w' (fun x => w.heap.size ≤ x) v b ∧ Below w.heap.size w w'
/-- what a field's array needs: the schema, a normal record, valid parameters -/
structure FieldIn (s : SchemaL) (p : ParL) (vals : List (List UInt8)) (i : Nat) : Prop where
  par : ParOk p
  salt : p.salt < vals.length
  at_ : i < vals.length
  five : vals.length ≤ 5
  kind : (findN s i).2 = 0
  norm : normalB s i (vals.getD i []) = true
  short : ∀ v ∈ vals, v.length ≤ 64
/-- where encode.field stands: its boxes -/
structure FldAt (w : World) (vf vt vn vs : Value) (p : ParL) (k : Int × Int) (id ver : Int) (sv : Value) (W : World) : Prop where
  s : W.heap[w.heap.size]? = some (.cells #[vf, vt, vn, vs] 36 (0, 0))
  p : W.heap[w.heap.size + 1]? = some (.cells (parC p) 64 (0, 0))
  k : W.heap[w.heap.size + 2]? = some (.cells #[.int .u64 k.1, .int .u64 k.2] 41 (0, 0))
  r : W.heap[w.heap.size + 3]? = some (.cells #[.int .i64 id, .int .i64 ver, sv] 49 (0, 0))
  z : W.heap[w.heap.size + 4]? = some (.cells #[.int .i64 0, .slice none 0 0] 68 (0, 0))
  b : Below w.heap.size w W
theorem FldAt.below {w : World} {vf vt vn vs : Value} {p : ParL} {k : Int × Int} {id ver : Int} {sv : Value} {W W' : World} (h : FldAt w vf vt vn vs p k id ver sv W) (hb : Below W.heap.size W W') : FldAt w vf vt vn vs p k id ver sv W' :=
  ⟨blk_below hb (lt_of_blk h.1) h.1, blk_below hb (lt_of_blk h.2) h.2, blk_below hb (lt_of_blk h.3) h.3, blk_below hb (lt_of_blk h.4) h.4, blk_below hb (lt_of_blk h.5) h.5, h.6.trans (hb.mono h.6.size)⟩
theorem FldAt.start (w : World) (vf vt vn vs : Value) (p : ParL) (k : Int × Int) (id ver : Int) (sv : Value) : FldAt w vf vt vn vs p k id ver sv (((((w.alloc (.cells #[vf, vt, vn, vs] 36)).alloc (.cells (parC p) 64)).alloc (.cells #[.int .u64 k.1, .int .u64 k.2] 41)).alloc (.cells #[.int .i64 id, .int .i64 ver, sv] 49)).alloc (.cells #[.int .i64 0, .slice none 0 0] 68)) :=
  ⟨blk_old (blk_old (blk_old (blk_old (blk_new rfl)))), blk_old (blk_old (blk_old (blk_new (by simp)))), blk_old (blk_old (blk_new (by simp))), blk_old (blk_new (by simp)), blk_new (by simp),
    (((((Below.refl w.heap.size w).alloc (Nat.le_refl _) _).alloc (by simp) _).alloc (by simp; omega) _).alloc (by simp; omega) _).alloc (by simp; omega) _⟩
set_option maxHeartbeats 8000000 in
theorem field_yes (S T : Nat → Prop) (vf vt vn vs : Value) (s : SchemaL) (p : ParL) (k : Int × Int) (id ver : Int) (sv : Value) (vals : List (List UInt8)) (i : Nat) (w : World) (h : SchemaAt w S vf vt vn vs s) (hv : Vec w T 1 encS sv vals) (hf : FieldIn s p vals i) :
    Calls Tryz.prog 128 #[.agg #[vf, vt, vn, vs], .agg (parC p), .agg #[.int .u64 k.1, .int .u64 k.2], .agg #[.int .i64 id, .int .i64 ver, sv], .int .i64 i] w (FieldPost (fieldN s p k vals i) w) := by
  obtain ⟨a, cap, rfl⟩ := hv.slice
  obtain ⟨b, off, rfl, hb, hc⟩ := vec_str hv i hf.at_
  obtain ⟨x, hx⟩ : ∃ x, vals.getD i [] = x := ⟨_, rfl⟩
  have hnorm := hf.norm; have hfi := hf.at_; have h5 := hf.five
  rw [hx] at hc hnorm
  have HC := Lib.hid hc
  have HB := Lib.hid hb
  have hb0 := hb
  by_cases hx0 : x = []
  · have hfn : fieldN s p k vals i = noBits := by unfold fieldN; rw [hx, if_pos hx0]
    rw [hfn]
    subst hx0
    clear hfn hx hnorm hf h hv hc
    go_enter Tryz.func128, Tryz.ntmps128
    go_upto_region 1 with (fail)
    refine wp_world (fun W hW => ?_)
    have hF : FldAt w vf vt vn vs p k id ver (.slice (some ⟨b, off, none⟩) vals.length cap) W := by rw [hW]; exact FldAt.start _ _ _ _ _ _ _ _ _ _
    clear hW
    have HF := Lib.hid hF
    have hc1 := (hF.b.cell (p := ⟨b, off + i, none⟩) hb).trans HC.out
    obtain ⟨r0, r1, r2⟩ := cells3 hF.r
    obtain ⟨z0, z1⟩ := cells2K hF.z
    have f0 := frozen_of_row _ _ 0 _ _ hF.z; have f1 := frozen_of_row _ _ 1 _ _ hF.z
    have y1 := lt_of_blk hF.z
    clear hF
    go_wp2_with fail
    exact bodyPost_row2 rfl rfl (blk_set (i := 1) (v := .slice none 0 0) (blk_set (i := 0) (v := .int .i64 0) HF.out.z)) Tryz.underlying68 rfl (by kernel_rfl)
      ⟨_, rfl, ⟨_, rfl, Vec.nil _ _ _ _⟩, (HF.out.b.setCell (p := ⟨w.heap.size + 4, 0, none⟩) (by show w.heap.size ≤ w.heap.size + 4; omega) _).setCell (p := ⟨w.heap.size + 4, 1, none⟩) (by show w.heap.size ≤ w.heap.size + 4; omega) _⟩
  · obtain ⟨G, hG⟩ : ∃ G, gramsN s i x = G := ⟨_, rfl⟩
    obtain ⟨g1, g2, g3, g4⟩ := grams_fit hnorm hf.kind
    rw [hG] at g1 g2 g3
    have hex : x.isEmpty = false := by simpa using hx0
    have hex2 : (x == []) = false := by simpa using hx0
    have HS := Lib.hid h.any
    by_cases hsal : 0 ≤ p.salt
    · obtain ⟨q, hq⟩ : ∃ q : Nat, p.salt = q := ⟨p.salt.toNat, by omega⟩
      have hqv : q < vals.length := by have := hf.salt; omega
      obtain ⟨bq, offq, eq, hbq, hcq⟩ := vec_str hv q hqv
      cases eq
      obtain ⟨st, hst⟩ : ∃ st, vals.getD q [] = st := ⟨_, rfl⟩
      have hstl : st.length ≤ 64 := by rw [← hst]; exact hf.short _ (by rw [List.getD, List.getElem?_eq_getElem hqv]; exact List.getElem_mem _)
      rw [hst] at hcq
      have hso : saltOf p vals = st := by unfold saltOf; rw [if_pos hsal, hq, Int.toNat_natCast, hst]
      have hdd : decide (0 ≤ p.salt) = true := by simpa using hsal
      have hql : (q : Int) < (vals.length : Int) := by omega
      have HCQ := Lib.hid hcq; have HQ := Lib.hid hq
      clear hst hcq hbq
      obtain ⟨KX, hK⟩ : ∃ KX, keyN k (Lib.decDigits i) true st = KX := ⟨_, rfl⟩
      obtain ⟨B, hBN⟩ : ∃ B, (bloomN p KX G.1).1 = B := ⟨_, rfl⟩
      have hfn : fieldN s p k vals i = B := by unfold fieldN; rw [hx, if_neg hx0, hso, hdd, hK, hG, hBN]
      rw [hfn]
      have HBN := Lib.hid hBN; clear hBN
      have HFI := Lib.hid hf; have HG := Lib.hid hG; have HKK := Lib.hid hK; have HG3 := Lib.hid g3; have HG1 := Lib.hid g1
      clear hfn hx hnorm hf h hv hc hG hK hso hsal hx0 g1 g3 hdd hq
      go_enter Tryz.func128, Tryz.ntmps128
      go_upto_region 1 with (fail)
      refine wp_world (fun W hW => ?_)
      have hF : FldAt w vf vt vn vs p k id ver (.slice (some ⟨b, off, none⟩) vals.length cap) W := by rw [hW]; exact FldAt.start _ _ _ _ _ _ _ _ _ _
      clear hW
      have HF := Lib.hid hF
      have hc1 := (hF.b.cell (p := ⟨b, off + i, none⟩) hb).trans HC.out
      obtain ⟨r0, r1, r2⟩ := cells3 hF.r
      obtain ⟨p0, p1, p2⟩ := cells3 hF.p
      rw [HQ.out] at p2
      have hcq1 := (hF.b.cell (p := ⟨b, off + q, none⟩) hb0).trans HCQ.out
      have y3 := lt_of_blk hF.r; have y5 := lt_of_blk hF.p; have hbW : b < W.heap.size := Nat.lt_of_lt_of_le hb0 hF.b.size
      obtain ⟨s0, s1, s2, s3⟩ := cellsS hF.s
      have y1 := lt_of_blk hF.z
      clear hF
      go_wp2_with fail
      refine wp_world (fun W1 hW1 => ?_)
      have ho1 : W1.heap[W.heap.size]? = some (.cells #[.int .i64 i, .bool true, strV st] 128 (0, 0)) := by rw [hW1]; exact blk_new rfl
      have hb1 : Below W.heap.size W W1 := by rw [hW1]; exact (Below.refl _ _).alloc (Nat.le_refl _) _
      have hc2 := (hb1.cell (p := ⟨b, off + i, none⟩) (by have := HF.out.b.size; show b < _; omega)).trans hc1
      have HF1 := Lib.hid (HF.out.below hb1); have HO1 := Lib.hid ho1
      have HS1 := Lib.hid (HS.out.below HF1.out.b)
      clear hW1 ho1 hb1 hc1 s0 s1 s2 s3 r0 r1 r2 p0 p1 p2 HF
      obtain ⟨s0, s1, s2, s3⟩ := cellsS HF1.out.s
      have r2 := (cells3 HF1.out.r).2.2
      have y2 := lt_of_blk HO1.out
      refine wp_region_noPanic ?_
      refine wp_region_held_drew (S := (fun w' => w'.cell? ⟨w.heap.size, 0, none⟩ = some vf ∧ w'.cell? ⟨w.heap.size, 1, none⟩ = some vt ∧ w'.cell? ⟨w.heap.size, 2, none⟩ = some vn ∧ w'.cell? ⟨w.heap.size, 3, none⟩ = some vs ∧ w'.cell? ⟨w.heap.size + 3, 2, none⟩ = some (.slice (some ⟨b, off, none⟩) vals.length cap) ∧ w'.cell? ⟨b, off + i, none⟩ = some (strV x))) (by kernel_rfl) (⟨s0, s1, s2, s3, r2, hc2⟩) (fun hHeld => ?_)
      refine wpAnyH_take (i := 0) (v := ?_) rfl (by kernel_rfl) (by kernel_rfl) (by kernel_rfl) (fun _ _ _ h => h) (Or.inl ⟨by rfl, ?_⟩) (by assumption) ?_
      rotate_left 1
      · (intro wS hSw; (try dsimp only at hSw); go_simp; try with_reducible rfl)
      try simp only [List.getElem_toArray, List.getElem_cons_zero, List.getElem_cons_succ, Act.put, List.setIfInBounds_toArray, List.set_cons_zero, List.set_cons_succ]
      refine wpAnyH_take (i := 1) (v := ?_) rfl (by kernel_rfl) (by kernel_rfl) (by kernel_rfl) (fun _ _ _ h => h) (Or.inl ⟨by rfl, ?_⟩) (by assumption) ?_
      rotate_left 1
      · (intro wS hSw; (try dsimp only at hSw); go_simp; try with_reducible rfl)
      try simp only [List.getElem_toArray, List.getElem_cons_zero, List.getElem_cons_succ, Act.put, List.setIfInBounds_toArray, List.set_cons_zero, List.set_cons_succ]
      refine wpAnyH_take (i := 2) (v := ?_) rfl (by kernel_rfl) (by kernel_rfl) (by kernel_rfl) (fun _ _ _ h => h) (Or.inl ⟨by rfl, ?_⟩) (by assumption) ?_
      rotate_left 1
      · (intro wS hSw; (try dsimp only at hSw); go_simp; try with_reducible rfl)
      try simp only [List.getElem_toArray, List.getElem_cons_zero, List.getElem_cons_succ, Act.put, List.setIfInBounds_toArray, List.set_cons_zero, List.set_cons_succ]
      refine wpAnyH_take (i := 3) (v := ?_) rfl (by kernel_rfl) (by kernel_rfl) (by kernel_rfl) (fun _ _ _ h => h) (Or.inl ⟨by rfl, ?_⟩) (by assumption) ?_
      rotate_left 1
      · (intro wS hSw; (try dsimp only at hSw); go_simp; try with_reducible rfl)
      try simp only [List.getElem_toArray, List.getElem_cons_zero, List.getElem_cons_succ, Act.put, List.setIfInBounds_toArray, List.set_cons_zero, List.set_cons_succ]
      refine wpAnyH_take (i := 4) (v := ?_) rfl (by kernel_rfl) (by kernel_rfl) (by kernel_rfl) (fun _ _ _ h => h) (Or.inl ⟨by rfl, ?_⟩) (by assumption) ?_
      rotate_left 1
      · (intro wS hSw; (try dsimp only at hSw); go_simp; try with_reducible rfl)
      try simp only [List.getElem_toArray, List.getElem_cons_zero, List.getElem_cons_succ, Act.put, List.setIfInBounds_toArray, List.set_cons_zero, List.set_cons_succ]
      refine wpAnyH_take (i := 5) (v := ?_) rfl (by kernel_rfl) (by kernel_rfl) (by kernel_rfl) (fun _ _ _ h => h) (Or.inl ⟨by rfl, ?_⟩) (by assumption) ?_
      rotate_left 1
      · (intro wS hSw; (try dsimp only at hSw); go_simp; try with_reducible rfl)
      try simp only [List.getElem_toArray, List.getElem_cons_zero, List.getElem_cons_succ, Act.put, List.setIfInBounds_toArray, List.set_cons_zero, List.set_cons_succ]
      refine wpAnyH_take (i := 6) (v := ?_) rfl (by kernel_rfl) (by kernel_rfl) (by kernel_rfl) (fun _ _ _ h => h) (Or.inl ⟨by rfl, ?_⟩) (by assumption) ?_
      rotate_left 1
      · (intro wS hSw; (try dsimp only at hSw); go_simp; try with_reducible rfl)
      try simp only [List.getElem_toArray, List.getElem_cons_zero, List.getElem_cons_succ, Act.put, List.setIfInBounds_toArray, List.set_cons_zero, List.set_cons_succ]
      refine wpAnyH_ready (rs := [7]) (by kernel_rfl) (by simp) ?_
      refine AllReadyH.cons rfl (fun K hK => ?_) AllReadyH.nil
      go_simp
      refine (grams_s _ _ _ _ _ s i ⟨x.toArray⟩ _ (HS1.out.below (Below.refl _ _).drew) (by rw [mk_size]; omega)).mono ?_; rw [show (⟨x.toArray⟩ : ByteArray).data.toList = x by simp, HG.out]; rintro e w2 ⟨vg, rfl, hvg, hb2⟩; rw [HG1.out]; have b2 := ((Below.refl W1.heap.size W1).drew).trans hb2; clear hb2
      refine hK.out _ _ (⟨(b2.cell (p := ⟨w.heap.size, 0, none⟩) (lt_of_blk HF1.out.s)).trans s0, (b2.cell (p := ⟨w.heap.size, 1, none⟩) (lt_of_blk HF1.out.s)).trans s1, (b2.cell (p := ⟨w.heap.size, 2, none⟩) (lt_of_blk HF1.out.s)).trans s2, (b2.cell (p := ⟨w.heap.size, 3, none⟩) (lt_of_blk HF1.out.s)).trans s3, (b2.cell (p := ⟨w.heap.size + 3, 2, none⟩) (lt_of_blk HF1.out.r)).trans r2, (b2.cell (p := ⟨b, off + i, none⟩) (by have := HF1.out.b.size; show b < _; omega)).trans hc2⟩) (fun hHeld => ?_)
      clear hK K
      try simp only [List.getElem_toArray, List.getElem_cons_zero, List.getElem_cons_succ, Act.put, List.setIfInBounds_toArray, List.set_cons_zero, List.set_cons_succ]
      refine wpAnyH_take (i := 8) (v := ?_) rfl (by kernel_rfl) (by kernel_rfl) (by kernel_rfl) (fun _ _ _ h => h) (Or.inl ⟨by rfl, ?_⟩) (by assumption) ?_
      rotate_left 1
      · (intro wS hSw; (try dsimp only at hSw); go_simp; try with_reducible rfl)
      try simp only [List.getElem_toArray, List.getElem_cons_zero, List.getElem_cons_succ, Act.put, List.setIfInBounds_toArray, List.set_cons_zero, List.set_cons_succ]
      refine wpAnyH_take (i := 9) (v := ?_) rfl (by kernel_rfl) (by kernel_rfl) (by kernel_rfl) (fun _ _ _ h => h) (Or.inl ⟨by rfl, ?_⟩) (by assumption) ?_
      rotate_left 1
      · (intro wS hSw; (try dsimp only at hSw); go_simp; try with_reducible rfl)
      try simp only [List.getElem_toArray, List.getElem_cons_zero, List.getElem_cons_succ, Act.put, List.setIfInBounds_toArray, List.set_cons_zero, List.set_cons_succ]
      refine wpAnyH_take (i := 10) (v := ?_) rfl (by kernel_rfl) (by kernel_rfl) (by kernel_rfl) (fun _ _ _ h => h) (Or.inl ⟨by rfl, ?_⟩) (by assumption) ?_
      rotate_left 1
      · (intro wS hSw; (try dsimp only at hSw); go_simp; try with_reducible rfl)
      try simp only [List.getElem_toArray, List.getElem_cons_zero, List.getElem_cons_succ, Act.put, List.setIfInBounds_toArray, List.set_cons_zero, List.set_cons_succ]
      refine wpAnyH_take (i := 11) (v := ?_) rfl (by kernel_rfl) (by kernel_rfl) (by kernel_rfl) (fun _ _ _ h => h) (Or.inl ⟨by rfl, ?_⟩) (by assumption) ?_
      rotate_left 1
      · (intro wS hSw; (try dsimp only at hSw); go_simp; try with_reducible rfl)
      try simp only [List.getElem_toArray, List.getElem_cons_zero, List.getElem_cons_succ, Act.put, List.setIfInBounds_toArray, List.set_cons_zero, List.set_cons_succ]
      refine wpAnyH_take (i := 12) (v := ?_) rfl (by kernel_rfl) (by kernel_rfl) (by kernel_rfl) (fun _ _ _ h => h) (Or.inl ⟨by rfl, ?_⟩) (by assumption) ?_
      rotate_left 1
      · (intro wS hSw; (try dsimp only at hSw); go_simp; try with_reducible rfl)
      try simp only [List.getElem_toArray, List.getElem_cons_zero, List.getElem_cons_succ, Act.put, List.setIfInBounds_toArray, List.set_cons_zero, List.set_cons_succ]
      refine wpAnyH_done (by kernel_rfl) ?_ _
      refine NoPanic.normal ?_
      have HF2 := Lib.hid (HF1.out.below b2)
      have HO2 := Lib.hid (blk_below b2 (lt_of_blk HO1.out) HO1.out)
      have HVG := Lib.hid hvg
      obtain ⟨ag, cg, rfl⟩ := hvg.slice
      clear hHeld hc2 s0 s1 s2 s3 r2 y2 y1 b2 hvg HF1 HO1 HS1
      go_wp2_with fail
      refine wp_world (fun W2 hW2 => ?_)
      rw [← hW2] at HF2 HO2 HVG; clear hW2
      obtain ⟨q0, q1, q2⟩ := cells3 HF2.out.p
      obtain ⟨k0, k1⟩ := cells2K HF2.out.k
      obtain ⟨o0, o1, o2⟩ := cells3 HO2.out
      refine wp_region_noPanic ?_
      refine wp_region_k (by kernel_rfl) (fun w' => w'.cell? ⟨w.heap.size + 1, 0, none⟩ = some (.int .i64 p.len) ∧ w'.cell? ⟨w.heap.size + 1, 1, none⟩ = some (.int .i64 p.hashes) ∧ w'.cell? ⟨w.heap.size + 1, 2, none⟩ = some (.int .i64 p.salt) ∧ w'.cell? ⟨w.heap.size + 2, 0, none⟩ = some (.int .u64 k.1) ∧ w'.cell? ⟨w.heap.size + 2, 1, none⟩ = some (.int .u64 k.2) ∧ w'.cell? ⟨W.heap.size, 0, none⟩ = some (.int .i64 i) ∧ w'.cell? ⟨W.heap.size, 1, none⟩ = some (.bool true) ∧ w'.cell? ⟨W.heap.size, 2, none⟩ = some (strV st)) 8 (⟨q0, q1, q2, k0, k1, o0, o1, o2⟩) (fun hHeld => ?_)
      refine wpAnyK_take (i := 0) (v := ?_) rfl (by kernel_rfl) (by kernel_rfl) (by kernel_rfl) (by kernel_rfl) (fun _ _ _ h => h) (Or.inl ⟨by rfl, ?_⟩) (by assumption) ?_
      rotate_left 1
      · (intro wS hSw; (try dsimp only at hSw); go_simp; try with_reducible rfl)
      try simp only [List.getElem_toArray, List.getElem_cons_zero, List.getElem_cons_succ, Act.put, List.setIfInBounds_toArray, List.set_cons_zero, List.set_cons_succ]
      refine wpAnyK_take (i := 1) (v := ?_) rfl (by kernel_rfl) (by kernel_rfl) (by kernel_rfl) (by kernel_rfl) (fun _ _ _ h => h) (Or.inl ⟨by rfl, ?_⟩) (by assumption) ?_
      rotate_left 1
      · (intro wS hSw; (try dsimp only at hSw); go_simp; try with_reducible rfl)
      try simp only [List.getElem_toArray, List.getElem_cons_zero, List.getElem_cons_succ, Act.put, List.setIfInBounds_toArray, List.set_cons_zero, List.set_cons_succ]
      refine wpAnyK_take (i := 2) (v := ?_) rfl (by kernel_rfl) (by kernel_rfl) (by kernel_rfl) (by kernel_rfl) (fun _ _ _ h => h) (Or.inl ⟨by rfl, ?_⟩) (by assumption) ?_
      rotate_left 1
      · (intro wS hSw; (try dsimp only at hSw); go_simp; try with_reducible rfl)
      try simp only [List.getElem_toArray, List.getElem_cons_zero, List.getElem_cons_succ, Act.put, List.setIfInBounds_toArray, List.set_cons_zero, List.set_cons_succ]
      refine wpAnyK_take (i := 4) (v := ?_) rfl (by kernel_rfl) (by kernel_rfl) (by kernel_rfl) (by kernel_rfl) (fun _ _ _ h => h) (Or.inl ⟨by rfl, ?_⟩) (by assumption) ?_
      rotate_left 1
      · (intro wS hSw; (try dsimp only at hSw); go_simp; try with_reducible rfl)
      try simp only [List.getElem_toArray, List.getElem_cons_zero, List.getElem_cons_succ, Act.put, List.setIfInBounds_toArray, List.set_cons_zero, List.set_cons_succ]
      refine wpAnyK_ready (rs := [3]) (by kernel_rfl) (by simp) ?_
      refine AllReadyK.cons rfl (fun K hK => ?_) AllReadyK.nil
      go_simp
      refine (derive_any k i true st _ (by omega) (by omega)).mono ?_; rw [HKK.out]; rintro e w3 ⟨rfl, hb3⟩; have b3 := ((Below.refl W2.heap.size W2).drew).trans hb3; clear hb3
      refine shutK hK (⟨(b3.cell (p := ⟨w.heap.size + 1, 0, none⟩) (lt_of_blk HF2.out.p)).trans q0, (b3.cell (p := ⟨w.heap.size + 1, 1, none⟩) (lt_of_blk HF2.out.p)).trans q1, (b3.cell (p := ⟨w.heap.size + 1, 2, none⟩) (lt_of_blk HF2.out.p)).trans q2, (b3.cell (p := ⟨w.heap.size + 2, 0, none⟩) (lt_of_blk HF2.out.k)).trans k0, (b3.cell (p := ⟨w.heap.size + 2, 1, none⟩) (lt_of_blk HF2.out.k)).trans k1, (b3.cell (p := ⟨W.heap.size, 0, none⟩) (lt_of_blk HO2.out)).trans o0, (b3.cell (p := ⟨W.heap.size, 1, none⟩) (lt_of_blk HO2.out)).trans o1, (b3.cell (p := ⟨W.heap.size, 2, none⟩) (lt_of_blk HO2.out)).trans o2⟩) (fun hHeld => ?_)
      clear hK K
      try simp only [List.getElem_toArray, List.getElem_cons_zero, List.getElem_cons_succ, Act.put, List.setIfInBounds_toArray, List.set_cons_zero, List.set_cons_succ]
      refine wpAnyK_ready (rs := [5]) (by kernel_rfl) (by simp) ?_
      refine AllReadyK.cons rfl (fun K hK => ?_) AllReadyK.nil
      go_simp
      refine (bencode_yes Any1 p KX _ G.1 _ HFI.out.par (HVG.out.below b3) (fun g hg => Nat.le_trans (HG3.out g hg) (by decide)) g2).mono ?_; rw [HBN.out]; rintro e w4 ⟨_, rfl, ⟨sb, rfl, hvb⟩, hb4⟩; have b4 := b3.trans (hb4.mono b3.size); have HVB := Lib.hid hvb; obtain ⟨ab, cb, rfl⟩ := hvb.slice; clear hb4 hvb
      refine shutK hK (⟨(b4.cell (p := ⟨w.heap.size + 1, 0, none⟩) (lt_of_blk HF2.out.p)).trans q0, (b4.cell (p := ⟨w.heap.size + 1, 1, none⟩) (lt_of_blk HF2.out.p)).trans q1, (b4.cell (p := ⟨w.heap.size + 1, 2, none⟩) (lt_of_blk HF2.out.p)).trans q2, (b4.cell (p := ⟨w.heap.size + 2, 0, none⟩) (lt_of_blk HF2.out.k)).trans k0, (b4.cell (p := ⟨w.heap.size + 2, 1, none⟩) (lt_of_blk HF2.out.k)).trans k1, (b4.cell (p := ⟨W.heap.size, 0, none⟩) (lt_of_blk HO2.out)).trans o0, (b4.cell (p := ⟨W.heap.size, 1, none⟩) (lt_of_blk HO2.out)).trans o1, (b4.cell (p := ⟨W.heap.size, 2, none⟩) (lt_of_blk HO2.out)).trans o2⟩) (fun hHeld => ?_)
      clear hK K
      try simp only [List.getElem_toArray, List.getElem_cons_zero, List.getElem_cons_succ, Act.put, List.setIfInBounds_toArray, List.set_cons_zero, List.set_cons_succ]
      refine wpAnyK_take (i := 6) (v := ?_) rfl (by kernel_rfl) (by kernel_rfl) (by kernel_rfl) (by kernel_rfl) (fun _ _ _ h => h) (Or.inl ⟨by rfl, ?_⟩) (by assumption) ?_
      rotate_left 1
      · (intro wS hSw; (try dsimp only at hSw); go_simp; try with_reducible rfl)
      try simp only [List.getElem_toArray, List.getElem_cons_zero, List.getElem_cons_succ, Act.put, List.setIfInBounds_toArray, List.set_cons_zero, List.set_cons_succ]
      refine wpAnyK_take (i := 7) (v := ?_) rfl (by kernel_rfl) (by kernel_rfl) (by kernel_rfl) (by kernel_rfl) (fun _ _ _ h => h) (Or.inl ⟨by rfl, ?_⟩) (by assumption) ?_
      rotate_left 1
      · (intro wS hSw; (try dsimp only at hSw); go_simp; try with_reducible rfl)
      try simp only [List.getElem_toArray, List.getElem_cons_zero, List.getElem_cons_succ, Act.put, List.setIfInBounds_toArray, List.set_cons_zero, List.set_cons_succ]
      have hz4 := blk_below b4 (lt_of_blk HF2.out.z) HF2.out.z
      obtain ⟨z0, z1⟩ := cells2K hz4
      have f0 := frozen_of_row _ _ 0 _ _ hz4; have f1 := frozen_of_row _ _ 1 _ _ hz4
      have y4 := lt_of_blk hz4
      refine wpAnyK_ready (rs := [8]) (by kernel_rfl) (by simp) ?_
      refine AllReadyK.cons rfl (fun K hK => ?_) AllReadyK.nil
      go_simp
      refine shutK_off hK (by decide) ?_
      clear hK K
      try simp only [List.getElem_toArray, List.getElem_cons_zero, List.getElem_cons_succ, Act.put, List.setIfInBounds_toArray, List.set_cons_zero, List.set_cons_succ]
      refine wpAnyK_ready (rs := [9]) (by kernel_rfl) (by simp) ?_
      refine AllReadyK.cons rfl (fun K hK => ?_) AllReadyK.nil
      go_simp
      refine shutK_off hK (by decide) ?_
      clear hK K
      try simp only [List.getElem_toArray, List.getElem_cons_zero, List.getElem_cons_succ, Act.put, List.setIfInBounds_toArray, List.set_cons_zero, List.set_cons_succ]
      refine wpAnyK_done (by kernel_rfl) ?_ _
      refine NoPanic.normal ?_
      go_wp2_with fail
      refine bodyPost_row2 rfl rfl (blk_set (i := 1) (v := .slice ab B.words.length cb) (blk_set (i := 0) (v := .int .i64 B.len) hz4)) Tryz.underlying68 rfl (by kernel_rfl)
        ⟨_, rfl, ⟨_, rfl, ?_⟩, ((HF2.out.b.trans (b4.mono HF2.out.b.size)).setCell (p := ⟨w.heap.size + 4, 0, none⟩) (by show w.heap.size ≤ w.heap.size + 4; omega) _).setCell (p := ⟨w.heap.size + 4, 1, none⟩) (by show w.heap.size ≤ w.heap.size + 4; omega) _⟩
      have hlz := lt_of_blk HF2.out.z
      refine Vec.move HVB.out (by simp [World.setCell]) fun b hb hs => ?_
      have hs' : w3.heap.size ≤ b := hs
      have hz3 := b3.size
      exact ⟨(heap_setCell_other _ _ _ _ (by show b ≠ w.heap.size + 4; omega)).trans (heap_setCell_other _ _ _ _ (by show b ≠ w.heap.size + 4; omega)), by show w.heap.size ≤ b; omega⟩
    · have hso : saltOf p vals = [] := by unfold saltOf; rw [if_neg hsal]
      have hdd : decide (0 ≤ p.salt) = false := by simpa using hsal
      obtain ⟨KX, hK⟩ : ∃ KX, keyN k (Lib.decDigits i) false [] = KX := ⟨_, rfl⟩
      obtain ⟨B, hBN⟩ : ∃ B, (bloomN p KX G.1).1 = B := ⟨_, rfl⟩
      have hfn : fieldN s p k vals i = B := by unfold fieldN; rw [hx, if_neg hx0, hso, hdd, hK, hG, hBN]
      rw [hfn]
      have HBN := Lib.hid hBN; clear hBN
      have hsl : ¬ (0 ≤ p.salt) := hsal
      have HFI := Lib.hid hf; have HG := Lib.hid hG; have HKK := Lib.hid hK; have HG3 := Lib.hid g3; have HG1 := Lib.hid g1
      clear hfn hx hnorm hf h hv hc hG hK hso hsal hx0 g1 g3
      go_enter Tryz.func128, Tryz.ntmps128
      go_upto_region 1 with (fail)
      refine wp_world (fun W hW => ?_)
      have hF : FldAt w vf vt vn vs p k id ver (.slice (some ⟨b, off, none⟩) vals.length cap) W := by rw [hW]; exact FldAt.start _ _ _ _ _ _ _ _ _ _
      clear hW
      have HF := Lib.hid hF
      have hc1 := (hF.b.cell (p := ⟨b, off + i, none⟩) hb).trans HC.out
      obtain ⟨r0, r1, r2⟩ := cells3 hF.r
      obtain ⟨p0, p1, p2⟩ := cells3 hF.p
      obtain ⟨s0, s1, s2, s3⟩ := cellsS hF.s
      have y1 := lt_of_blk hF.z
      clear hF
      go_wp2_with fail
      refine wp_world (fun W1 hW1 => ?_)
      have ho1 : W1.heap[W.heap.size]? = some (.cells #[.int .i64 i, .bool false, strV []] 128 (0, 0)) := by rw [hW1]; exact blk_new rfl
      have hb1 : Below W.heap.size W W1 := by rw [hW1]; exact (Below.refl _ _).alloc (Nat.le_refl _) _
      have hc2 := (hb1.cell (p := ⟨b, off + i, none⟩) (by have := HF.out.b.size; show b < _; omega)).trans hc1
      have HF1 := Lib.hid (HF.out.below hb1); have HO1 := Lib.hid ho1
      have HS1 := Lib.hid (HS.out.below HF1.out.b)
      clear hW1 ho1 hb1 hc1 s0 s1 s2 s3 r0 r1 r2 p0 p1 p2 HF
      obtain ⟨s0, s1, s2, s3⟩ := cellsS HF1.out.s
      have r2 := (cells3 HF1.out.r).2.2
      have y2 := lt_of_blk HO1.out
      refine wp_region_noPanic ?_
      refine wp_region_held_drew (S := (fun w' => w'.cell? ⟨w.heap.size, 0, none⟩ = some vf ∧ w'.cell? ⟨w.heap.size, 1, none⟩ = some vt ∧ w'.cell? ⟨w.heap.size, 2, none⟩ = some vn ∧ w'.cell? ⟨w.heap.size, 3, none⟩ = some vs ∧ w'.cell? ⟨w.heap.size + 3, 2, none⟩ = some (.slice (some ⟨b, off, none⟩) vals.length cap) ∧ w'.cell? ⟨b, off + i, none⟩ = some (strV x))) (by kernel_rfl) (⟨s0, s1, s2, s3, r2, hc2⟩) (fun hHeld => ?_)
      refine wpAnyH_take (i := 0) (v := ?_) rfl (by kernel_rfl) (by kernel_rfl) (by kernel_rfl) (fun _ _ _ h => h) (Or.inl ⟨by rfl, ?_⟩) (by assumption) ?_
      rotate_left 1
      · (intro wS hSw; (try dsimp only at hSw); go_simp; try with_reducible rfl)
      try simp only [List.getElem_toArray, List.getElem_cons_zero, List.getElem_cons_succ, Act.put, List.setIfInBounds_toArray, List.set_cons_zero, List.set_cons_succ]
      refine wpAnyH_take (i := 1) (v := ?_) rfl (by kernel_rfl) (by kernel_rfl) (by kernel_rfl) (fun _ _ _ h => h) (Or.inl ⟨by rfl, ?_⟩) (by assumption) ?_
      rotate_left 1
      · (intro wS hSw; (try dsimp only at hSw); go_simp; try with_reducible rfl)
      try simp only [List.getElem_toArray, List.getElem_cons_zero, List.getElem_cons_succ, Act.put, List.setIfInBounds_toArray, List.set_cons_zero, List.set_cons_succ]
      refine wpAnyH_take (i := 2) (v := ?_) rfl (by kernel_rfl) (by kernel_rfl) (by kernel_rfl) (fun _ _ _ h => h) (Or.inl ⟨by rfl, ?_⟩) (by assumption) ?_
      rotate_left 1
      · (intro wS hSw; (try dsimp only at hSw); go_simp; try with_reducible rfl)
      try simp only [List.getElem_toArray, List.getElem_cons_zero, List.getElem_cons_succ, Act.put, List.setIfInBounds_toArray, List.set_cons_zero, List.set_cons_succ]
      refine wpAnyH_take (i := 3) (v := ?_) rfl (by kernel_rfl) (by kernel_rfl) (by kernel_rfl) (fun _ _ _ h => h) (Or.inl ⟨by rfl, ?_⟩) (by assumption) ?_
      rotate_left 1
      · (intro wS hSw; (try dsimp only at hSw); go_simp; try with_reducible rfl)
      try simp only [List.getElem_toArray, List.getElem_cons_zero, List.getElem_cons_succ, Act.put, List.setIfInBounds_toArray, List.set_cons_zero, List.set_cons_succ]
      refine wpAnyH_take (i := 4) (v := ?_) rfl (by kernel_rfl) (by kernel_rfl) (by kernel_rfl) (fun _ _ _ h => h) (Or.inl ⟨by rfl, ?_⟩) (by assumption) ?_
      rotate_left 1
      · (intro wS hSw; (try dsimp only at hSw); go_simp; try with_reducible rfl)
      try simp only [List.getElem_toArray, List.getElem_cons_zero, List.getElem_cons_succ, Act.put, List.setIfInBounds_toArray, List.set_cons_zero, List.set_cons_succ]
      refine wpAnyH_take (i := 5) (v := ?_) rfl (by kernel_rfl) (by kernel_rfl) (by kernel_rfl) (fun _ _ _ h => h) (Or.inl ⟨by rfl, ?_⟩) (by assumption) ?_
      rotate_left 1
      · (intro wS hSw; (try dsimp only at hSw); go_simp; try with_reducible rfl)
      try simp only [List.getElem_toArray, List.getElem_cons_zero, List.getElem_cons_succ, Act.put, List.setIfInBounds_toArray, List.set_cons_zero, List.set_cons_succ]
      refine wpAnyH_take (i := 6) (v := ?_) rfl (by kernel_rfl) (by kernel_rfl) (by kernel_rfl) (fun _ _ _ h => h) (Or.inl ⟨by rfl, ?_⟩) (by assumption) ?_
      rotate_left 1
      · (intro wS hSw; (try dsimp only at hSw); go_simp; try with_reducible rfl)
      try simp only [List.getElem_toArray, List.getElem_cons_zero, List.getElem_cons_succ, Act.put, List.setIfInBounds_toArray, List.set_cons_zero, List.set_cons_succ]
      refine wpAnyH_ready (rs := [7]) (by kernel_rfl) (by simp) ?_
      refine AllReadyH.cons rfl (fun K hK => ?_) AllReadyH.nil
      go_simp
      refine (grams_s _ _ _ _ _ s i ⟨x.toArray⟩ _ (HS1.out.below (Below.refl _ _).drew) (by rw [mk_size]; omega)).mono ?_; rw [show (⟨x.toArray⟩ : ByteArray).data.toList = x by simp, HG.out]; rintro e w2 ⟨vg, rfl, hvg, hb2⟩; rw [HG1.out]; have b2 := ((Below.refl W1.heap.size W1).drew).trans hb2; clear hb2
      refine hK.out _ _ (⟨(b2.cell (p := ⟨w.heap.size, 0, none⟩) (lt_of_blk HF1.out.s)).trans s0, (b2.cell (p := ⟨w.heap.size, 1, none⟩) (lt_of_blk HF1.out.s)).trans s1, (b2.cell (p := ⟨w.heap.size, 2, none⟩) (lt_of_blk HF1.out.s)).trans s2, (b2.cell (p := ⟨w.heap.size, 3, none⟩) (lt_of_blk HF1.out.s)).trans s3, (b2.cell (p := ⟨w.heap.size + 3, 2, none⟩) (lt_of_blk HF1.out.r)).trans r2, (b2.cell (p := ⟨b, off + i, none⟩) (by have := HF1.out.b.size; show b < _; omega)).trans hc2⟩) (fun hHeld => ?_)
      clear hK K
      try simp only [List.getElem_toArray, List.getElem_cons_zero, List.getElem_cons_succ, Act.put, List.setIfInBounds_toArray, List.set_cons_zero, List.set_cons_succ]
      refine wpAnyH_take (i := 8) (v := ?_) rfl (by kernel_rfl) (by kernel_rfl) (by kernel_rfl) (fun _ _ _ h => h) (Or.inl ⟨by rfl, ?_⟩) (by assumption) ?_
      rotate_left 1
      · (intro wS hSw; (try dsimp only at hSw); go_simp; try with_reducible rfl)
      try simp only [List.getElem_toArray, List.getElem_cons_zero, List.getElem_cons_succ, Act.put, List.setIfInBounds_toArray, List.set_cons_zero, List.set_cons_succ]
      refine wpAnyH_take (i := 9) (v := ?_) rfl (by kernel_rfl) (by kernel_rfl) (by kernel_rfl) (fun _ _ _ h => h) (Or.inl ⟨by rfl, ?_⟩) (by assumption) ?_
      rotate_left 1
      · (intro wS hSw; (try dsimp only at hSw); go_simp; try with_reducible rfl)
      try simp only [List.getElem_toArray, List.getElem_cons_zero, List.getElem_cons_succ, Act.put, List.setIfInBounds_toArray, List.set_cons_zero, List.set_cons_succ]
      refine wpAnyH_take (i := 10) (v := ?_) rfl (by kernel_rfl) (by kernel_rfl) (by kernel_rfl) (fun _ _ _ h => h) (Or.inl ⟨by rfl, ?_⟩) (by assumption) ?_
      rotate_left 1
      · (intro wS hSw; (try dsimp only at hSw); go_simp; try with_reducible rfl)
      try simp only [List.getElem_toArray, List.getElem_cons_zero, List.getElem_cons_succ, Act.put, List.setIfInBounds_toArray, List.set_cons_zero, List.set_cons_succ]
      refine wpAnyH_take (i := 11) (v := ?_) rfl (by kernel_rfl) (by kernel_rfl) (by kernel_rfl) (fun _ _ _ h => h) (Or.inl ⟨by rfl, ?_⟩) (by assumption) ?_
      rotate_left 1
      · (intro wS hSw; (try dsimp only at hSw); go_simp; try with_reducible rfl)
      try simp only [List.getElem_toArray, List.getElem_cons_zero, List.getElem_cons_succ, Act.put, List.setIfInBounds_toArray, List.set_cons_zero, List.set_cons_succ]
      refine wpAnyH_take (i := 12) (v := ?_) rfl (by kernel_rfl) (by kernel_rfl) (by kernel_rfl) (fun _ _ _ h => h) (Or.inl ⟨by rfl, ?_⟩) (by assumption) ?_
      rotate_left 1
      · (intro wS hSw; (try dsimp only at hSw); go_simp; try with_reducible rfl)
      try simp only [List.getElem_toArray, List.getElem_cons_zero, List.getElem_cons_succ, Act.put, List.setIfInBounds_toArray, List.set_cons_zero, List.set_cons_succ]
      refine wpAnyH_done (by kernel_rfl) ?_ _
      refine NoPanic.normal ?_
      have HF2 := Lib.hid (HF1.out.below b2)
      have HO2 := Lib.hid (blk_below b2 (lt_of_blk HO1.out) HO1.out)
      have HVG := Lib.hid hvg
      obtain ⟨ag, cg, rfl⟩ := hvg.slice
      clear hHeld hc2 s0 s1 s2 s3 r2 y2 y1 b2 hvg HF1 HO1 HS1
      go_wp2_with fail
      refine wp_world (fun W2 hW2 => ?_)
      rw [← hW2] at HF2 HO2 HVG; clear hW2
      obtain ⟨q0, q1, q2⟩ := cells3 HF2.out.p
      obtain ⟨k0, k1⟩ := cells2K HF2.out.k
      obtain ⟨o0, o1, o2⟩ := cells3 HO2.out
      refine wp_region_noPanic ?_
      refine wp_region_k (by kernel_rfl) (fun w' => w'.cell? ⟨w.heap.size + 1, 0, none⟩ = some (.int .i64 p.len) ∧ w'.cell? ⟨w.heap.size + 1, 1, none⟩ = some (.int .i64 p.hashes) ∧ w'.cell? ⟨w.heap.size + 1, 2, none⟩ = some (.int .i64 p.salt) ∧ w'.cell? ⟨w.heap.size + 2, 0, none⟩ = some (.int .u64 k.1) ∧ w'.cell? ⟨w.heap.size + 2, 1, none⟩ = some (.int .u64 k.2) ∧ w'.cell? ⟨W.heap.size, 0, none⟩ = some (.int .i64 i) ∧ w'.cell? ⟨W.heap.size, 1, none⟩ = some (.bool false) ∧ w'.cell? ⟨W.heap.size, 2, none⟩ = some (strV [])) 8 (⟨q0, q1, q2, k0, k1, o0, o1, o2⟩) (fun hHeld => ?_)
      refine wpAnyK_take (i := 0) (v := ?_) rfl (by kernel_rfl) (by kernel_rfl) (by kernel_rfl) (by kernel_rfl) (fun _ _ _ h => h) (Or.inl ⟨by rfl, ?_⟩) (by assumption) ?_
      rotate_left 1
      · (intro wS hSw; (try dsimp only at hSw); go_simp; try with_reducible rfl)
      try simp only [List.getElem_toArray, List.getElem_cons_zero, List.getElem_cons_succ, Act.put, List.setIfInBounds_toArray, List.set_cons_zero, List.set_cons_succ]
      refine wpAnyK_take (i := 1) (v := ?_) rfl (by kernel_rfl) (by kernel_rfl) (by kernel_rfl) (by kernel_rfl) (fun _ _ _ h => h) (Or.inl ⟨by rfl, ?_⟩) (by assumption) ?_
      rotate_left 1
      · (intro wS hSw; (try dsimp only at hSw); go_simp; try with_reducible rfl)
      try simp only [List.getElem_toArray, List.getElem_cons_zero, List.getElem_cons_succ, Act.put, List.setIfInBounds_toArray, List.set_cons_zero, List.set_cons_succ]
      refine wpAnyK_take (i := 2) (v := ?_) rfl (by kernel_rfl) (by kernel_rfl) (by kernel_rfl) (by kernel_rfl) (fun _ _ _ h => h) (Or.inl ⟨by rfl, ?_⟩) (by assumption) ?_
      rotate_left 1
      · (intro wS hSw; (try dsimp only at hSw); go_simp; try with_reducible rfl)
      try simp only [List.getElem_toArray, List.getElem_cons_zero, List.getElem_cons_succ, Act.put, List.setIfInBounds_toArray, List.set_cons_zero, List.set_cons_succ]
      refine wpAnyK_take (i := 4) (v := ?_) rfl (by kernel_rfl) (by kernel_rfl) (by kernel_rfl) (by kernel_rfl) (fun _ _ _ h => h) (Or.inl ⟨by rfl, ?_⟩) (by assumption) ?_
      rotate_left 1
      · (intro wS hSw; (try dsimp only at hSw); go_simp; try with_reducible rfl)
      try simp only [List.getElem_toArray, List.getElem_cons_zero, List.getElem_cons_succ, Act.put, List.setIfInBounds_toArray, List.set_cons_zero, List.set_cons_succ]
      refine wpAnyK_ready (rs := [3]) (by kernel_rfl) (by simp) ?_
      refine AllReadyK.cons rfl (fun K hK => ?_) AllReadyK.nil
      go_simp
      refine (derive_any k i false [] _ (by omega) (by simp)).mono ?_; rw [HKK.out]; rintro e w3 ⟨rfl, hb3⟩; have b3 := ((Below.refl W2.heap.size W2).drew).trans hb3; clear hb3
      refine shutK hK (⟨(b3.cell (p := ⟨w.heap.size + 1, 0, none⟩) (lt_of_blk HF2.out.p)).trans q0, (b3.cell (p := ⟨w.heap.size + 1, 1, none⟩) (lt_of_blk HF2.out.p)).trans q1, (b3.cell (p := ⟨w.heap.size + 1, 2, none⟩) (lt_of_blk HF2.out.p)).trans q2, (b3.cell (p := ⟨w.heap.size + 2, 0, none⟩) (lt_of_blk HF2.out.k)).trans k0, (b3.cell (p := ⟨w.heap.size + 2, 1, none⟩) (lt_of_blk HF2.out.k)).trans k1, (b3.cell (p := ⟨W.heap.size, 0, none⟩) (lt_of_blk HO2.out)).trans o0, (b3.cell (p := ⟨W.heap.size, 1, none⟩) (lt_of_blk HO2.out)).trans o1, (b3.cell (p := ⟨W.heap.size, 2, none⟩) (lt_of_blk HO2.out)).trans o2⟩) (fun hHeld => ?_)
      clear hK K
      try simp only [List.getElem_toArray, List.getElem_cons_zero, List.getElem_cons_succ, Act.put, List.setIfInBounds_toArray, List.set_cons_zero, List.set_cons_succ]
      refine wpAnyK_ready (rs := [5]) (by kernel_rfl) (by simp) ?_
      refine AllReadyK.cons rfl (fun K hK => ?_) AllReadyK.nil
      go_simp
      refine (bencode_yes Any1 p KX _ G.1 _ HFI.out.par (HVG.out.below b3) (fun g hg => Nat.le_trans (HG3.out g hg) (by decide)) g2).mono ?_; rw [HBN.out]; rintro e w4 ⟨_, rfl, ⟨sb, rfl, hvb⟩, hb4⟩; have b4 := b3.trans (hb4.mono b3.size); have HVB := Lib.hid hvb; obtain ⟨ab, cb, rfl⟩ := hvb.slice; clear hb4 hvb
      refine shutK hK (⟨(b4.cell (p := ⟨w.heap.size + 1, 0, none⟩) (lt_of_blk HF2.out.p)).trans q0, (b4.cell (p := ⟨w.heap.size + 1, 1, none⟩) (lt_of_blk HF2.out.p)).trans q1, (b4.cell (p := ⟨w.heap.size + 1, 2, none⟩) (lt_of_blk HF2.out.p)).trans q2, (b4.cell (p := ⟨w.heap.size + 2, 0, none⟩) (lt_of_blk HF2.out.k)).trans k0, (b4.cell (p := ⟨w.heap.size + 2, 1, none⟩) (lt_of_blk HF2.out.k)).trans k1, (b4.cell (p := ⟨W.heap.size, 0, none⟩) (lt_of_blk HO2.out)).trans o0, (b4.cell (p := ⟨W.heap.size, 1, none⟩) (lt_of_blk HO2.out)).trans o1, (b4.cell (p := ⟨W.heap.size, 2, none⟩) (lt_of_blk HO2.out)).trans o2⟩) (fun hHeld => ?_)
      clear hK K
      try simp only [List.getElem_toArray, List.getElem_cons_zero, List.getElem_cons_succ, Act.put, List.setIfInBounds_toArray, List.set_cons_zero, List.set_cons_succ]
      refine wpAnyK_take (i := 6) (v := ?_) rfl (by kernel_rfl) (by kernel_rfl) (by kernel_rfl) (by kernel_rfl) (fun _ _ _ h => h) (Or.inl ⟨by rfl, ?_⟩) (by assumption) ?_
      rotate_left 1
      · (intro wS hSw; (try dsimp only at hSw); go_simp; try with_reducible rfl)
      try simp only [List.getElem_toArray, List.getElem_cons_zero, List.getElem_cons_succ, Act.put, List.setIfInBounds_toArray, List.set_cons_zero, List.set_cons_succ]
      refine wpAnyK_take (i := 7) (v := ?_) rfl (by kernel_rfl) (by kernel_rfl) (by kernel_rfl) (by kernel_rfl) (fun _ _ _ h => h) (Or.inl ⟨by rfl, ?_⟩) (by assumption) ?_
      rotate_left 1
      · (intro wS hSw; (try dsimp only at hSw); go_simp; try with_reducible rfl)
      try simp only [List.getElem_toArray, List.getElem_cons_zero, List.getElem_cons_succ, Act.put, List.setIfInBounds_toArray, List.set_cons_zero, List.set_cons_succ]
      have hz4 := blk_below b4 (lt_of_blk HF2.out.z) HF2.out.z
      obtain ⟨z0, z1⟩ := cells2K hz4
      have f0 := frozen_of_row _ _ 0 _ _ hz4; have f1 := frozen_of_row _ _ 1 _ _ hz4
      have y4 := lt_of_blk hz4
      refine wpAnyK_ready (rs := [8]) (by kernel_rfl) (by simp) ?_
      refine AllReadyK.cons rfl (fun K hK => ?_) AllReadyK.nil
      go_simp
      refine shutK_off hK (by decide) ?_
      clear hK K
      try simp only [List.getElem_toArray, List.getElem_cons_zero, List.getElem_cons_succ, Act.put, List.setIfInBounds_toArray, List.set_cons_zero, List.set_cons_succ]
      refine wpAnyK_ready (rs := [9]) (by kernel_rfl) (by simp) ?_
      refine AllReadyK.cons rfl (fun K hK => ?_) AllReadyK.nil
      go_simp
      refine shutK_off hK (by decide) ?_
      clear hK K
      try simp only [List.getElem_toArray, List.getElem_cons_zero, List.getElem_cons_succ, Act.put, List.setIfInBounds_toArray, List.set_cons_zero, List.set_cons_succ]
      refine wpAnyK_done (by kernel_rfl) ?_ _
      refine NoPanic.normal ?_
      go_wp2_with fail
      refine bodyPost_row2 rfl rfl (blk_set (i := 1) (v := .slice ab B.words.length cb) (blk_set (i := 0) (v := .int .i64 B.len) hz4)) Tryz.underlying68 rfl (by kernel_rfl)
        ⟨_, rfl, ⟨_, rfl, ?_⟩, ((HF2.out.b.trans (b4.mono HF2.out.b.size)).setCell (p := ⟨w.heap.size + 4, 0, none⟩) (by show w.heap.size ≤ w.heap.size + 4; omega) _).setCell (p := ⟨w.heap.size + 4, 1, none⟩) (by show w.heap.size ≤ w.heap.size + 4; omega) _⟩
      have hlz := lt_of_blk HF2.out.z
      refine Vec.move HVB.out (by simp [World.setCell]) fun b hb hs => ?_
      have hs' : w3.heap.size ≤ b := hs
      have hz3 := b3.size
      exact ⟨(heap_setCell_other _ _ _ _ (by show b ≠ w.heap.size + 4; omega)).trans (heap_setCell_other _ _ _ _ (by show b ≠ w.heap.size + 4; omega)), by show w.heap.size ≤ b; omega⟩
end Go.Proofs.YtmakailcpkogdaaGreatDoor
end
