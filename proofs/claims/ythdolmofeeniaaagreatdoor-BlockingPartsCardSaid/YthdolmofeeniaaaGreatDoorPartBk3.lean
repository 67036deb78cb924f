/- Parts of one proof: MakeW, SchA, SchB, SchC, SchD, SchE, SchK, Dress, DeckPlain, MakeU, MakeV, MakeX, MakeZ, BlkA, PhonA, SchF, SchL, SchM, SchG, SchH, SchN, GramC, GramB, GramD, RecPlain, EncPlain, BitsA, BloomA, SchJ, BloomB, PhonB. -/
import Derived.Test.YthdolmofeeniaaaGreatDoorPartBk2
import Derived.Deep.DeepCutAuto
import Derived.Sort.KeysCollected
import Derived.Sort.Walk0
import Derived.Shelf.SlIter.Nil
import Derived.Shelf.SortM.Plain
import Derived.Shelf.SortM.SortNone
import Derived.Ground.GgzProg
import Derived.Ground.SlgmProg
import Derived.Maps.OwnSet
import Derived.StringKeys
import Derived.Lib.ItoaNum
section
/- recordlinkmake: Mod, two and Written: a date written in one of three forms. -/
set_option linter.unusedSimpArgs false
set_option linter.unusedVariables false
set_option maxRecDepth 100000
namespace Go.Proofs.YthdolmofeeniaaaGreatDoor
open Go.RowKit Cal
attribute [local go_sem] dg_len
@[local go_sem] theorem bytes_append (a b : List UInt8) : (⟨a.toArray⟩ : ByteArray) ++ ⟨b.toArray⟩ = ⟨(a ++ b).toArray⟩ := by
  apply ByteArray.ext; simp
theorem ret_str {a b : List UInt8} (h : a = b) : Ending.returned (.string ⟨a.toArray⟩) = .returned (.string ⟨b.toArray⟩) := by rw [h]
theorem dgb (n : Int) (h : 0 ≤ n) : byteV (UInt8.ofNat (48 + (n % 10).toNat)) = .int .u8 (48 + n % 10) := by
  have : (UInt8.ofNat (48 + (n % 10).toNat)).toNat = 48 + (n % 10).toNat := by rw [UInt8.toNat_ofNat']; omega
  unfold byteV; rw [this]; congr 1; omega
theorem owns_new {w : World} {B : Nat} {e : TypeId} (l : List UInt8) (hB : B ≤ w.heap.size) (hl : l.length ≤ 1000) :
    (w.alloc (.cells (l.map byteV).toArray e)).ownsRow B e 1 (.slice (some ⟨w.heap.size, 0, none⟩) l.length l.length) l.length (l.map byteV) :=
  ⟨by simp, .inr ⟨_, _, _, rfl, hB, blk_new rfl, Nat.le_refl _, size_le_maxLen (by omega), by simp, by rw [List.take_of_length_le (by simp)]⟩⟩
set_option maxHeartbeats 400000 in
theorem two_any (n : Int) (w : World) (h0 : 0 ≤ n) (h1 : n ≤ 99) :
    Calls Tryz.prog 100 #[.int .i64 n] w fun e w' => e = .returned (.string ⟨(dg n 2).toArray⟩) ∧ Below w.heap.size w w' := by
  have ha : 0 ≤ n / 10 % 10 ∧ n / 10 % 10 ≤ 9 := by omega
  have hb : 0 ≤ n % 10 ∧ n % 10 ≤ 9 := by omega
  obtain ⟨ha1, ha2⟩ := ha
  obtain ⟨hb1, hb2⟩ := hb
  have hcv : ∀ w : World, (convert 85 9 (.slice (some ⟨w.heap.size, 0, none⟩) 2 2)).run Tryz.prog (w.alloc (.cells #[.int .u8 (48 + n / 10 % 10), .int .u8 (48 + n % 10)] 5)) = .ok (.string ⟨(dg n 2).toArray⟩) (w.alloc (.cells #[.int .u8 (48 + n / 10 % 10), .int .u8 (48 + n % 10)] 5)) := by
    intro w
    have ho := owns_new (w := w) (B := 0) (e := 5) (dg n 2) (Nat.zero_le _) (by rw [dg_len]; omega)
    rw [dg_len] at ho
    have e1 : (dg n 2).map byteV = [.int .u8 (48 + n / 10 % 10), .int .u8 (48 + n % 10)] := by
      simp only [dg, List.nil_append, List.cons_append, List.map_cons, List.map_nil]
      rw [dgb _ (by omega), dgb _ h0]
    rw [e1] at ho
    exact run_convert_owned (dg n 2) (by rw [e1]; exact ho) Tryz.underlying85 Tryz.underlying5 Tryz.underlying9
  go_enter Tryz.func100, Tryz.ntmps100
  go_wp2
  go_ret
  exact ⟨rfl, (Below.refl _ _).alloc (Nat.le_refl _) _⟩

theorem dg_two (n : Int) : dg n 4 = dg (n / 100) 2 ++ dg n 2 := by
  simp only [dg, List.nil_append, List.append_assoc]
  have e1 : n / 10 / 10 = n / 100 := by omega
  rw [e1]
theorem dg_mod (n : Int) (h : 0 ≤ n) : dg (n % 100) 2 = dg n 2 := by
  simp only [dg, List.nil_append]
  have e1 : n % 100 / 10 % 10 = n / 10 % 10 := by omega
  have e2 : n % 100 % 10 = n % 10 := by omega
  rw [e1, e2]
/-- a date in one of three forms -/
def writtenL (y m d form : Int) : List UInt8 :=
  if form = 0 then dg y 4 ++ [45] ++ dg m 2 ++ [45] ++ dg d 2 else if form = 1 then dg d 2 ++ [46] ++ dg m 2 ++ [46] ++ dg y 4 else dg m 2 ++ [47] ++ dg d 2 ++ [47] ++ dg y 4
set_option maxHeartbeats 400000 in
theorem mod_any (x n : Int) (w : World) (hx : 0 ≤ x) (hx2 : x ≤ 1000000000000) (hn : 1 ≤ n) (hn2 : n ≤ 1000000000) :
    Calls Tryz.prog 41 #[.int .i64 x, .int .i64 n] w fun e w' => e = .returned (.int .i64 (x % n)) ∧ w = w' := by
  have h1 : 0 ≤ x % n := Int.emod_nonneg _ (by omega)
  have h2 : x % n < n := Int.emod_lt_of_pos _ (by omega)
  have h3 : 0 ≤ x % n + n := by omega
  have H4 := Lib.hid (show (x % n + n) % n = x % n by rw [Int.add_emod_right]; exact Int.emod_eq_of_lt h1 h2)
  go_enter Tryz.func41, Tryz.ntmps41
  go_wp2
  go_ret
  exact ⟨ret_int (by have := H4.out; simp [this]), rfl⟩
set_option maxHeartbeats 1000000 in
theorem written_any (y m d form : Int) (w : World) (hb : 1800 ≤ y ∧ y ≤ 2199 ∧ 0 ≤ m ∧ m ≤ 13 ∧ 1 ≤ d ∧ d ≤ 32) (hf : 0 ≤ form ∧ form ≤ 2) :
    Calls Tryz.prog 49 #[.agg #[.int .i64 y, .int .i64 m, .int .i64 d], .int .i64 form] w fun e w' => e = .returned (.string ⟨(writtenL y m d form).toArray⟩) ∧ Below w.heap.size w w' := by
  obtain ⟨b1, b2, b3, b4, b5, b6⟩ := hb
  obtain ⟨f1, f2⟩ := hf
  have q1 : 0 ≤ y / 100 ∧ y / 100 ≤ 99 := by omega
  have q2 : 0 ≤ y % 100 ∧ y % 100 ≤ 99 := by omega
  obtain ⟨q1, q1'⟩ := q1
  obtain ⟨q2, q2'⟩ := q2
  have HM := fun w => Lib.hid (mod_any form 3 w f1 (by omega) (by omega) (by omega))
  rw [show form % 3 = form by omega] at HM
  go_enter Tryz.func49, Tryz.ntmps49
  go_wp2_with fail
  have m99 : m ≤ 99 := by omega
  have d99 : d ≤ 99 := by omega
  have d0 : 0 ≤ d := by omega
  have e1 : IntKind.i64.wrap (y.tdiv 100) = y / 100 := by rw [Int.tdiv_eq_ediv_of_nonneg (by omega)]; exact IntWalk.i64_in _ ⟨by omega, by omega⟩
  have e2 : y.tmod 100 = y % 100 := Int.tmod_eq_emod_of_nonneg (by omega)
  refine wp_region_noPanic ?_
  refine wp_region_held_drew (S := (fun w' => w'.cell? ⟨w.heap.size, 0, none⟩ = some (.int .i64 y) ∧ w'.cell? ⟨w.heap.size, 1, none⟩ = some (.int .i64 m) ∧ w'.cell? ⟨w.heap.size, 2, none⟩ = some (.int .i64 d))) (by kernel_rfl) (⟨by simp, by simp, by simp⟩) (fun hHeld => ?_)
  refine wpAnyH_take (i := 0) (v := ?_) rfl (by kernel_rfl) (by kernel_rfl) (by kernel_rfl) (fun _ _ _ h => h) (Or.inl ⟨by rfl, ?_⟩) (by assumption) ?_
  rotate_left 1
  · (intro wS hSw; (try dsimp only at hSw); go_simp; try with_reducible rfl)
  try simp only [List.getElem_toArray, List.getElem_cons_zero, List.getElem_cons_succ, Act.put, List.setIfInBounds_toArray, List.set_cons_zero, List.set_cons_succ]
  refine wpAnyH_take (i := 1) (v := ?_) rfl (by kernel_rfl) (by kernel_rfl) (by kernel_rfl) (fun _ _ _ h => h) (Or.inl ⟨by rfl, ?_⟩) (by assumption) ?_
  rotate_left 1
  · (intro wS hSw; (try dsimp only at hSw); go_simp; try with_reducible rfl)
  try simp only [List.getElem_toArray, List.getElem_cons_zero, List.getElem_cons_succ, Act.put, List.setIfInBounds_toArray, List.set_cons_zero, List.set_cons_succ]
  refine wpAnyH_take (i := 2) (v := ?_) rfl (by kernel_rfl) (by kernel_rfl) (by kernel_rfl) (fun _ _ _ h => h) (Or.inl ⟨by rfl, ?_⟩) (by assumption) ?_
  rotate_left 1
  · (intro wS hSw; (try dsimp only at hSw); go_simp; try with_reducible rfl)
  try simp only [List.getElem_toArray, List.getElem_cons_zero, List.getElem_cons_succ, Act.put, List.setIfInBounds_toArray, List.set_cons_zero, List.set_cons_succ]
  refine wpAnyH_take (i := 4) (v := ?_) rfl (by kernel_rfl) (by kernel_rfl) (by kernel_rfl) (fun _ _ _ h => h) (Or.inl ⟨by rfl, ?_⟩) (by assumption) ?_
  rotate_left 1
  · (intro wS hSw; (try dsimp only at hSw); go_simp; try with_reducible rfl)
  try simp only [List.getElem_toArray, List.getElem_cons_zero, List.getElem_cons_succ, Act.put, List.setIfInBounds_toArray, List.set_cons_zero, List.set_cons_succ]
  refine wpAnyH_take (i := 5) (v := ?_) rfl (by kernel_rfl) (by kernel_rfl) (by kernel_rfl) (fun _ _ _ h => h) (Or.inl ⟨by rfl, ?_⟩) (by assumption) ?_
  rotate_left 1
  · (intro wS hSw; (try dsimp only at hSw); go_simp; try with_reducible rfl)
  try simp only [List.getElem_toArray, List.getElem_cons_zero, List.getElem_cons_succ, Act.put, List.setIfInBounds_toArray, List.set_cons_zero, List.set_cons_succ]
  refine wpAnyH_take (i := 6) (v := ?_) rfl (by kernel_rfl) (by kernel_rfl) (by kernel_rfl) (fun _ _ _ h => h) (Or.inl ⟨by rfl, ?_⟩) (by assumption) ?_
  rotate_left 1
  · (intro wS hSw; (try dsimp only at hSw); go_simp; try with_reducible rfl)
  try simp only [List.getElem_toArray, List.getElem_cons_zero, List.getElem_cons_succ, Act.put, List.setIfInBounds_toArray, List.set_cons_zero, List.set_cons_succ]
  refine wpAnyH_take (i := 9) (v := ?_) rfl (by kernel_rfl) (by kernel_rfl) (by kernel_rfl) (fun _ _ _ h => h) (Or.inl ⟨by rfl, ?_⟩) (by assumption) ?_
  rotate_left 1
  · (intro wS hSw; (try dsimp only at hSw); go_simp; try with_reducible rfl)
  try simp only [List.getElem_toArray, List.getElem_cons_zero, List.getElem_cons_succ, Act.put, List.setIfInBounds_toArray, List.set_cons_zero, List.set_cons_succ]
  refine wpAnyH_take (i := 10) (v := ?_) rfl (by kernel_rfl) (by kernel_rfl) (by kernel_rfl) (fun _ _ _ h => h) (Or.inl ⟨by rfl, ?_⟩) (by assumption) ?_
  rotate_left 1
  · (intro wS hSw; (try dsimp only at hSw); go_simp; try with_reducible rfl)
  try simp only [List.getElem_toArray, List.getElem_cons_zero, List.getElem_cons_succ, Act.put, List.setIfInBounds_toArray, List.set_cons_zero, List.set_cons_succ]
  refine wpAnyH_take (i := 12) (v := ?_) rfl (by kernel_rfl) (by kernel_rfl) (by kernel_rfl) (fun _ _ _ h => h) (Or.inl ⟨by rfl, ?_⟩) (by assumption) ?_
  rotate_left 1
  · (intro wS hSw; (try dsimp only at hSw); go_simp; try with_reducible rfl)
  try simp only [List.getElem_toArray, List.getElem_cons_zero, List.getElem_cons_succ, Act.put, List.setIfInBounds_toArray, List.set_cons_zero, List.set_cons_succ]
  refine wpAnyH_take (i := 13) (v := ?_) rfl (by kernel_rfl) (by kernel_rfl) (by kernel_rfl) (fun _ _ _ h => h) (Or.inl ⟨by rfl, ?_⟩) (by assumption) ?_
  rotate_left 1
  · (intro wS hSw; (try dsimp only at hSw); go_simp; try with_reducible rfl)
  try simp only [List.getElem_toArray, List.getElem_cons_zero, List.getElem_cons_succ, Act.put, List.setIfInBounds_toArray, List.set_cons_zero, List.set_cons_succ]
  refine wpAnyH_ready (rs := [3]) (by kernel_rfl) (by simp) ?_
  refine AllReadyH.cons rfl (fun K hK => ?_) AllReadyH.nil
  go_simp
  refine (two_any _ _ q1 q1').mono ?_; rintro e w1 ⟨rfl, hb1⟩; have z1 : w.heap.size < w1.heap.size := (by clear e1 e2; have := hb1.size; simp at this; omega); have HB1 := Lib.hid ((((Below.refl _ _).alloc (Nat.le_refl _) _).drew).trans (hb1.mono (by simp))); have c01 : w1.cell? ⟨w.heap.size, 0, none⟩ = some (.int .i64 y) := (hb1.cell (p := ⟨w.heap.size, 0, none⟩) (by simp)).trans (by simp); have c11 : w1.cell? ⟨w.heap.size, 1, none⟩ = some (.int .i64 m) := (hb1.cell (p := ⟨w.heap.size, 1, none⟩) (by simp)).trans (by simp); have c21 : w1.cell? ⟨w.heap.size, 2, none⟩ = some (.int .i64 d) := (hb1.cell (p := ⟨w.heap.size, 2, none⟩) (by simp)).trans (by simp); clear hb1
  refine hK.out _ _ (⟨c01, c11, c21⟩) (fun hHeld => ?_)
  clear hK K
  try simp only [List.getElem_toArray, List.getElem_cons_zero, List.getElem_cons_succ, Act.put, List.setIfInBounds_toArray, List.set_cons_zero, List.set_cons_succ]
  refine wpAnyH_ready (rs := [7]) (by kernel_rfl) (by simp) ?_
  refine AllReadyH.cons rfl (fun K hK => ?_) AllReadyH.nil
  go_simp
  refine (two_any _ _ q2 q2').mono ?_; rintro e w2 ⟨rfl, hb2⟩; have z2 : w.heap.size < w2.heap.size := (by clear e1 e2; have := hb2.size; omega); have HB2 := Lib.hid (HB1.out.trans (hb2.mono HB1.out.size)); have c02 := (hb2.cell (p := ⟨w.heap.size, 0, none⟩) z1).trans c01; have c12 := (hb2.cell (p := ⟨w.heap.size, 1, none⟩) z1).trans c11; have c22 := (hb2.cell (p := ⟨w.heap.size, 2, none⟩) z1).trans c21; clear hb2 c01 c11 c21
  refine hK.out _ _ (⟨c02, c12, c22⟩) (fun hHeld => ?_)
  clear hK K
  try simp only [List.getElem_toArray, List.getElem_cons_zero, List.getElem_cons_succ, Act.put, List.setIfInBounds_toArray, List.set_cons_zero, List.set_cons_succ]
  refine wpAnyH_take (i := 8) (v := ?_) rfl (by kernel_rfl) (by kernel_rfl) (by kernel_rfl) (fun _ _ _ h => h) (Or.inl ⟨by rfl, ?_⟩) (by assumption) ?_
  rotate_left 1
  · (intro wS hSw; (try dsimp only at hSw); go_simp; try with_reducible rfl)
  try simp only [List.getElem_toArray, List.getElem_cons_zero, List.getElem_cons_succ, Act.put, List.setIfInBounds_toArray, List.set_cons_zero, List.set_cons_succ]
  refine wpAnyH_ready (rs := [11]) (by kernel_rfl) (by simp) ?_
  refine AllReadyH.cons rfl (fun K hK => ?_) AllReadyH.nil
  go_simp
  refine (two_any _ _ b3 m99).mono ?_; rintro e w3 ⟨rfl, hb3⟩; have z3 : w.heap.size < w3.heap.size := (by clear e1 e2; have := hb3.size; omega); have HB3 := Lib.hid (HB2.out.trans (hb3.mono HB2.out.size)); have c03 := (hb3.cell (p := ⟨w.heap.size, 0, none⟩) z2).trans c02; have c13 := (hb3.cell (p := ⟨w.heap.size, 1, none⟩) z2).trans c12; have c23 := (hb3.cell (p := ⟨w.heap.size, 2, none⟩) z2).trans c22; clear hb3 c02 c12 c22
  refine hK.out _ _ (⟨c03, c13, c23⟩) (fun hHeld => ?_)
  clear hK K
  try simp only [List.getElem_toArray, List.getElem_cons_zero, List.getElem_cons_succ, Act.put, List.setIfInBounds_toArray, List.set_cons_zero, List.set_cons_succ]
  refine wpAnyH_ready (rs := [14]) (by kernel_rfl) (by simp) ?_
  refine AllReadyH.cons rfl (fun K hK => ?_) AllReadyH.nil
  go_simp
  refine (two_any _ _ d0 d99).mono ?_; rintro e w4 ⟨rfl, hb4⟩; have z4 : w.heap.size < w4.heap.size := (by clear e1 e2; have := hb4.size; omega); have HB4 := Lib.hid (HB3.out.trans (hb4.mono HB3.out.size)); have c04 := (hb4.cell (p := ⟨w.heap.size, 0, none⟩) z3).trans c03; have c14 := (hb4.cell (p := ⟨w.heap.size, 1, none⟩) z3).trans c13; have c24 := (hb4.cell (p := ⟨w.heap.size, 2, none⟩) z3).trans c23; clear hb4 c03 c13 c23
  refine hK.out _ _ (⟨c04, c14, c24⟩) (fun hHeld => ?_)
  clear hK K
  try simp only [List.getElem_toArray, List.getElem_cons_zero, List.getElem_cons_succ, Act.put, List.setIfInBounds_toArray, List.set_cons_zero, List.set_cons_succ]
  refine wpAnyH_take (i := 15) (v := ?_) rfl (by kernel_rfl) (by kernel_rfl) (by kernel_rfl) (fun _ _ _ h => h) (Or.inl ⟨by rfl, ?_⟩) (by assumption) ?_
  rotate_left 1
  · (intro wS hSw; (try dsimp only at hSw); go_simp; try with_reducible rfl)
  try simp only [List.getElem_toArray, List.getElem_cons_zero, List.getElem_cons_succ, Act.put, List.setIfInBounds_toArray, List.set_cons_zero, List.set_cons_succ]
  refine wpAnyH_take (i := 16) (v := ?_) rfl (by kernel_rfl) (by kernel_rfl) (by kernel_rfl) (fun _ _ _ h => h) (Or.inl ⟨by rfl, ?_⟩) (by assumption) ?_
  rotate_left 1
  · (intro wS hSw; (try dsimp only at hSw); go_simp; try with_reducible rfl)
  try simp only [List.getElem_toArray, List.getElem_cons_zero, List.getElem_cons_succ, Act.put, List.setIfInBounds_toArray, List.set_cons_zero, List.set_cons_succ]
  refine wpAnyH_take (i := 17) (v := ?_) rfl (by kernel_rfl) (by kernel_rfl) (by kernel_rfl) (fun _ _ _ h => h) (Or.inl ⟨by rfl, ?_⟩) (by assumption) ?_
  rotate_left 1
  · (intro wS hSw; (try dsimp only at hSw); go_simp; try with_reducible rfl)
  try simp only [List.getElem_toArray, List.getElem_cons_zero, List.getElem_cons_succ, Act.put, List.setIfInBounds_toArray, List.set_cons_zero, List.set_cons_succ]
  refine wpAnyH_done (by kernel_rfl) ?_ _
  refine NoPanic.normal ?_
  clear e1 e2
  go_wp2_with fail
  refine (HM _).out.mono ?_; rintro e w' ⟨rfl, rfl⟩
  go_wp2_with fail
  all_goals
    go_ret
    refine ⟨ret_str ?_, HB4.out⟩
    simp only [beq_iff_eq, beq_eq_false_iff_ne, ne_eq] at *
    simp [writtenL, dg_two y, dg_mod y (by omega), *]
end Go.Proofs.YthdolmofeeniaaaGreatDoor
end
section
/- schema: the kinds; days; words; what the kinds' own functions return. -/
set_option linter.unusedSimpArgs false
set_option linter.unusedVariables false
set_option maxRecDepth 100000
namespace Go.Proofs.YthdolmofeeniaaaGreatDoor
open Go.RowKit Cal
attribute [local go_sem] toList_mk mk_size
abbrev fnV (g : Nat) : Value := .func (.func g) #[] #[]
def kind0 : Array Value := #[.string ⟨#[]⟩, .nilFunc, .nilFunc, .nilFunc]
def kind1 : Array Value := #[.string ⟨#[110, 97, 109, 101]⟩, fnV 256, fnV 257, fnV 258]
def kind2 : Array Value := #[.string ⟨#[100, 97, 116, 101]⟩, fnV 259, fnV 260, fnV 262]
def kind3 : Array Value := #[.string ⟨#[99, 111, 100, 101]⟩, fnV 263, fnV 265, fnV 267]
def kind4 : Array Value := #[.string ⟨#[97, 100, 100, 114, 101, 115, 115]⟩, fnV 268, fnV 269, fnV 258]
def kindsV : Array Value := kind0 ++ kind1 ++ kind2 ++ kind3 ++ kind4
set_option maxHeartbeats 1000000 in
theorem kinds_any (w : World) :
    Calls Tryz.prog 214 #[] w fun e w' => e = .returned (.agg kindsV) ∧ Below w.heap.size w w' := by
  go_enter Tryz.func214, Tryz.ntmps214
  go_upto_region 1 with (fail)
  rename_i hK
  refine wp_region_list ?_
  refine wpList_buildTo rfl 200 _ rfl (some 1) rfl kind1 (by kernel_rfl) ?_
  refine wpList_buildTo rfl 200 _ rfl (some 2) rfl kind2 (by kernel_rfl) ?_
  refine wpList_buildTo rfl 200 _ rfl (some 3) rfl kind3 (by kernel_rfl) ?_
  refine wpList_buildTo rfl 200 _ rfl (some 4) rfl kind4 (by kernel_rfl) ?_
  refine wpList_buildTo rfl 240 _ rfl (some 5) rfl kindsV (by kernel_rfl) ?_
  refine wpList_store_row rfl 240 _ _ rfl w.heap.size kindsV rfl rfl 240 _ (heap_alloc_new w _) (by kernel_rfl) (by kernel_rfl) (by kernel_rfl) ?_
  refine wpList_nil ?_
  rw [World.setRow_alloc_new]
  refine hK _ _ ?_
  go_wp2_with fail
  exact bodyPost_row1 rfl rfl (heap_alloc_new w _) Tryz.underlying240 rfl (by kernel_rfl) ⟨rfl, (Below.refl _ _).alloc (Nat.le_refl _) _⟩
def wordB (l : List UInt8) : Bool := bif l.isEmpty then false else bif decide (l.length ≤ 12) then lettersL l == l else false
set_option maxHeartbeats 400000 in
theorem word_is (l : List UInt8) (w : World) :
    Calls Tryz.prog 113 #[strV l] w fun e w' => e = .returned (.bool (wordB l)) ∧ Below w.heap.size w w' := by
  unfold wordB
  by_cases h0 : l = []
  · subst h0
    go_enter Tryz.func113, Tryz.ntmps113
    go_wp2
    go_ret
    exact ⟨rfl, Below.refl _ _⟩
  · have h1 : l.isEmpty = false := by simpa using h0
    have h2 : (l == []) = false := by simpa using h0
    rw [h1]
    by_cases h3 : l.length ≤ 12
    · have h4 : decide (l.length ≤ 12) = true := by simpa using h3
      have h5 : decide ((l.length : Int) ≤ 12) = true := by simp; omega
      rw [h4]
      clear h0 h4
      go_enter Tryz.func113, Tryz.ntmps113
      go_wp2_with fail
      refine (letters_any ⟨l.toArray⟩ _ (by rw [mk_size]; omega)).mono ?_
      rintro e w1 ⟨rfl, hb⟩
      go_wp2_with fail
      go_ret
      exact ⟨rfl, hb⟩
    · have h4 : decide (l.length ≤ 12) = false := by simpa using h3
      have h5 : decide ((l.length : Int) ≤ 12) = false := by simp; omega
      rw [h4]
      clear h0 h4
      go_enter Tryz.func113, Tryz.ntmps113
      go_wp2_with fail
      go_ret
      exact ⟨rfl, Below.refl _ _⟩
end Go.Proofs.YthdolmofeeniaaaGreatDoor
end
section
/- schema: days, and what the kinds' own functions return. -/
set_option linter.unusedSimpArgs false
set_option linter.unusedVariables false
set_option maxRecDepth 100000
namespace Go.Proofs.YthdolmofeeniaaaGreatDoor
open Go.RowKit Cal
attribute [local go_sem] toList_mk mk_size
def dayF (y m d : List UInt8) : List UInt8 × Int := bif vldB (numI y) (numI m) (numI d) then (digits8 (numI y) (numI m) (numI d), 0) else ([], 4)
def byteL (l : List UInt8) (i : Nat) : Int := ((l.getD i 0).toNat : Int)
/-- the eight digits of a day that is written in one of three forms, and the error -/
def dayN (l : List UInt8) : List UInt8 × Int :=
  if l.length = 10 then
    if byteL l 4 = 45 ∧ byteL l 7 = 45 then dayF (l.take 4) ((l.drop 5).take 2) ((l.drop 8).take 2)
    else if byteL l 2 = 46 ∧ byteL l 5 = 46 then dayF ((l.drop 6).take 4) ((l.drop 3).take 2) (l.take 2)
    else if byteL l 2 = 47 ∧ byteL l 5 = 47 then dayF ((l.drop 6).take 4) (l.take 2) ((l.drop 3).take 2)
    else ([], 4)
  else ([], 4)
def DayIs (x : Value) (p : List UInt8 × Int) : Prop := (∃ a b c : Int, vldB a b c = true ∧ x = .tuple #[.agg #[.int .i64 a, .int .i64 b, .int .i64 c], .int .i64 0] ∧ p = (digits8 a b c, 0)) ∨ (x = .tuple #[.agg #[.int .i64 0, .int .i64 0, .int .i64 0], .int .i64 4] ∧ p = ([], 4))
theorem dateL_is (y m d : List UInt8) : DayIs (dateL y m d) (dayF y m d) := by
  unfold dateL dateR dayF
  cases h : vldB (numI y) (numI m) (numI d)
  · exact .inr ⟨rfl, rfl⟩
  · exact .inl ⟨_, _, _, h, rfl, rfl⟩
theorem parse_is (s : ByteArray) : DayIs (parseV s) (dayN s.data.toList) := by
  have hl : s.data.toList.length = s.size := by simp
  unfold parseV dayN
  rw [hl]
  show DayIs _ (if s.size = 10 then if byteAt s 4 = 45 ∧ byteAt s 7 = 45 then _ else if byteAt s 2 = 46 ∧ byteAt s 5 = 46 then _ else if byteAt s 2 = 47 ∧ byteAt s 5 = 47 then _ else _ else _)
  split
  · split
    · exact dateL_is _ _ _
    · split
      · exact dateL_is _ _ _
      · split
        · exact dateL_is _ _ _
        · exact .inr ⟨rfl, rfl⟩
  · exact .inr ⟨rfl, rfl⟩
/-- eight digits of a day that exists -/
def readB (l : List UInt8) : Bool := bif decide (l.length = 8) then vldB (numI (l.take 4)) (numI ((l.drop 4).take 2)) (numI ((l.drop 6).take 2)) else false
theorem read_is (s : ByteArray) : ∃ a b c : Int, (bif decide (s.size = 8) then dateL (s.data.toList.take 4) ((s.data.toList.drop 4).take 2) ((s.data.toList.drop 6).take 2) else dateV false 0 0 0 4) = .tuple #[.agg #[.int .i64 a, .int .i64 b, .int .i64 c], .int .i64 (cd (readB s.data.toList) 4)] := by
  have hl : s.data.toList.length = s.size := by simp
  unfold readB
  rw [hl]
  cases decide (s.size = 8)
  · exact ⟨0, 0, 0, rfl⟩
  · exact ⟨_, _, _, rfl⟩
set_option maxHeartbeats 1000000 in
theorem kind1_any (vt vn vs : Value) (s : ByteArray) (w : World) :
    Calls Tryz.prog 260 #[.agg #[vt, vn, vs], .string s] w fun e w' => e = .returned (.bool (readB s.data.toList)) ∧ Below w.heap.size w w' := by
  obtain ⟨a, b, c, hr⟩ := read_is s
  have HR := Lib.hid hr; clear hr
  go_enter Tryz.func260, Tryz.ntmps260
  go_wp2_with fail
  refine (read_any s _).mono ?_
  rw [HR.out]
  obtain ⟨v, hv⟩ : ∃ v, readB s.data.toList = v := ⟨_, rfl⟩
  rw [hv]
  have HV := Lib.hid hv; clear hv HR
  rintro e w1 ⟨rfl, hb1⟩
  have HB1 := Lib.hid (((Below.refl w.heap.size w).alloc (Nat.le_refl _) _).trans (hb1.mono (by simp)))
  clear hb1
  cases v
  all_goals
    simp only [cd_false, cd_true]
    go_wp2_with fail
    go_ret
    exact ⟨ret_bool (by rw [HV.out]; try rfl), HB1.out.alloc HB1.out.size _⟩
set_option maxHeartbeats 1000000 in
theorem kind3_any (vt vn vs : Value) (s : ByteArray) (w : World) (hs : s.size ≤ 9223372036854775000) :
    Calls Tryz.prog 265 #[.agg #[vt, vn, vs], .string s] w fun e w' => e = .returned (.bool (isOwn (codeN s.data.toList) s.data.toList)) ∧ Below w.heap.size w w' := by
  go_enter Tryz.func265, Tryz.ntmps265
  go_wp2_with fail
  refine (normed_any s _ hs).mono ?_
  rintro e w1 ⟨rfl, hb1⟩
  have HB1 := Lib.hid (((Below.refl w.heap.size w).alloc (Nat.le_refl _) _).trans (hb1.mono (by simp)))
  clear hb1
  go_wp2_with fail
  go_ret
  exact ⟨rfl, HB1.out⟩
end Go.Proofs.YthdolmofeeniaaaGreatDoor
end
section
/- schema.Check. -/
set_option linter.unusedSimpArgs false
set_option linter.unusedVariables false
set_option maxRecDepth 100000
namespace Go.Proofs.YthdolmofeeniaaaGreatDoor
open Go.RowKit Cal
attribute [local go_sem] toList_mk mk_size
abbrev F2 := List UInt8 × Int
def encF (x : F2) : List Value := [strV x.1, .int .i64 x.2]
structure SchemaL where
  fields : List F2
  rules : RulesL
def SchemaAt (w : World) (S : Nat → Prop) (vf vt vn vs : Value) (s : SchemaL) : Prop := Vec w S 2 encF vf s.fields ∧ RulesAt w S vt vn vs s.rules
theorem SchemaAt.below {w w' : World} {S : Nat → Prop} {vf vt vn vs : Value} {s : SchemaL} (h : SchemaAt w S vf vt vn vs s) (hb : Below w.heap.size w w') : SchemaAt w' S vf vt vn vs s := ⟨h.1.below hb, h.2.below hb⟩
theorem SchemaAt.any {w : World} {S : Nat → Prop} {vf vt vn vs : Value} {s : SchemaL} (h : SchemaAt w S vf vt vn vs s) : SchemaAt w Any1 vf vt vn vs s := ⟨h.1.any, h.2.any⟩
theorem Vec.take {α : Type} {w : World} {S : Nat → Prop} {k : Nat} {enc : α → List Value} {a : Option Addr} {n cap : Nat} {L : List α} (h : Vec w S k enc (.slice a n cap) L) (i : Nat) (hi : i ≤ L.length) : Vec w S k enc (.slice a i cap) (L.take i) := by
  obtain ⟨a', cap', h1, h2, h3⟩ := h
  cases h1
  refine ⟨a, cap, by rw [List.length_take, Nat.min_eq_left hi], by rw [List.length_take]; omega, fun h0 => ?_⟩
  rw [List.length_take] at h0
  obtain ⟨b, off, h4, h5, h5', h6⟩ := h3 (by omega)
  refine ⟨b, off, h4, h5, h5', fun j x hj => h6 j x ?_⟩
  rw [List.getElem?_take] at hj
  split at hj
  · exact hj
  · cases hj
theorem cells4 {w : World} {b : Nat} {x y z u : Value} {t : TypeId} {fr : Nat × Nat} (h : w.heap[b]? = some (.cells #[x, y, z, u] t fr)) :
    w.cell? ⟨b, 0, none⟩ = some x ∧ w.cell? ⟨b, 1, none⟩ = some y ∧ w.cell? ⟨b, 2, none⟩ = some z ∧ w.cell? ⟨b, 3, none⟩ = some u := by
  refine ⟨?_, ?_, ?_, ?_⟩ <;> (rw [cell_of_row _ _ _ _ _ _ h]; rfl)
theorem pred_field (nm : List UInt8) (B : Nat) (w : World) (hB : B < w.heap.size) (hcell : w.cell? ⟨B, 0, none⟩ = some (strV nm)) :
    PredBelow Tryz.prog 112 #[.pointer (some ⟨B, 0, none⟩)] (fun x => .agg (encF x).toArray) (fun x => x.1 == nm) w := fun W x hb => by
  have hc : W.cell? ⟨B, 0, none⟩ = some (strV nm) := (hb.cell (p := ⟨B, 0, none⟩) hB).trans hcell
  have hBW : B < W.heap.size := Nat.lt_of_lt_of_le hB hb.size
  have hne : B ≠ W.heap.size := by omega
  have HBb := Lib.hid hb; clear hb hcell
  obtain ⟨xn, xk⟩ := x
  show Calls Tryz.prog 112 #[.agg #[strV xn, .int .i64 xk], .pointer (some ⟨B, 0, none⟩)] W _
  go_enter Tryz.func112, Tryz.ntmps112
  go_wp2
  go_ret
  exact ⟨rfl, HBb.out.alloc HBb.out.size _⟩
set_option maxHeartbeats 400000 in
theorem idxF_nil (a : Option Addr) (c : Nat) (f : Value) (w : World) :
    Calls Tryz.prog 167 #[.slice a 0 c, f] w fun e w' => e = .returned (.int .i64 (-1)) ∧ w = w' := by
  go_enter Tryz.func167, Tryz.ntmps167
  go_wp2
  refine wp_loop_rounds 1 ?_; rw [rounds_succ]
  go_wp2
  go_ret
  exact ⟨rfl, rfl⟩
set_option maxHeartbeats 400000 in
theorem contF_nil (a : Option Addr) (c : Nat) (f : Value) (w : World) :
    Calls Tryz.prog 111 #[.slice a 0 c, f] w fun e w' => e = .returned (.bool false) ∧ w = w' := by
  go_enter Tryz.func111, Tryz.ntmps111
  go_wp2_with fail
  refine (idxF_nil a c _ _).mono ?_
  rintro e w1 ⟨rfl, rfl⟩
  go_wp2_with fail
  go_ret
  exact ⟨rfl, rfl⟩
theorem contF_any (p : F2 → Bool) (g : Nat) (lb : Array Value) (eg : ∀ args w, (callFunc g args).run Tryz.prog w = .ok (.enter g args) w) (S : Nat → Prop) (v : Value) (L : List F2) (w : World) (h : Vec w S 2 encF v L) (hn : L.length ≤ 1000000) (hp : PredBelow Tryz.prog g lb (fun x => .agg (encF x).toArray) p w) :
    Calls Tryz.prog 111 #[v, .func (.func g) #[] lb] w fun e w' => e = .returned (.bool (L.any p)) ∧ Below w.heap.size w w' := by
  obtain ⟨a, cap, rfl, hcap, h0⟩ := h
  by_cases hz : L = []
  · subst hz
    exact (contF_nil a cap _ w).mono fun e w' ⟨he, hw⟩ => ⟨he, by rw [← hw]; exact Below.refl _ _⟩
  · obtain ⟨b, off, rfl, _, hb, hc⟩ := h0 (List.length_pos_iff.2 hz)
    have hcon := AnyQ.slices_ContainsFunc Tryz.laysCF 2 Tryz.isAgg92 Tryz.sizeOf92 encF (fun _ => rfl) p g lb eg b off L.length cap L w hp (Nat.le_refl _) (by omega) hb (fun j hj i u hi => by
        have e : L[j]? = some L[j]! := by rw [List.getElem?_eq_getElem hj, getElem!_pos L j hj]
        exact hc j _ e i u hi)
    rw [List.take_of_length_le (Nat.le_refl _)] at hcon
    exact hcon
def fieldAtB (F : List F2) (j : Nat) : Bool := wordB (F.getD j default).1 && !((F.take j).any fun x => x.1 == (F.getD j default).1) && decide (1 ≤ (F.getD j default).2) && decide ((F.getD j default).2 ≤ 4)
def fieldsB (F : List F2) : Bool := (List.range F.length).all (fieldAtB F)
def checkS (s : SchemaL) : Int := if s.fields.length < 1 ∨ 5 < s.fields.length then 6 else if fieldsB s.fields = true then checkR s.rules else 6
set_option maxHeartbeats 4000000 in
theorem scheck_any (S : Nat → Prop) (vf vt vn vs : Value) (s : SchemaL) (w : World) (h : SchemaAt w S vf vt vn vs s) :
    Calls Tryz.prog 64 #[.agg #[vf, vt, vn, vs]] w fun e w' => e = .returned (.int .i64 (checkS s)) ∧ Below w.heap.size w w' := by
  obtain ⟨F, r⟩ := s
  obtain ⟨h1, h2⟩ := h
  dsimp only at h1 h2
  obtain ⟨af, cf, rfl⟩ := h1.slice
  have H1 := Lib.hid h1.any; have H2 := Lib.hid h2.any
  clear h1 h2
  have hfin : ∀ n : Int, checkS ⟨F, r⟩ = n → Ending.returned (.int .i64 n) = .returned (.int .i64 (checkS ⟨F, r⟩)) := fun n h => by rw [h]
  have HF := Lib.hid hfin; clear hfin
  by_cases g1 : F.length < 1
  · have d1 : decide ((F.length : Int) < 1) = true := by simp; omega
    go_enter Tryz.func64, Tryz.ntmps64
    go_wp2_with fail
    go_ret
    exact ⟨HF.out 6 (by unfold checkS; rw [if_pos (.inl g1)]), (Below.refl _ _).alloc (Nat.le_refl _) _⟩
  · have d1 : decide ((F.length : Int) < 1) = false := by simp; omega
    by_cases g2 : 5 < F.length
    · have d2 : decide ((5 : Int) < F.length) = true := by simp; omega
      go_enter Tryz.func64, Tryz.ntmps64
      go_wp2_with fail
      go_ret
      exact ⟨HF.out 6 (by unfold checkS; rw [if_pos (.inr g2)]), (Below.refl _ _).alloc (Nat.le_refl _) _⟩
    · have d2 : decide ((5 : Int) < F.length) = false := by simp; omega
      have HN := Lib.hid (show ¬ (F.length < 1 ∨ 5 < F.length) by omega)
      obtain ⟨b, off, rfl, _, hb, hc⟩ := vec_cell2 H1.out (by omega)
      have HC := Lib.hid hc; clear hc
      go_enter Tryz.func64, Tryz.ntmps64
      go_wp2_with fail
      clear d1 d2
      go_loopw [19] (fun i wr => ∃ k : Nat, k ≤ F.length ∧ i = .int .i64 k ∧ wr.heap[w.heap.size]? = some (.cells #[.slice (some ⟨b, off, none⟩) F.length cf, vt, vn, vs] 33 (0, 0)) ∧ Below w.heap.size w wr ∧ ∀ j, j < k → fieldAtB F j = true) (fun i _ => F.length - (intOf i).toNat)
      case atStart => exact ⟨0, by omega, rfl, blk_new rfl, (Below.refl _ _).alloc (Nat.le_refl _) _, fun j hj => by omega⟩
      case round =>
        obtain ⟨k, hk, rfl, hX, hbw, ha⟩ := hrel
        have HA := Lib.hid ha; clear ha
        obtain ⟨p0, p1, p2, p3⟩ := cells4 hX
        have zX := lt_of_blk hX
        have HX := Lib.hid hX; clear hX
        have HW := Lib.hid hbw
        by_cases hlt : k < F.length
        · have hq : decide ((k : Int) < F.length) = true := by simp; omega
          have hi : (k : Int) < (F.length : Int) := by omega
          have hcap := H1.out.len.2
          obtain ⟨x, hx⟩ : ∃ x, F.getD k default = x := ⟨_, rfl⟩
          have hc := HC.out k hlt
          rw [hx] at hc
          have c0 : wr.cell? ⟨b, off + k * 2, none⟩ = some (strV x.1) := (hbw.cell (p := ⟨b, off + k * 2, none⟩) hb).trans (hc 0 _ rfl)
          have c1 : wr.cell? ⟨b, off + k * 2 + 1, none⟩ = some (.int .i64 x.2) := (hbw.cell (p := ⟨b, off + k * 2 + 1, none⟩) hb).trans (hc 1 _ rfl)
          have hfa : fieldAtB F k = (wordB x.1 && !((F.take k).any fun y => y.1 == x.1) && decide (1 ≤ x.2) && decide (x.2 ≤ 4)) := by simp only [fieldAtB]; rw [hx]
          have HFa := Lib.hid hfa
          obtain ⟨nm, kd⟩ := x
          dsimp only at c0 c1 HFa
          clear hx hc hbw hfa
          go_wp2_with fail
          have eg : ∀ args w, (callFunc 112 args).run Tryz.prog w = .ok (.enter 112 args) w := enters_of Tryz.func112 (by kernel_rfl) rfl
          refine (contF_any (fun y => y.1 == nm) 112 #[.pointer (some ⟨wr.heap.size, 0, none⟩)] eg Any1 _ (F.take k) _ ((H1.out.take k (by omega)).below (HW.out.alloc HW.out.size _)) (by have := List.length_take_le k F; omega) (pred_field nm wr.heap.size _ (by simp) (by simp))).mono ?_
          obtain ⟨u, hu⟩ : ∃ u, (F.take k).any (fun y => y.1 == nm) = u := ⟨_, rfl⟩
          rw [hu] at HFa ⊢
          clear eg hu
          rintro e w2 ⟨rfl, hb2⟩
          have hX2 : w2.heap[w.heap.size]? = some (.cells #[.slice (some ⟨b, off, none⟩) F.length cf, vt, vn, vs] 33 (0, 0)) := blk_below hb2 (by simp; omega) (blk_old HX.out)
          have hY2 : w2.heap[wr.heap.size]? = some (.cells #[strV nm, .int .i64 kd] 92 (0, 0)) := blk_below hb2 (by simp) (blk_new rfl)
          have HW2 := Lib.hid ((HW.out.alloc HW.out.size (.cells #[strV nm, .int .i64 kd] 92)).trans (hb2.mono (by have := HW.out.size; simp; omega)))
          have q0 : w2.cell? ⟨wr.heap.size, 0, none⟩ = some (strV nm) := by rw [cell_of_row _ _ _ _ _ _ hY2]; rfl
          have q1 : w2.cell? ⟨wr.heap.size, 1, none⟩ = some (.int .i64 kd) := by rw [cell_of_row _ _ _ _ _ _ hY2]; rfl
          have zX2 := lt_of_blk hX2; have zY2 := lt_of_blk hY2
          have HX2 := Lib.hid hX2; have HY2 := Lib.hid hY2
          clear hb2 hX2 hY2 p0 p1 p2 p3 HX HW c0 c1
          go_wp2_with fail
          refine (word_is nm _).mono ?_
          obtain ⟨wb, hwb⟩ : ∃ wb, wordB nm = wb := ⟨_, rfl⟩
          rw [hwb] at HFa ⊢
          clear hwb
          rintro e w3 ⟨rfl, hb3⟩
          have q0 : w3.cell? ⟨wr.heap.size, 0, none⟩ = some (strV nm) := (hb3.cell (p := ⟨wr.heap.size, 0, none⟩) zY2).trans q0
          have q1 : w3.cell? ⟨wr.heap.size, 1, none⟩ = some (.int .i64 kd) := (hb3.cell (p := ⟨wr.heap.size, 1, none⟩) zY2).trans q1
          have HX3 := Lib.hid (blk_below hb3 zX2 HX2.out)
          have HW3 := Lib.hid (HW2.out.trans (hb3.mono HW2.out.size))
          clear hb3 HX2 HW2 HY2
          cases wb
          · have HFa := Lib.hid (show fieldAtB F k = false by rw [HFa.out]; rfl)
            go_wp2_with fail
            go_ret
            exact ⟨HF.out 6 (by unfold checkS; rw [if_neg HN.out, if_neg (by rw [fieldsB, all_false hlt HFa.out]; simp)]), HW3.out⟩
          · cases u
            · by_cases k1 : 1 ≤ kd
              · by_cases k4 : kd ≤ 4
                · have HFa := Lib.hid (show fieldAtB F k = true by rw [HFa.out]; simp [k1, k4])
                  go_wp2_with fail
                  go_roundw
                  case rel => exact ⟨k + 1, by omega, by go_num, HX3.out, HW3.out, fun j hj => by
                    by_cases e : j = k
                    · subst e; exact HFa.out
                    · exact HA.out j (by omega)⟩
                  case measure => simp [intOf]; omega
                · have HFa := Lib.hid (show fieldAtB F k = false by rw [HFa.out]; simp [k4])
                  have k5 : 4 < kd := by omega
                  go_wp2_with fail
                  go_ret
                  exact ⟨HF.out 6 (by unfold checkS; rw [if_neg HN.out, if_neg (by rw [fieldsB, all_false hlt HFa.out]; simp)]), HW3.out⟩
              · have HFa := Lib.hid (show fieldAtB F k = false by rw [HFa.out]; simp [k1])
                have k5 : kd < 1 := by omega
                go_wp2_with fail
                go_ret
                exact ⟨HF.out 6 (by unfold checkS; rw [if_neg HN.out, if_neg (by rw [fieldsB, all_false hlt HFa.out]; simp)]), HW3.out⟩
            · have HFa := Lib.hid (show fieldAtB F k = false by rw [HFa.out]; simp)
              go_wp2_with fail
              go_ret
              exact ⟨HF.out 6 (by unfold checkS; rw [if_neg HN.out, if_neg (by rw [fieldsB, all_false hlt HFa.out]; simp)]), HW3.out⟩
        · have hq : decide ((k : Int) < F.length) = false := by simp; omega
          clear hbw
          go_wp2_with fail
          refine (rcheck_any Any1 vt vn vs r _ (H2.out.below HW.out)).mono ?_
          obtain ⟨c, hc⟩ : ∃ c, checkR r = c := ⟨_, rfl⟩
          rw [hc]
          have HCc := Lib.hid hc; clear hc
          rintro e w3 ⟨rfl, hb3⟩
          have HW3 := Lib.hid (HW.out.trans (hb3.mono HW.out.size))
          clear hb3
          go_wp2_with fail
          go_ret
          exact ⟨HF.out c (by unfold checkS; rw [if_neg HN.out, if_pos (by rw [fieldsB]; exact all_true fun j hj => HA.out j (by have hj' : j < F.length := hj; omega))]; exact HCc.out), HW3.out⟩
end Go.Proofs.YthdolmofeeniaaaGreatDoor
end
section
/- schema: find. -/
set_option linter.unusedSimpArgs false
set_option linter.unusedVariables false
set_option maxRecDepth 100000
namespace Go.Proofs.YthdolmofeeniaaaGreatDoor
open Go.RowKit Cal
attribute [local go_sem] toList_mk mk_size
/-- what is done with the values of kind k -/
def kindAt (k : Int) : Array Value := if k = 1 then kind1 else if k = 2 then kind2 else if k = 3 then kind3 else if k = 4 then kind4 else kind0
/-- the kind of a field, and the error -/
def findN (s : SchemaL) (f : Int) : Int × Int := if checkS s = 0 then (if 0 ≤ f ∧ f < s.fields.length then ((s.fields.getD f.toNat default).2, 0) else (0, 2)) else (0, checkS s)
def findV (p : Int × Int) : Value := .tuple #[.agg (kindAt p.1), .int .i64 p.2]
theorem check_fields {s : SchemaL} (h : checkS s = 0) : (1 ≤ s.fields.length ∧ s.fields.length ≤ 5) ∧ fieldsB s.fields = true ∧ checkR s.rules = 0 := by
  unfold checkS at h
  split at h
  · omega
  · split at h
    · rename_i h1 h2; exact ⟨by omega, h2, h⟩
    · omega
theorem field_kind {F : List F2} (h : fieldsB F = true) (j : Nat) (hj : j < F.length) : 1 ≤ (F.getD j default).2 ∧ (F.getD j default).2 ≤ 4 := by
  have := List.all_eq_true.1 h j (List.mem_range.2 hj)
  unfold fieldAtB at this
  simp only [Bool.and_eq_true, decide_eq_true_iff] at this
  exact ⟨this.1.2, this.2⟩
theorem heap_setRow {w : World} {g : Nat} {old cs : Array Value} {t : TypeId} {fr : Nat × Nat} (h : w.heap[g]? = some (.cells old t fr)) : (w.setRow g cs).heap[g]? = some (.cells cs t fr) := by
  have hlt := lt_of_blk h
  have h' : w.heap[g] = .cells old t fr := by simpa [Array.getElem?_eq_getElem hlt] using h
  show (w.heap.modify g _)[g]? = _
  rw [Array.getElem?_eq_getElem (by simpa using hlt), Array.getElem_modify_self, h']
theorem below_setRow {B g : Nat} {a w : World} {cs : Array Value} (h : Below B a w) (hg : B ≤ g) : Below B a (w.setRow g cs) := by
  refine ⟨h.os, h.tape, h.output, by simpa [World.setRow] using h.size, fun k hk => ?_⟩
  show (w.heap.modify g _)[k]? = _
  rw [Array.getElem?_modify, if_neg (by omega)]
  exact h.block k hk
set_option maxHeartbeats 1000000 in
theorem find_bad (S : Nat → Prop) (vf vt vn vs : Value) (s : SchemaL) (f : Int) (w : World) (h : SchemaAt w S vf vt vn vs s) (hc : checkS s ≠ 0) :
    Calls Tryz.prog 151 #[.agg #[vf, vt, vn, vs], .int .i64 f] w fun e w' => e = .returned (findV (findN s f)) ∧ Below w.heap.size w w' := by
  have HS := Lib.hid h.any
  have HF := Lib.hid (show findN s f = (0, checkS s) by unfold findN; rw [if_neg hc])
  have hne : (checkS s != 0) = true := by simpa using hc
  clear h hc
  go_enter Tryz.func151, Tryz.ntmps151
  go_wp2_with fail
  refine (scheck_any Any1 vf vt vn vs s _ (HS.out.below (((Below.refl _ _).alloc (Nat.le_refl _) _).alloc (by simp) _))).mono ?_
  obtain ⟨c, hcc⟩ : ∃ c, checkS s = c := ⟨_, rfl⟩
  rw [hcc] at hne HF ⊢
  clear hcc
  rintro e w1 ⟨rfl, hb1⟩
  have X1 : w1.heap[w.heap.size + 1]? = some (.cells kind0 200 (0, 0)) := blk_below hb1 (by simp) (heap_alloc2_new _ _ _)
  have HB1 := Lib.hid ((((Below.refl w.heap.size w).alloc (Nat.le_refl _) (.cells #[vf, vt, vn, vs] 33)).alloc (by simp) (.cells kind0 200)).trans (hb1.mono (by simp; omega)))
  have HX1 := Lib.hid X1
  have z1 := lt_of_blk X1
  clear hb1 X1
  go_wp2_with (refine wpList_store_row rfl 200 (.tmp 4) (.tmp 11) rfl (w.heap.size + 1) kind0 rfl rfl 200 kind0 HX1.out (by kernel_rfl) (by kernel_rfl) (by kernel_rfl) ?_)
  exact bodyPost_row2 rfl rfl (heap_setRow HX1.out) Tryz.underlying200 rfl (by kernel_rfl) ⟨by rw [HF.out]; rfl, below_setRow HB1.out (by omega)⟩
set_option maxHeartbeats 1000000 in
theorem find_out (S : Nat → Prop) (vf vt vn vs : Value) (s : SchemaL) (f : Int) (w : World) (h : SchemaAt w S vf vt vn vs s) (hc : checkS s = 0) (hf : f < 0 ∨ (s.fields.length : Int) ≤ f) :
    Calls Tryz.prog 151 #[.agg #[vf, vt, vn, vs], .int .i64 f] w fun e w' => e = .returned (findV (findN s f)) ∧ Below w.heap.size w w' := by
  obtain ⟨af, cf, rfl⟩ := h.1.slice
  have HS := Lib.hid h.any
  have HF := Lib.hid (show findN s f = (0, 2) by unfold findN; rw [if_pos hc, if_neg (by omega)])
  have HC := Lib.hid hc
  clear h hc
  have hf' : f < 0 ∨ (0 ≤ f ∧ (s.fields.length : Int) ≤ f) := by omega
  clear hf
  rcases hf' with hf | ⟨hf0, hf⟩
  all_goals
    go_enter Tryz.func151, Tryz.ntmps151
    go_wp2_with fail
    refine (scheck_any Any1 _ vt vn vs s _ (HS.out.below (((Below.refl _ _).alloc (Nat.le_refl _) _).alloc (by simp) _))).mono ?_
    rw [HC.out]
    rintro e w1 ⟨rfl, hb1⟩
    have X0 : w1.heap[w.heap.size]? = some (.cells #[.slice af s.fields.length cf, vt, vn, vs] 33 (0, 0)) := blk_below hb1 (by simp; omega) (heap_alloc2_old _ _ _)
    have X1 : w1.heap[w.heap.size + 1]? = some (.cells kind0 200 (0, 0)) := blk_below hb1 (by simp) (heap_alloc2_new _ _ _)
    have HB1 := Lib.hid ((((Below.refl w.heap.size w).alloc (Nat.le_refl _) (.cells #[.slice af s.fields.length cf, vt, vn, vs] 33)).alloc (by simp) (.cells kind0 200)).trans (hb1.mono (by simp; omega)))
    have HX1 := Lib.hid X1
    have z1 := lt_of_blk X1; have z0 := lt_of_blk X0
    obtain ⟨p0, p1, p2, p3⟩ := cells4 X0
    clear hb1 X1 X0
    go_wp2_with (refine wpList_store_row rfl 200 (.tmp 4) (.tmp 22) rfl (w.heap.size + 1) kind0 rfl rfl 200 kind0 HX1.out (by kernel_rfl) (by kernel_rfl) (by kernel_rfl) ?_)
    exact bodyPost_row2 rfl rfl (heap_setRow HX1.out) Tryz.underlying200 rfl (by kernel_rfl) ⟨by rw [HF.out]; rfl, below_setRow HB1.out (by omega)⟩
theorem setRow_other {w : World} {g k : Nat} {cs : Array Value} (h : k ≠ g) : (w.setRow g cs).heap[k]? = w.heap[k]? := by
  show (w.heap.modify g _)[k]? = _
  rw [Array.getElem?_modify, if_neg (fun e => h e.symm)]
theorem index_kind (kd : Int) (h1 : 1 ≤ kd) (h4 : kd ≤ 4) : ∀ w, (Instr.index 240 (.agg kindsV) (.int .i64 kd)).run Tryz.prog w = .ok (.agg (kindAt kd)) w := by
  obtain rfl | rfl | rfl | rfl : kd = 1 ∨ kd = 2 ∨ kd = 3 ∨ kd = 4 := by omega
  · exact fun w => by kernel_rfl
  · exact fun w => by kernel_rfl
  · exact fun w => by kernel_rfl
  · exact fun w => by kernel_rfl
theorem kindAt_one (kd : Int) : (kindAt kd).all (·.oneCell') = true ∧ (kindAt kd).size = 4 := by
  unfold kindAt
  repeat' split
  all_goals exact ⟨by kernel_rfl, by kernel_rfl⟩
set_option maxHeartbeats 4000000 in
theorem find_in' (S : Nat → Prop) (vf vt vn vs : Value) (s : SchemaL) (f : Nat) (w : World) (h : SchemaAt w S vf vt vn vs s) (hc : checkS s = 0) (hf : f < s.fields.length) :
    Calls Tryz.prog 151 #[.agg #[vf, vt, vn, vs], .int .i64 f] w fun e w' => e = .returned (findV (findN s f)) ∧ Below w.heap.size w w' := by
  obtain ⟨af, cf, rfl⟩ := h.1.slice
  obtain ⟨⟨g1, g2⟩, g3, g4⟩ := check_fields hc
  obtain ⟨b, off, rfl, _, hb, hcc⟩ := vec_cell2 h.1 (by omega)
  have hc1 := hcc f hf 1 _ rfl
  obtain ⟨k1, k4⟩ := field_kind g3 f hf
  have HF' := Lib.hid (show findN s f = ((s.fields.getD f default).2, 0) by unfold findN; rw [if_pos hc, if_pos (by omega)]; simp)
  obtain ⟨kd, hkd⟩ : ∃ kd, (s.fields.getD f default).2 = kd := ⟨_, rfl⟩
  rw [hkd] at HF' hc1 k1 k4
  have HF := HF'
  have HS := Lib.hid h.any
  have HC := Lib.hid hc
  have hix := index_kind kd k1 k4
  obtain ⟨ko, ks⟩ := kindAt_one kd
  have KO := Lib.hid ko; have KS := Lib.hid ks
  have HIX := Lib.hid hix
  have HC1 := Lib.hid hc1
  clear h hc g3 g4 hcc hkd HF' ko ks hix hc1
  have hlt' : (f : Int) < (s.fields.length : Int) := by omega
  go_enter Tryz.func151, Tryz.ntmps151
  go_wp2_with fail
  refine (scheck_any Any1 _ vt vn vs s _ (HS.out.below (((Below.refl _ _).alloc (Nat.le_refl _) _).alloc (by simp) _))).mono ?_
  rw [HC.out]
  rintro e w1 ⟨rfl, hb1⟩
  have X0 : w1.heap[w.heap.size]? = some (.cells #[.slice (some ⟨b, off, none⟩) s.fields.length cf, vt, vn, vs] 33 (0, 0)) := blk_below hb1 (by simp; omega) (heap_alloc2_old _ _ _)
  have X1 : w1.heap[w.heap.size + 1]? = some (.cells kind0 200 (0, 0)) := blk_below hb1 (by simp) (heap_alloc2_new _ _ _)
  have HB1 := Lib.hid ((((Below.refl w.heap.size w).alloc (Nat.le_refl _) (.cells #[.slice (some ⟨b, off, none⟩) s.fields.length cf, vt, vn, vs] 33)).alloc (by simp) (.cells kind0 200)).trans (hb1.mono (by simp; omega)))
  have c1 : w1.cell? ⟨b, off + f * 2 + 1, none⟩ = some (.int .i64 kd) := (HB1.out.cell (p := ⟨b, off + f * 2 + 1, none⟩) hb).trans HC1.out
  have HX1 := Lib.hid X1
  have z1 := lt_of_blk X1; have z0 := lt_of_blk X0
  have zb : b < w1.heap.size := Nat.lt_of_lt_of_le hb HB1.out.size
  obtain ⟨p0, p1, p2, p3⟩ := cells4 X0
  clear hb1 X1 X0
  go_wp2_with fail
  refine wp_region_noPanic ?_
  refine wp_region_held_drew (S := (fun w' => w'.cell? ⟨w.heap.size, 0, none⟩ = some (.slice (some ⟨b, off, none⟩) s.fields.length cf) ∧ w'.cell? ⟨b, off + f * 2 + 1, none⟩ = some (.int .i64 kd))) (by kernel_rfl) (⟨p0, c1⟩) (fun hHeld => ?_)
  refine wpAnyH_take (i := 1) (v := ?_) rfl (by kernel_rfl) (by kernel_rfl) (by kernel_rfl) (fun _ _ _ h => h) (Or.inl ⟨by rfl, ?_⟩) (by assumption) ?_
  rotate_left 1
  · (intro wS hSw; (try dsimp only at hSw); go_simp; try with_reducible rfl)
  try simp only [List.getElem_toArray, List.getElem_cons_zero, List.getElem_cons_succ, Act.put, List.setIfInBounds_toArray, List.set_cons_zero, List.set_cons_succ]
  refine wpAnyH_take (i := 2) (v := ?_) rfl (by kernel_rfl) (by kernel_rfl) (by kernel_rfl) (fun _ _ _ h => h) (Or.inl ⟨by rfl, ?_⟩) (by assumption) ?_
  rotate_left 1
  · (intro wS hSw; (try dsimp only at hSw); go_simp; try with_reducible rfl)
  try simp only [List.getElem_toArray, List.getElem_cons_zero, List.getElem_cons_succ, Act.put, List.setIfInBounds_toArray, List.set_cons_zero, List.set_cons_succ]
  refine wpAnyH_take (i := 3) (v := ?_) rfl (by kernel_rfl) (by kernel_rfl) (by kernel_rfl) (fun _ _ _ h => h) (Or.inl ⟨by rfl, ?_⟩) (by assumption) ?_
  rotate_left 1
  · (intro wS hSw; (try dsimp only at hSw); go_simp; try with_reducible rfl)
  try simp only [List.getElem_toArray, List.getElem_cons_zero, List.getElem_cons_succ, Act.put, List.setIfInBounds_toArray, List.set_cons_zero, List.set_cons_succ]
  refine wpAnyH_take (i := 4) (v := ?_) rfl (by kernel_rfl) (by kernel_rfl) (by kernel_rfl) (fun _ _ _ h => h) (Or.inl ⟨by rfl, ?_⟩) (by assumption) ?_
  rotate_left 1
  · (intro wS hSw; (try dsimp only at hSw); go_simp; try with_reducible rfl)
  try simp only [List.getElem_toArray, List.getElem_cons_zero, List.getElem_cons_succ, Act.put, List.setIfInBounds_toArray, List.set_cons_zero, List.set_cons_succ]
  refine wpAnyH_take (i := 5) (v := ?_) rfl (by kernel_rfl) (by kernel_rfl) (by kernel_rfl) (fun _ _ _ h => h) (Or.inl ⟨by rfl, ?_⟩) (by assumption) ?_
  rotate_left 1
  · (intro wS hSw; (try dsimp only at hSw); go_simp; try with_reducible rfl)
  try simp only [List.getElem_toArray, List.getElem_cons_zero, List.getElem_cons_succ, Act.put, List.setIfInBounds_toArray, List.set_cons_zero, List.set_cons_succ]
  refine wpAnyH_take (i := 6) (v := ?_) rfl (by kernel_rfl) (by kernel_rfl) (by kernel_rfl) (fun _ _ _ h => h) (Or.inl ⟨by rfl, ?_⟩) (by assumption) ?_
  rotate_left 1
  · (intro wS hSw; (try dsimp only at hSw); go_simp; try with_reducible rfl)
  try simp only [List.getElem_toArray, List.getElem_cons_zero, List.getElem_cons_succ, Act.put, List.setIfInBounds_toArray, List.set_cons_zero, List.set_cons_succ]
  refine wpAnyH_ready (rs := [0]) (by kernel_rfl) (by simp) ?_
  refine AllReadyH.cons rfl (fun K hK => ?_) AllReadyH.nil
  go_simp
  refine (kinds_any _).mono ?_; rintro e w2 ⟨rfl, hb2⟩; have p0a := (hb2.cell (p := ⟨w.heap.size, 0, none⟩) z0).trans p0; have c1a := (hb2.cell (p := ⟨b, off + f * 2 + 1, none⟩) zb).trans c1; have HB2 := Lib.hid (HB1.out.drew.trans (hb2.mono HB1.out.size)); have HX2 := Lib.hid (blk_below hb2 z1 HX1.out)
  refine hK.out _ _ (⟨p0a, c1a⟩) (fun hHeld => ?_)
  clear hK K
  try simp only [List.getElem_toArray, List.getElem_cons_zero, List.getElem_cons_succ, Act.put, List.setIfInBounds_toArray, List.set_cons_zero, List.set_cons_succ]
  have hix := HIX.out
  refine wpAnyH_take (i := 7) (v := ?_) rfl (by kernel_rfl) (by kernel_rfl) (by kernel_rfl) (fun _ _ _ h => h) (Or.inl ⟨by rfl, ?_⟩) (by assumption) ?_
  rotate_left 1
  · (intro wS hSw; (try dsimp only at hSw); go_simp; try with_reducible rfl)
  try simp only [List.getElem_toArray, List.getElem_cons_zero, List.getElem_cons_succ, Act.put, List.setIfInBounds_toArray, List.set_cons_zero, List.set_cons_succ]
  refine wpAnyH_ready (rs := [8]) (by kernel_rfl) (by simp) ?_
  refine AllReadyH.cons rfl (fun K hK => ?_) AllReadyH.nil
  refine wp_store_row 200 (.tmp 4) (.tmp 30) rfl (w.heap.size + 1) (kindAt kd) rfl rfl 200 kind0 HX2.out (by rw [KS.out]; kernel_rfl) (by rw [KS.out]; rfl) KO.out ?_
  have p0b : (w2.setRow (w.heap.size + 1) (kindAt kd)).cell? ⟨w.heap.size, 0, none⟩ = some (.slice (some ⟨b, off, none⟩) s.fields.length cf) := (World.cell?_of_block (w := w2) (a := ⟨w.heap.size, 0, none⟩) (setRow_other (show w.heap.size ≠ w.heap.size + 1 by omega))).trans p0a
  have c1b : (w2.setRow (w.heap.size + 1) (kindAt kd)).cell? ⟨b, off + f * 2 + 1, none⟩ = some (.int .i64 kd) := (World.cell?_of_block (w := w2) (a := ⟨b, off + f * 2 + 1, none⟩) (setRow_other (show b ≠ w.heap.size + 1 by omega))).trans c1a
  refine hK.out _ _ ⟨p0b, c1b⟩ (fun hHeld => ?_)
  clear hK K
  try simp only [List.getElem_toArray, List.getElem_cons_zero, List.getElem_cons_succ, Act.put, List.setIfInBounds_toArray, List.set_cons_zero, List.set_cons_succ]
  refine wpAnyH_take (i := 9) (v := ?_) rfl (by kernel_rfl) (by kernel_rfl) (by kernel_rfl) (fun _ _ _ h => h) (Or.inl ⟨by rfl, ?_⟩) (by assumption) ?_
  rotate_left 1
  · (intro wS hSw; (try dsimp only at hSw); go_simp; try with_reducible rfl)
  try simp only [List.getElem_toArray, List.getElem_cons_zero, List.getElem_cons_succ, Act.put, List.setIfInBounds_toArray, List.set_cons_zero, List.set_cons_succ]
  refine wpAnyH_done (by kernel_rfl) ?_ _
  refine NoPanic.normal ?_
  go_wp2_with fail
  exact bodyPost_row2 rfl rfl (heap_setRow HX2.out) Tryz.underlying200 rfl (by rw [KS.out]; kernel_rfl) ⟨by rw [HF.out]; rfl, below_setRow HB2.out (by omega)⟩
theorem find_s (S : Nat → Prop) (vf vt vn vs : Value) (s : SchemaL) (f : Int) (w : World) (h : SchemaAt w S vf vt vn vs s) :
    Calls Tryz.prog 151 #[.agg #[vf, vt, vn, vs], .int .i64 f] w fun e w' => e = .returned (findV (findN s f)) ∧ Below w.heap.size w w' := by
  by_cases hc : checkS s = 0
  · by_cases hf : 0 ≤ f ∧ f < s.fields.length
    · obtain ⟨n, rfl⟩ := Int.eq_ofNat_of_zero_le hf.1
      exact find_in' S vf vt vn vs s n w h hc (by omega)
    · exact find_out S vf vt vn vs s f w h hc (by omega)
  · exact find_bad S vf vt vn vs s f w h hc
end Go.Proofs.YthdolmofeeniaaaGreatDoor
end
section
/- schema: Normalise, Normal. -/
set_option linter.unusedSimpArgs false
set_option linter.unusedVariables false
set_option maxRecDepth 100000
namespace Go.Proofs.YthdolmofeeniaaaGreatDoor
open Go.RowKit Cal
attribute [local go_sem] toList_mk mk_size
def normK (k : Int) (r : RulesL) (l : List UInt8) : List UInt8 × Int := if k = 1 then nameN r l else if k = 2 then dayN l else if k = 3 then codeN l else addrN r l
/-- the normal form of a raw value, and the error -/
def valueN (s : SchemaL) (f : Int) (l : List UInt8) : List UInt8 × Int := if (findN s f).2 = 0 then (if l = [] then ([], 0) else normK (findN s f).1 s.rules l) else ([], (findN s f).2)
def ownK (k : Int) (r : RulesL) (l : List UInt8) : Bool := if k = 1 then isOwn (nameN r l) l else if k = 2 then readB l else if k = 3 then isOwn (codeN l) l else isOwn (addrN r l) l
/-- is a value in normal form -/
def normalB (s : SchemaL) (f : Int) (l : List UInt8) : Bool := if (findN s f).2 = 0 then (if l = [] then true else ownK (findN s f).1 s.rules l) else false
theorem findN_kind {s : SchemaL} {f : Int} (h : (findN s f).2 = 0) : (findN s f).1 = 1 ∨ (findN s f).1 = 2 ∨ (findN s f).1 = 3 ∨ (findN s f).1 = 4 := by
  by_cases hc : checkS s = 0
  · unfold findN at h ⊢
    rw [if_pos hc] at h ⊢
    by_cases hf : 0 ≤ f ∧ f < s.fields.length
    · rw [if_pos hf]
      have := field_kind (check_fields hc).2.1 f.toNat (by omega)
      dsimp only
      omega
    · rw [if_neg hf] at h
      simp at h
  · unfold findN at h
    rw [if_neg hc] at h
    exact absurd h hc
end Go.Proofs.YthdolmofeeniaaaGreatDoor
end
section
/- Plain law: a normal form is normal. -/
set_option linter.unusedSimpArgs false
set_option linter.unusedVariables false
set_option maxRecDepth 100000
namespace Go.Proofs.YthdolmofeeniaaaGreatDoor
open Go.RowKit Cal
/-- a token: not empty, of letters and digits -/
def okT (t : List UInt8) : Prop := t ≠ [] ∧ ∀ b ∈ t, okB b = true ∧ b ≠ 32
theorem toksA_run (t : List UInt8) (h : ∀ b ∈ t, b ≠ 32) : ∀ p r, toksA p (t ++ r) = toksA (p ++ t) r := by
  induction t with
  | nil => intro p r; simp
  | cons c t ih =>
    intro p r
    rw [List.cons_append, toksA_ch _ _ _ (h c List.mem_cons_self), ih (fun b hb => h b (List.mem_cons_of_mem _ hb)), List.append_assoc]
    rfl
theorem toks_join : ∀ (L : List (List UInt8)), (∀ t ∈ L, okT t) → toks (joinL L) = L := by
  intro L
  induction L with
  | nil => intro _; rfl
  | cons t L ih =>
    intro h
    obtain ⟨h1, h2⟩ := h t List.mem_cons_self
    have hr := ih fun x hx => h x (List.mem_cons_of_mem _ hx)
    unfold toks at hr ⊢
    by_cases hL : L = []
    · subst hL
      rw [show joinL [t] = t ++ [] by simp [joinL], toksA_run t (fun b hb => (h2 b hb).2), List.nil_append, toksA_end _ h1]
    · rw [join_cons_ne _ _ hL, List.append_assoc, toksA_run t (fun b hb => (h2 b hb).2), List.nil_append, List.cons_append, List.nil_append, toksA_sp _ _ h1, hr]
theorem join_ok (L : List (List UInt8)) (h : ∀ t ∈ L, okT t) : ∀ b ∈ joinL L, okB b = true := by
  intro b hb
  rcases join_mem L b hb with h1 | ⟨t, ht, hbt⟩
  · subst h1; rfl
  · exact ((h t ht).2 b hbt).1
theorem ok_plain {b : UInt8} (h : okB b = true) : plainB b = [b] := by
  have hlt := okB_lt h
  unfold plainB
  by_cases hu : isUp b = true
  · exfalso
    unfold okB at h
    simp only [Bool.or_eq_true, low_iff, dig_iff, decide_eq_true_iff, beq_iff_eq] at h
    rw [up_iff, decide_eq_true_iff] at hu
    rcases h with (h | h) | h
    · omega
    · omega
    · subst h; simp at hu
  · rw [if_neg hu]
    unfold okB at h
    simp only [Bool.or_eq_true, beq_iff_eq] at h
    rcases h with h | h
    · rw [if_pos (by simpa using h)]
    · subst h; rfl
theorem ok_pair {a b : UInt8} (h : okB a = true) : isPair a b = false := by
  have hlt := okB_lt h
  rw [pair_iff]; simp; omega
theorem ok_byte {b : UInt8} (h : okB b = true) : okByte b = true := by
  unfold okB at h
  simp only [Bool.or_eq_true, low_iff, dig_iff, decide_eq_true_iff, beq_iff_eq] at h
  rw [ok_iff, decide_eq_true_iff]
  rcases h with (h | h) | h
  · omega
  · omega
  · subst h; decide
theorem raw_same (l : List UInt8) (h : ∀ b ∈ l, okB b = true) : rawL l = l ∧ validL l = true := by
  induction l using rawL.induct with
  | case1 => exact ⟨rfl, rfl⟩
  | case2 a => exact ⟨by simp only [rawL]; exact ok_plain (h a (by simp)), by simp only [validL]; exact ok_byte (h a (by simp))⟩
  | case3 a b r hp ih => exfalso; rw [ok_pair (h a (by simp))] at hp; cases hp
  | case4 a b r hp ih =>
    have hp' := ok_pair (a := a) (b := b) (h a (by simp))
    have := ih fun x hx => h x (List.mem_cons_of_mem _ hx)
    refine ⟨?_, ?_⟩
    · rw [rawL, hp']; simp only [Bool.false_eq_true, if_false]; rw [this.1, ok_plain (h a (by simp))]; rfl
    · rw [validL, hp']; simp only [Bool.false_eq_true, if_false]; rw [this.2, ok_byte (h a (by simp))]; rfl
theorem fold_same (L : List (List UInt8)) (h : ∀ t ∈ L, okT t) : foldL (joinL L) = joinL L ∧ toks (foldL (joinL L)) = L := by
  have h1 := (raw_same (joinL L) (join_ok L h)).1
  have h2 := toks_join L h
  have h3 : foldL (joinL L) = joinL L := by unfold foldL; rw [h1, h2]
  exact ⟨h3, by rw [h3, h2]⟩
theorem foldV_join (L : List (List UInt8)) (h : ∀ t ∈ L, okT t) (hl : (joinL L).length ≤ 64) : foldV (joinL L) = true := by
  unfold foldV
  rw [(raw_same (joinL L) (join_ok L h)).2]; simpa using hl
theorem toksA_ne (l : List UInt8) : ∀ p, ∀ t ∈ toksA p l, t ≠ [] := by
  induction l with
  | nil =>
    intro p t ht
    simp only [toksA] at ht
    split at ht
    · simp at ht
    · simp at ht; subst ht; assumption
  | cons c l ih =>
    intro p t ht
    by_cases hc : c = 32
    · subst hc
      by_cases hp : p = []
      · subst hp; rw [toksA_sp0] at ht; exact ih [] t ht
      · rw [toksA_sp _ _ hp] at ht
        rcases List.mem_cons.1 ht with rfl | ht
        · exact hp
        · exact ih [] t ht
    · rw [toksA_ch _ _ _ hc] at ht; exact ih _ t ht
theorem toks_ok (l : List UInt8) : ∀ t ∈ toks (foldL l), okT t := by
  intro t ht
  refine ⟨toksA_ne _ [] t ht, fun b hb => ?_⟩
  rcases toksA_mem _ [] t ht b hb with h | h
  · simp at h
  · exact ⟨fold_ok l b h.1, h.2⟩
end Go.Proofs.YthdolmofeeniaaaGreatDoor
end
section
/- Plain law: a text in other dress has the same tokens. -/
set_option linter.unusedSimpArgs false
set_option linter.unusedVariables false
set_option maxRecDepth 100000
namespace Go.Proofs.YthdolmofeeniaaaGreatDoor
open Go.RowKit
/-- two beginnings of a text that any rest continues to the same tokens -/
def EqL (a b : List UInt8) : Prop := ∀ r, toksA [] (a ++ r) = toksA [] (b ++ r)
theorem EqL.refl (a : List UInt8) : EqL a a := fun _ => rfl
theorem EqL.app {a b : List UInt8} (h : EqL a b) (c : List UInt8) : EqL (a ++ c) (b ++ c) := fun r => by rw [List.append_assoc, List.append_assoc]; exact h _
theorem EqL.trans {a b c : List UInt8} (h : EqL a b) (h' : EqL b c) : EqL a c := fun r => (h r).trans (h' r)
theorem EqL.lead : EqL [32] [] := fun r => toksA_sp0 r
theorem toksA_two (l : List UInt8) : ∀ p r, toksA p (l ++ 32 :: 32 :: r) = toksA p (l ++ 32 :: r) := by
  induction l with
  | nil =>
    intro p r
    simp only [List.nil_append]
    by_cases hp : p = []
    · subst hp; rw [toksA_sp0]
    · rw [toksA_sp _ _ hp, toksA_sp _ _ hp, toksA_sp0]
  | cons c l ih =>
    intro p r
    simp only [List.cons_append]
    by_cases hc : c = 32
    · subst hc
      by_cases hp : p = []
      · subst hp; rw [toksA_sp0, toksA_sp0, ih]
      · rw [toksA_sp _ _ hp, toksA_sp _ _ hp, ih]
    · rw [toksA_ch _ _ _ hc, toksA_ch _ _ _ hc, ih]
theorem EqL.two (a : List UInt8) : EqL (a ++ [32, 32]) (a ++ [32]) := fun r => by
  rw [List.append_assoc, List.append_assoc]; exact toksA_two a [] r
theorem toksA_last (l : List UInt8) : ∀ p, toksA p (l ++ [32]) = toksA p l := by
  induction l with
  | nil =>
    intro p
    simp only [List.nil_append]
    by_cases hp : p = []
    · subst hp; rw [toksA_sp0]
    · rw [toksA_sp _ _ hp, toksA_end _ hp]; rfl
  | cons c l ih =>
    intro p
    simp only [List.cons_append]
    by_cases hc : c = 32
    · subst hc
      by_cases hp : p = []
      · subst hp; rw [toksA_sp0, toksA_sp0, ih]
      · rw [toksA_sp _ _ hp, toksA_sp _ _ hp, ih]
    · rw [toksA_ch _ _ _ hc, toksA_ch _ _ _ hc, ih]
def allOk (l : List UInt8) : Prop := ∀ b ∈ l, okByte b = true
theorem allOk.app {a b : List UInt8} (h : allOk a) (h' : allOk b) : allOk (a ++ b) := fun c hc => (List.mem_append.1 hc).elim (h c) (h' c)
def plainL (l : List UInt8) : List UInt8 := l.flatMap plainB
theorem plainL_app (a b : List UInt8) : plainL (a ++ b) = plainL a ++ plainL b := List.flatMap_append
theorem byte_pair {a b : UInt8} (h : okByte a = true) : isPair a b = false := by
  rw [ok_iff, decide_eq_true_iff] at h
  rw [pair_iff]; simp; omega
theorem raw_flat (l : List UInt8) (h : allOk l) : rawL l = plainL l ∧ validL l = true := by
  induction l using rawL.induct with
  | case1 => exact ⟨rfl, rfl⟩
  | case2 a => exact ⟨by simp [rawL, plainL], by simp only [validL]; exact h a (by simp)⟩
  | case3 a b r hp ih => exfalso; rw [byte_pair (h a (by simp))] at hp; cases hp
  | case4 a b r hp ih =>
    have hp' := byte_pair (a := a) (b := b) (h a (by simp))
    have := ih fun x hx => h x (List.mem_cons_of_mem _ hx)
    refine ⟨?_, ?_⟩
    · rw [rawL, hp']; simp only [Bool.false_eq_true, if_false]; rw [this.1]; simp [plainL]
    · rw [validL, hp']; simp only [Bool.false_eq_true, if_false]; rw [this.2, h a (by simp)]; rfl
/-- what a beginning of a folded text becomes -/
structure DressTo (p o : List UInt8) : Prop where
  ok : allOk o
  eq : EqL (plainL o) p
  len : o.length ≤ 1 + 2 * p.length
/-- a text in another dress -/
structure DressOf (l o : List UInt8) : Prop where
  ok : allOk o
  eq : toks (rawL o) = toks l
  len : o.length ≤ 2 + 2 * l.length
def dressA : List (List UInt8) := [[], [], [32], [45]]
def dressB : List (List UInt8) := [[32], [45], [44, 32], [46], [32, 32], [47]]
def dressC : List (List UInt8) := [[], [], [32], [46]]
theorem allOk_dec {l : List UInt8} (h : l.all okByte = true) : allOk l := List.all_eq_true.1 h
theorem DressTo.start {o : List UInt8} (h : o ∈ dressA) : DressTo [] o := by
  simp [dressA] at h
  rcases h with rfl | rfl | rfl
  · exact ⟨allOk_dec rfl, EqL.refl _, by simp⟩
  · exact ⟨allOk_dec rfl, EqL.lead, by simp⟩
  · exact ⟨allOk_dec rfl, EqL.lead, by simp⟩
theorem DressTo.space {p o x : List UInt8} (h : DressTo p o) (hx : x ∈ dressB) : DressTo (p ++ [32]) (o ++ x) := by
  simp [dressB] at hx
  rcases hx with rfl | rfl | rfl | rfl | rfl | rfl
  · exact ⟨h.ok.app (allOk_dec rfl), by rw [plainL_app]; exact h.eq.app [32], by have := h.len; simp; omega⟩
  · exact ⟨h.ok.app (allOk_dec rfl), by rw [plainL_app]; exact h.eq.app [32], by have := h.len; simp; omega⟩
  · exact ⟨h.ok.app (allOk_dec rfl), by rw [plainL_app]; exact (EqL.two _).trans (h.eq.app [32]), by have := h.len; simp; omega⟩
  · exact ⟨h.ok.app (allOk_dec rfl), by rw [plainL_app]; exact h.eq.app [32], by have := h.len; simp; omega⟩
  · exact ⟨h.ok.app (allOk_dec rfl), by rw [plainL_app]; exact (EqL.two _).trans (h.eq.app [32]), by have := h.len; simp; omega⟩
  · exact ⟨h.ok.app (allOk_dec rfl), by rw [plainL_app]; exact h.eq.app [32], by have := h.len; simp; omega⟩
theorem DressTo.byte {p o : List UInt8} {c x : UInt8} (h : DressTo p o) (hx : okByte x = true) (hp : plainB x = [c]) : DressTo (p ++ [c]) (o ++ [x]) :=
  ⟨h.ok.app (fun b hb => by simp at hb; subst hb; exact hx), by rw [plainL_app, show plainL [x] = [c] by simp [plainL, hp]]; exact h.eq.app [c], by have := h.len; simp; omega⟩
theorem DressTo.mark {p o : List UInt8} {c x : UInt8} (h : DressTo p o) (hx : okByte x = true) (hp : plainB x = [c]) : DressTo (p ++ [c]) (o ++ [x] ++ [39]) :=
  ⟨(h.ok.app (fun b hb => by simp at hb; subst hb; exact hx)).app (allOk_dec rfl), by rw [plainL_app, plainL_app, show plainL [39] = [] from rfl, List.append_nil, show plainL [x] = [c] by simp [plainL, hp]]; exact h.eq.app [c], by have := h.len; simp; omega⟩
theorem DressTo.done {p o x : List UInt8} (h : DressTo p o) (hx : x ∈ dressC) : DressOf p (o ++ x) := by
  have e : ∀ q : List UInt8, toks (plainL o ++ q) = toksA [] (p ++ q) := fun q => h.eq q
  have e0 := h.eq []
  simp only [List.append_nil] at e0
  simp [dressC] at hx
  rcases hx with rfl | rfl | rfl
  · exact ⟨h.ok.app (allOk_dec rfl), by rw [(raw_flat _ (h.ok.app (allOk_dec rfl))).1, List.append_nil]; exact e0, by have := h.len; simp; omega⟩
  · exact ⟨h.ok.app (allOk_dec rfl), by rw [(raw_flat _ (h.ok.app (allOk_dec rfl))).1, plainL_app]; exact (e [32]).trans (toksA_last p []), by have := h.len; simp; omega⟩
  · exact ⟨h.ok.app (allOk_dec rfl), by rw [(raw_flat _ (h.ok.app (allOk_dec rfl))).1, plainL_app]; exact (e [32]).trans (toksA_last p []), by have := h.len; simp; omega⟩
/-- a byte of a folded text that is no space stands for itself -/
theorem plain_self {c : UInt8} (h : okB c = true) : okByte c = true ∧ plainB c = [c] := ⟨ok_byte h, ok_plain h⟩
/-- .. and so does a letter written great -/
theorem plain_up {c : UInt8} (h : isLow c = true) : okByte (c - 32) = true ∧ plainB (c - 32) = [c] := by
  rw [low_iff, decide_eq_true_iff] at h
  have e : (c - 32).toNat = c.toNat - 32 := by
    rw [UInt8.toNat_sub_of_le]
    · rfl
    · rw [UInt8.le_iff_toNat_le]; show 32 ≤ _; omega
  have hu : isUp (c - 32) = true := by rw [up_iff, decide_eq_true_iff, e]; omega
  refine ⟨?_, ?_⟩
  · rw [ok_iff, decide_eq_true_iff, e]; omega
  · unfold plainB; rw [if_pos hu, UInt8.sub_add_cancel]
end Go.Proofs.YthdolmofeeniaaaGreatDoor
end
section
/- Plain law: the rules and schemas that the deck deals are valid. -/
set_option linter.unusedSimpArgs false
set_option linter.unusedVariables false
set_option maxRecDepth 100000
namespace Go.Proofs.YthdolmofeeniaaaGreatDoor
open Go.RowKit
def t1L : List (List UInt8) := [[100, 114], [118, 97, 110]]
def n1L : List P2 := [([97, 110, 110, 97], [97, 110, 110]), ([98, 111, 98], [114, 111, 98, 101, 114, 116])]
def s1L : List P2 := [([114, 100], [114, 111, 97, 100]), ([115, 116], [115, 116, 114, 101, 101, 116])]
/-- rules that are dealt -/
structure RulesD (r : RulesL) : Prop where
  t : r.titles = [] ∨ r.titles = t1L
  n : r.nicks = [] ∨ r.nicks = n1L
  s : r.streets = [] ∨ r.streets = s1L
theorem RulesD.check {r : RulesL} (h : RulesD r) : checkR r = 0 := by
  obtain ⟨t, n, s⟩ := r
  obtain ⟨h1, h2, h3⟩ := h
  dsimp only at h1 h2 h3
  rcases h1 with rfl | rfl <;> rcases h2 with rfl | rfl <;> rcases h3 with rfl | rfl <;> decide
def namesD : List (List UInt8) := [[102, 97, 109, 105, 108, 121], [103, 105, 118, 101, 110], [98, 105, 114, 116, 104], [115, 116, 114, 101, 101, 116], [99, 111, 100, 101]]
/-- the first fields of a schema that is dealt -/
structure FieldsD (F : List F2) : Prop where
  len : F.length ≤ 4
  names : F.map (·.1) = namesD.take F.length
  kinds : ∀ x ∈ F, 1 ≤ x.2 ∧ x.2 ≤ 4
theorem FieldsD.nil : FieldsD [] := ⟨by simp, rfl, by simp⟩
theorem FieldsD.snoc {F : List F2} (h : FieldsD F) (hl : F.length < 4) {k : Int} (h1 : 1 ≤ k) (h2 : k ≤ 4) : FieldsD (F ++ [(namesD.getD F.length [], k)]) := by
  refine ⟨by simp; omega, ?_, fun x hx => ?_⟩
  · have hn : F.length < namesD.length := by show F.length < 5; omega
    rw [List.map_append, h.names, List.length_append, List.length_singleton, List.take_succ_eq_append_getElem hn, List.getD, List.getElem?_eq_getElem hn]
    rfl
  · rcases List.mem_append.1 hx with hx | hx
    · exact h.kinds x hx
    · simp at hx; subst hx; exact ⟨h1, h2⟩
theorem names_ok : ∀ n : Fin 5, ∀ j : Fin n, (wordB (namesD.getD j []) && !(((namesD.take n).take j).any fun x => x == namesD.getD j [])) = true := by decide
theorem FieldsD.check {F : List F2} (h : FieldsD F) (h1 : 1 ≤ F.length) {r : RulesL} (hr : checkR r = 0) : checkS ⟨F, r⟩ = 0 := by
  have hl := h.len
  have hf : fieldsB F = true := by
    refine List.all_eq_true.2 fun j hj => ?_
    have hj' : j < F.length := List.mem_range.1 hj
    have hk := names_ok ⟨F.length, by omega⟩ ⟨j, hj'⟩
    have e1 : (F.getD j default).1 = namesD.getD j [] := by
      have hjn : j < (F.map (·.1)).length := by simpa using hj'
      have : (F.map (·.1)).getD j [] = namesD.getD j [] := by
        rw [h.names, List.getD, List.getElem?_take, if_pos hj', List.getD]
      rw [← this, List.getD, List.getElem?_eq_getElem hj', List.getD, List.getElem?_map, List.getElem?_eq_getElem hj']; rfl
    have e2 : ((F.take j).any fun x => x.1 == (F.getD j default).1) = ((namesD.take F.length).take j).any fun x => x == namesD.getD j [] := by
      rw [e1, ← h.names, ← List.map_take, List.any_map]; rfl
    have hm : F.getD j default ∈ F := by rw [List.getD, List.getElem?_eq_getElem hj']; exact List.getElem_mem hj'
    obtain ⟨k1, k2⟩ := h.kinds _ hm
    unfold fieldAtB
    rw [e2, e1]
    dsimp only at hk
    rw [hk, decide_eq_true k1, decide_eq_true k2]; rfl
  unfold checkS
  rw [if_neg (by dsimp only; omega), if_pos hf]; exact hr
end Go.Proofs.YthdolmofeeniaaaGreatDoor
end
section
/- recordlinkmake: Rules: some valid rules. -/
set_option linter.unusedSimpArgs false
set_option linter.unusedVariables false
set_option maxRecDepth 100000
namespace Go.Proofs.YthdolmofeeniaaaGreatDoor
open Go.RowKit
attribute [local go_sem] toList_mk mk_size str_append
theorem blockVec {w : World} {A : Nat} {α : Type} {k : Nat} {enc : α → List Value} (hk : ∀ x, (enc x).length = k) {t : TypeId} {L : List α} {S : Nat → Prop} (h : w.heap[A]? = some (.cells (L.flatMap enc).toArray t (0, 0))) (hS : S A) (n : Nat) (hn : n = L.length) : Vec w S k enc (.slice (some ⟨A, 0, none⟩) n n) L := by
  subst hn
  refine ⟨_, _, rfl, Nat.le_refl _, fun _ => ⟨A, 0, rfl, hS, lt_of_blk h, fun j x hj i u hu => ?_⟩⟩
  have hi : i < k := by rw [← hk x]; exact (List.getElem?_eq_some_iff.1 hu).1
  rw [cell_of_row _ _ _ _ _ _ h, Nat.zero_add, List.getElem?_toArray, flat_get hk L j x hj i hi]
  exact hu
theorem Vec.put {α : Type} {w : World} {S : Nat → Prop} {k : Nat} {enc : α → List Value} {v : Value} {L : List α} (h : Vec w S k enc v L) {a : Addr} (ha : ∀ b, S b → b ≠ a.block) (x : Value) (o : Obj) : Vec ((w.setCell a x).alloc o) S k enc v L :=
  h.move (by simp [World.setCell]) fun b hb hS => ⟨by rw [heap_alloc_old _ _ (by simpa [World.setCell] using hb), heap_setCell_other _ _ _ _ (ha b hS)], hS⟩
theorem Vec.weaken {α : Type} {w : World} {S S' : Nat → Prop} {k : Nat} {enc : α → List Value} {v : Value} {L : List α} (h : Vec w S k enc v L) (hs : ∀ b, S b → S' b) : Vec w S' k enc v L := h.move (Nat.le_refl _) fun b _ h => ⟨rfl, hs b h⟩
theorem set_new (v : World) (a : Addr) (x : Value) (o : Obj) : ((v.setCell a x).alloc o).heap[v.heap.size]? = some o := blk_new (by simp [World.setCell])
theorem Vec.set1 {α : Type} {w : World} {S : Nat → Prop} {k : Nat} {enc : α → List Value} {v : Value} {L : List α} (h : Vec w S k enc v L) {a : Addr} (ha : ∀ b, S b → b ≠ a.block) (x : Value) : Vec (w.setCell a x) S k enc v L :=
  h.move (by simp [World.setCell]) fun b hb hS => ⟨by rw [heap_setCell_other _ _ _ _ (ha b hS)], hS⟩
theorem RulesAt.set3 {w : World} {S : Nat → Prop} {vt vn vs : Value} {r : RulesL} (h : RulesAt w S vt vn vs r) {a b c : Addr} (ha : ∀ k, S k → k ≠ a.block) (hb : ∀ k, S k → k ≠ b.block) (hc : ∀ k, S k → k ≠ c.block) (x y z : Value) : RulesAt (((w.setCell a x).setCell b y).setCell c z) S vt vn vs r :=
  ⟨((h.1.set1 ha x).set1 hb y).set1 hc z, ((h.2.1.set1 ha x).set1 hb y).set1 hc z, ((h.2.2.set1 ha x).set1 hb y).set1 hc z⟩
theorem RulesAt.weaken {w : World} {S S' : Nat → Prop} {vt vn vs : Value} {r : RulesL} (h : RulesAt w S vt vn vs r) (hs : ∀ b, S b → S' b) : RulesAt w S' vt vn vs r := ⟨h.1.weaken hs, h.2.1.weaken hs, h.2.2.weaken hs⟩
/-- while rules are dealt: the result's block, the block of the rules, what these hold -/
def RMid (D : Nat) (w wc : World) : Prop := ∃ vt vn vs r, wc.heap[w.heap.size]? = some (.cells #[.slice none 0 0, .slice none 0 0, .slice none 0 0] 31 (0, 0)) ∧ wc.heap[w.heap.size + 1]? = some (.cells #[vt, vn, vs] 31 (0, 0)) ∧ RulesAt wc (fun b => w.heap.size + 1 < b) vt vn vs r ∧ RulesD r ∧ Moved D w wc
theorem RMid.moved {D : Nat} {w wc wd : World} (h : RMid D w wc) (hD : D < w.heap.size) (m : Moved D wc wd) : RMid D w wd := by
  obtain ⟨vt, vn, vs, r, hz, hy, hr, hd, hm⟩ := h
  refine ⟨vt, vn, vs, r, m.blk (by omega) hz, m.blk (by omega) hy, ?_, hd, hm.trans m⟩
  exact ⟨hr.1.move m.size fun b hb hS => ⟨m.grown.block b hb (by simp; omega), hS⟩, hr.2.1.move m.size fun b hb hS => ⟨m.grown.block b hb (by simp; omega), hS⟩, hr.2.2.move m.size fun b hb hS => ⟨m.grown.block b hb (by simp; omega), hS⟩⟩
theorem rmid_t {D : Nat} {w v : World} {vt vn vs : Value} {r : RulesL} (hD : D < w.heap.size) (hz : v.heap[w.heap.size]? = some (.cells #[.slice none 0 0, .slice none 0 0, .slice none 0 0] 31 (0, 0))) (hy : v.heap[w.heap.size + 1]? = some (.cells #[vt, vn, vs] 31 (0, 0))) (hr : RulesAt v (fun b => w.heap.size + 1 < b) vt vn vs r) (hd : RulesD r) (hm : Moved D w v) :
    RMid D w ((v.setCell ⟨w.heap.size + 1, 0, none⟩ (.slice (some ⟨v.heap.size, 0, none⟩) 2 2)).alloc (.cells (t1L.flatMap encS).toArray 9)) := by
  have h1 := lt_of_blk hy
  refine ⟨_, vn, vs, ⟨t1L, r.nicks, r.streets⟩, blk_old (blk_far hz (by simp)), blk_old (blk_set hy), ⟨blockVec (k := 1) (enc := encS) (L := t1L) (S := fun b => w.heap.size + 1 < b) (A := v.heap.size) (fun _ => rfl) (set_new _ _ _ _) (by omega) 2 rfl, hr.2.1.put (fun b h => by simp at h ⊢; omega) _ _, hr.2.2.put (fun b h => by simp at h ⊢; omega) _ _⟩, ⟨.inr rfl, hd.n, hd.s⟩, (hm.set (by simp) _).alloc _⟩
theorem rmid_n {D : Nat} {w v : World} {vt vn vs : Value} {r : RulesL} (hD : D < w.heap.size) (hz : v.heap[w.heap.size]? = some (.cells #[.slice none 0 0, .slice none 0 0, .slice none 0 0] 31 (0, 0))) (hy : v.heap[w.heap.size + 1]? = some (.cells #[vt, vn, vs] 31 (0, 0))) (hr : RulesAt v (fun b => w.heap.size + 1 < b) vt vn vs r) (hd : RulesD r) (hm : Moved D w v) :
    RMid D w ((v.setCell ⟨w.heap.size + 1, 1, none⟩ (.slice (some ⟨v.heap.size, 0, none⟩) 2 2)).alloc (.cells (n1L.flatMap encP).toArray 152)) := by
  have h1 := lt_of_blk hy
  refine ⟨vt, _, vs, ⟨r.titles, n1L, r.streets⟩, blk_old (blk_far hz (by simp)), blk_old (blk_set hy), ⟨hr.1.put (fun b h => by simp at h ⊢; omega) _ _, blockVec (k := 2) (enc := encP) (L := n1L) (S := fun b => w.heap.size + 1 < b) (A := v.heap.size) (fun _ => rfl) (set_new _ _ _ _) (by omega) 2 rfl, hr.2.2.put (fun b h => by simp at h ⊢; omega) _ _⟩, ⟨hd.t, .inr rfl, hd.s⟩, (hm.set (by simp) _).alloc _⟩
theorem rmid_s {D : Nat} {w v : World} {vt vn vs : Value} {r : RulesL} (hD : D < w.heap.size) (hz : v.heap[w.heap.size]? = some (.cells #[.slice none 0 0, .slice none 0 0, .slice none 0 0] 31 (0, 0))) (hy : v.heap[w.heap.size + 1]? = some (.cells #[vt, vn, vs] 31 (0, 0))) (hr : RulesAt v (fun b => w.heap.size + 1 < b) vt vn vs r) (hd : RulesD r) (hm : Moved D w v) :
    RMid D w ((v.setCell ⟨w.heap.size + 1, 2, none⟩ (.slice (some ⟨v.heap.size, 0, none⟩) 2 2)).alloc (.cells (s1L.flatMap encP).toArray 152)) := by
  have h1 := lt_of_blk hy
  refine ⟨vt, vn, _, ⟨r.titles, r.nicks, s1L⟩, blk_old (blk_far hz (by simp)), blk_old (blk_set hy), ⟨hr.1.put (fun b h => by simp at h ⊢; omega) _ _, hr.2.1.put (fun b h => by simp at h ⊢; omega) _ _, blockVec (k := 2) (enc := encP) (L := s1L) (S := fun b => w.heap.size + 1 < b) (A := v.heap.size) (fun _ => rfl) (set_new _ _ _ _) (by omega) 2 rfl⟩, ⟨hd.t, hd.n, .inr rfl⟩, (hm.set (by simp) _).alloc _⟩
def RulesPost (D : Nat) (w : World) (e : Ending) (w' : World) : Prop := ∃ vt vn vs r, e = .returned (.agg #[vt, vn, vs]) ∧ RulesAt w' (fun b => w.heap.size ≤ b) vt vn vs r ∧ RulesD r ∧ Moved D w w'
set_option maxHeartbeats 8000000 in
theorem rules_deal (D : Nat) (w : World) (h : DeckAt w D) :
    Calls Tryz.prog 45 #[.pointer (some ⟨D, 0, none⟩)] w (RulesPost D w) := by
  have zD := h.lt
  have HD := Lib.hid h
  clear h
  go_enter Tryz.func45, Tryz.ntmps45
  go_wp2_with fail
  have K := Lib.hid (show RMid D w ((w.alloc (.cells #[.slice none 0 0, .slice none 0 0, .slice none 0 0] 31)).alloc (.cells #[.slice none 0 0, .slice none 0 0, .slice none 0 0] 31)) from
    ⟨_, _, _, ⟨[], [], []⟩, blk_old (blk_new rfl), blk_new (by simp), ⟨Vec.nil _ _ _ _, Vec.nil _ _ _ _, Vec.nil _ _ _ _⟩, ⟨.inl rfl, .inl rfl, .inl rfl⟩, ((Moved.start HD.out).alloc _).alloc _⟩)
  refine (one_any D _ 2 (by obtain ⟨_, _, _, _, _, _, _, _, m⟩ := K.out; exact m.deck) (by omega) (by omega)).mono ?_
  rintro e v0 ⟨u, rfl, mv⟩
  have K0 := Lib.hid (K.out.moved zD mv)
  clear K mv
  go_upto_if 5 with fail
  go_cut [] (fun wc => RMid D w wc)
  case first =>
    obtain ⟨vt, vn, vs, r, hz, hy, hr, hd, hm⟩ := K0.out
    have HZ := Lib.hid hz; have HY := Lib.hid hy; have HR := Lib.hid hr; have HDd := Lib.hid hd; have HM := Lib.hid hm
    obtain ⟨c0, c1, c2⟩ := cells3 hy; obtain ⟨f0, f1, f2⟩ := free3 hy
    have q := lt_of_blk hy
    clear hz hy hr hd hm
    cases u
    · go_wp2_with fail
      go_meet
      exact K0.out
    · go_wp2_with fail
      go_meet
      exact rmid_t zD HZ.out HY.out HR.out HDd.out HM.out
  case rest =>
    have K1 := Lib.hid hcut; clear hcut K0
    go_wp2_with fail
    refine (one_any D _ 2 (by obtain ⟨_, _, _, _, _, _, _, _, m⟩ := K1.out; exact m.deck) (by omega) (by omega)).mono ?_
    rintro e v1 ⟨u, rfl, mv⟩
    have K2 := Lib.hid (K1.out.moved zD mv)
    clear K1 mv
    go_upto_if 9 with fail
    go_cut [] (fun wc => RMid D w wc)
    case first =>
      obtain ⟨vt, vn, vs, r, hz, hy, hr, hd, hm⟩ := K2.out
      have HZ := Lib.hid hz; have HY := Lib.hid hy; have HR := Lib.hid hr; have HDd := Lib.hid hd; have HM := Lib.hid hm
      obtain ⟨c0, c1, c2⟩ := cells3 hy; obtain ⟨f0, f1, f2⟩ := free3 hy
      have q := lt_of_blk hy
      clear hz hy hr hd hm
      cases u
      · go_wp2_with fail
        go_meet
        exact K2.out
      · go_wp2_with fail
        go_meet
        exact rmid_n zD HZ.out HY.out HR.out HDd.out HM.out
    case rest =>
      have K3 := Lib.hid hcut; clear hcut K2
      go_wp2_with fail
      refine (one_any D _ 2 (by obtain ⟨_, _, _, _, _, _, _, _, m⟩ := K3.out; exact m.deck) (by omega) (by omega)).mono ?_
      rintro e v2 ⟨u, rfl, mv⟩
      have K4 := Lib.hid (K3.out.moved zD mv)
      clear K3 mv
      go_upto_if 15 with fail
      go_cut [] (fun wc => RMid D w wc)
      case first =>
        obtain ⟨vt, vn, vs, r, hz, hy, hr, hd, hm⟩ := K4.out
        have HZ := Lib.hid hz; have HY := Lib.hid hy; have HR := Lib.hid hr; have HDd := Lib.hid hd; have HM := Lib.hid hm
        obtain ⟨c0, c1, c2⟩ := cells3 hy; obtain ⟨f0, f1, f2⟩ := free3 hy
        have q := lt_of_blk hy
        clear hz hy hr hd hm
        cases u
        · go_wp2_with fail
          go_meet
          exact K4.out
        · go_wp2_with fail
          go_meet
          exact rmid_s zD HZ.out HY.out HR.out HDd.out HM.out
      case rest =>
        obtain ⟨vt, vn, vs, r, hz, hy, hr, hd, hm⟩ := hcut
        obtain ⟨at', ct, rfl⟩ := hr.1.slice
        obtain ⟨an, cn, rfl⟩ := hr.2.1.slice
        obtain ⟨as', cs, rfl⟩ := hr.2.2.slice
        have HZ := Lib.hid hz; have HY := Lib.hid hy; have HR := Lib.hid hr; have HDd := Lib.hid hd; have HM := Lib.hid hm
        obtain ⟨c0, c1, c2⟩ := cells3 hy; obtain ⟨f0, f1, f2⟩ := free3 hy
        obtain ⟨d0, d1, d2⟩ := cells3 hz; obtain ⟨g0, g1, g2⟩ := free3 hz
        have q := lt_of_blk hy; have q' := lt_of_blk hz
        clear hz hy hr hd hm K4
        go_wp2_with fail
        have hz := blk_set (i := 2) (v := .slice as' r.streets.length cs) (blk_set (i := 1) (v := .slice an r.nicks.length cn) (blk_set (i := 0) (v := .slice at' r.titles.length ct) HZ.out))
        have hm := ((HM.out.set (a := ⟨w.heap.size, 0, none⟩) (Nat.le_refl _) (.slice at' r.titles.length ct)).set (a := ⟨w.heap.size, 1, none⟩) (Nat.le_refl _) (.slice an r.nicks.length cn)).set (a := ⟨w.heap.size, 2, none⟩) (Nat.le_refl _) (.slice as' r.streets.length cs)
        have hr := HR.out.set3 (a := ⟨w.heap.size, 0, none⟩) (b := ⟨w.heap.size, 1, none⟩) (c := ⟨w.heap.size, 2, none⟩) (fun b h => by simp at h ⊢; omega) (fun b h => by simp at h ⊢; omega) (fun b h => by simp at h ⊢; omega) (.slice at' r.titles.length ct) (.slice an r.nicks.length cn) (.slice as' r.streets.length cs)
        exact bodyPost_row1 rfl rfl hz Tryz.underlying31 rfl (by kernel_rfl) ⟨_, _, _, r, rfl, hr.weaken fun b h => by have h' : w.heap.size + 1 < b := h; show w.heap.size ≤ b; omega, HDd.out, hm⟩
end Go.Proofs.YthdolmofeeniaaaGreatDoor
end
section
/- recordlinkmake: Dress: a folded text in another dress. -/
set_option linter.unusedSimpArgs false
set_option linter.unusedVariables false
set_option maxRecDepth 100000
namespace Go.Proofs.YthdolmofeeniaaaGreatDoor
open Go.RowKit
attribute [local go_sem] toList_mk mk_size str_append
def DressPost (D : Nat) (l : List UInt8) (w : World) (e : Ending) (w' : World) : Prop := ∃ o : List UInt8, e = .returned (strV o) ∧ DressOf l o ∧ Moved D w w'
/-- texts that have just been laid into a new block, to pick from -/
theorem pick_new (D : Nat) (w w0 : World) (L : List (List UInt8)) (n : Nat) (hn : n = L.length) (h1 : 1 ≤ n) (h2 : n ≤ 1000) (m : Moved D w0 w) :
    Calls Tryz.prog 101 #[.pointer (some ⟨D, 0, none⟩), .slice (some ⟨w.heap.size, 0, none⟩) n n] (w.alloc (.cells (L.flatMap encS).toArray 9)) (PickPost D L w0) := by
  have hD := m.deck.lt
  have m2 := m.alloc (.cells (L.flatMap encS).toArray 9)
  exact (pick_any D _ _ L m2.deck (blockVec (k := 1) (enc := encS) (L := L) (S := fun b => b ≠ D) (A := w.heap.size) (fun _ => rfl) (blk_new rfl) (by omega) n hn) (by omega) (by omega)).mono fun _ _ ⟨l, he, hl, hm⟩ => ⟨l, he, hl, m2.trans hm⟩
theorem dressB_len {x : List UInt8} (h : x ∈ dressB) : x.length ≤ 2 := by
  simp [dressB] at h
  rcases h with rfl | rfl | rfl | rfl | rfl | rfl <;> simp
theorem dressC_len {x : List UInt8} (h : x ∈ dressC) : x.length ≤ 2 := by
  simp [dressC] at h
  rcases h with rfl | rfl | rfl <;> simp
/-- how far a text has been dressed -/
def DressMid (D : Nat) (w : World) (l : List UInt8) (k : Nat) (ol : List UInt8) (wr : World) : Prop := DressTo (l.take k) ol ∧ Moved D w wr
set_option maxHeartbeats 4000000 in
theorem dress_any (D : Nat) (s : ByteArray) (w : World) (h : DeckAt w D) (hs : ∀ b ∈ s.data.toList, okB b = true) (hn : s.size ≤ 1000) :
    Calls Tryz.prog 50 #[.pointer (some ⟨D, 0, none⟩), .string s] w (DressPost D s.data.toList w) := by
  have hl : s.data.toList.length = s.size := by simp
  have HL := Lib.hid hl; clear hl
  have HS := Lib.hid hs; clear hs
  have M0 := Lib.hid (Moved.start h); clear h
  go_enter Tryz.func50, Tryz.ntmps50
  go_wp2_with fail
  refine (pick_new D _ w dressA 4 rfl (by omega) (by omega) M0.out).mono ?_
  rintro e w1 ⟨o, rfl, ho, mv⟩
  have K0 := Lib.hid (show DressMid D w s.data.toList 0 o w1 from ⟨DressTo.start ho, mv⟩)
  clear ho mv
  go_wp2_with fail
  go_loopw [5, 6] (fun v i wr => ∃ (k : Nat) (ol : List UInt8), v = strV ol ∧ i = .int .i64 k ∧ k ≤ s.size ∧ DressMid D w s.data.toList k ol wr) (fun _ i _ => s.size - (intOf i).toNat)
  case atStart => exact ⟨0, o, rfl, rfl, by omega, K0.out⟩
  case round =>
    obtain ⟨k, ol, rfl, rfl, hk, hm⟩ := hrel
    have HT := Lib.hid hm.1; have M1 := Lib.hid hm.2
    have hol : ol.length ≤ 2001 := by have := hm.1.len; have := List.length_take_le k s.data.toList; omega
    clear hm K0
    by_cases hlt : k < s.size
    · have hq : decide ((k : Int) < s.size) = true := by simp; omega
      have ht := Lib.hid (take_snoc' s k hlt)
      have hok := Lib.hid (HS.out s[k] (by rw [show s[k] = s.data.toList[k]'(by rw [HL.out]; exact hlt) from rfl]; exact List.getElem_mem _))
      have hb := s[k].toNat_lt
      by_cases hsp : s[k] = 32
      · have e1 : ((s[k].toNat : Int) == 32) = true := by rw [hsp]; rfl
        have HSp := Lib.hid hsp; clear hsp
        go_wp2_with fail
        refine (pick_new D _ w dressB 6 rfl (by omega) (by omega) M1.out).mono ?_
        rintro e w2 ⟨x, rfl, hx, mv⟩
        have hxl := dressB_len hx
        have K1 := Lib.hid (show DressMid D w s.data.toList (k + 1) (ol ++ x) w2 from ⟨by rw [ht.out, HSp.out]; exact HT.out.space hx, mv⟩)
        clear hx mv e1
        go_wp2_with fail
        go_roundw
        case rel => exact ⟨k + 1, ol ++ x, rfl, by go_num, by omega, K1.out⟩
        case measure => simp [intOf]; omega
      · have e1 : ((s[k].toNat : Int) == 32) = false := by
          simp only [beq_eq_false_iff_ne, ne_eq]; intro e; apply hsp; rw [← UInt8.toNat_inj]; simp; omega
        clear hsp
        go_upto_block 2 with (fail)
        go_cut [5, 7] (fun s5 s7 wx => ∃ x : UInt8, s5 = strV ol ∧ s7 = .int .u8 x.toNat ∧ okByte x = true ∧ plainB x = [s[k]] ∧ Moved D w wx)
        case first =>
          cases hlo : isLow s[k]
          · have hc := hlo
            rw [low_iff, decide_eq_false_iff_not] at hc
            have hc' : (97 ≤ (s[k].toNat : Int) ∧ 122 < (s[k].toNat : Int)) ∨ (s[k].toNat : Int) < 97 := by omega
            clear hc hlo
            rcases hc' with ⟨g1, g2⟩ | g1
            all_goals
              go_wp2_with fail
              go_meet
              exact ⟨s[k], rfl, rfl, (plain_self hok.out).1, (plain_self hok.out).2, M1.out⟩
          · have hup := Lib.hid (plain_up hlo)
            have hc := hlo
            rw [low_iff, decide_eq_true_iff] at hc
            obtain ⟨g1, g2⟩ := hc
            have e2 : ((s[k] - 32).toNat : Int) = (s[k].toNat : Int) - 32 := by
              rw [UInt8.toNat_sub_of_le _ _ (by rw [UInt8.le_iff_toNat_le]; show 32 ≤ _; omega)]
              show ((s[k].toNat - 32 : Nat) : Int) = _
              omega
            have HE := Lib.hid e2; clear hlo e2
            go_wp2_with fail
            refine (one_any D _ 3 M1.out.deck (by omega) (by omega)).mono ?_
            rintro e w2 ⟨u, rfl, mv⟩
            have M2 := Lib.hid (M1.out.trans mv); clear mv
            cases u
            · go_wp2_with fail
              go_meet
              exact ⟨s[k], rfl, rfl, (plain_self hok.out).1, (plain_self hok.out).2, M2.out⟩
            · go_wp2_with fail
              go_meet
              exact ⟨s[k] - 32, rfl, by rw [HE.out], hup.out.1, hup.out.2, M2.out⟩
        case rest =>
          obtain ⟨x, rfl, rfl, hx1, hx2, m3⟩ := hcut
          have HX1 := Lib.hid hx1; have HX2 := Lib.hid hx2; have M3 := Lib.hid m3
          clear hx1 hx2 m3
          have hcv := one_byte wc x
          go_wp2_with fail
          refine (one_any D _ 20 (M3.out.alloc _).deck (by omega) (by omega)).mono ?_
          rintro e w2 ⟨u, rfl, mv⟩
          have M4 := Lib.hid ((M3.out.alloc _).trans mv)
          have K1 := Lib.hid (show DressMid D w s.data.toList (k + 1) (ol ++ [x]) w2 from ⟨by rw [ht.out]; exact HT.out.byte HX1.out HX2.out, M4.out⟩)
          have K2 := Lib.hid (show DressMid D w s.data.toList (k + 1) (ol ++ [x] ++ [39]) w2 from ⟨by rw [ht.out]; exact HT.out.mark HX1.out HX2.out, M4.out⟩)
          clear mv hcv
          cases u
          · go_wp2_with fail
            go_roundw
            case rel => exact ⟨k + 1, ol ++ [x], rfl, by go_num, by omega, K1.out⟩
            case measure => simp [intOf]; omega
          · by_cases h2 : k + 1 < s.size
            · have e2 : decide ((k : Int) + 1 < s.size) = true := by simp; omega
              by_cases hs2 : s[k + 1] = 32
              · have e3 : ((s[k + 1].toNat : Int) != 32) = false := by rw [hs2]; rfl
                clear hs2
                go_wp2_with fail
                go_roundw
                case rel => exact ⟨k + 1, ol ++ [x], rfl, by go_num, by omega, K1.out⟩
                case measure => simp [intOf]; omega
              · have e3 : ((s[k + 1].toNat : Int) != 32) = true := by
                  simp only [bne_iff_ne, ne_eq]; intro e; apply hs2; rw [← UInt8.toNat_inj]; simp; omega
                clear hs2
                go_wp2_with fail
                go_roundw
                case rel => exact ⟨k + 1, ol ++ [x] ++ [39], by simp, by go_num, by omega, K2.out⟩
                case measure => simp [intOf]; omega
            · have e2 : decide ((k : Int) + 1 < s.size) = false := by simp; omega
              go_wp2_with fail
              go_roundw
              case rel => exact ⟨k + 1, ol ++ [x], rfl, by go_num, by omega, K1.out⟩
              case measure => simp [intOf]; omega
    · have hq : decide ((k : Int) < s.size) = false := by simp; omega
      rw [List.take_of_length_le (by rw [HL.out]; omega)] at HT
      go_wp2_with fail
      refine (pick_new D _ w dressC 4 rfl (by omega) (by omega) M1.out).mono ?_
      rintro e w2 ⟨x, rfl, hx, mv⟩
      have hxl := dressC_len hx
      have M2 := Lib.hid mv; have HO := Lib.hid (HT.out.done hx)
      clear mv hx
      go_wp2_with fail
      go_ret
      exact ⟨ol ++ x, rfl, HO.out, M2.out⟩
end Go.Proofs.YthdolmofeeniaaaGreatDoor
end
section
/- recordlinkmake: Raw, Text: some text of bounded length. -/
set_option linter.unusedSimpArgs false
set_option linter.unusedVariables false
set_option maxRecDepth 100000
namespace Go.Proofs.YthdolmofeeniaaaGreatDoor
open Go.RowKit
attribute [local go_sem] toList_mk mk_size str_append
def codesD : List (List UInt8) := [[83, 87, 49, 32, 49, 65, 65], [56, 48, 48, 49], [56, 48, 32, 48, 50], [97, 45, 49]]
def addrsD : List (List UInt8) := [[49, 50, 32, 77, 97, 105, 110, 32, 83, 116, 46], [77, 97, 105, 110, 32, 83, 116, 32, 49, 50], [80, 97, 114, 107, 32, 82, 100, 32, 51, 98], [77, 97, 105, 110, 32, 83, 116, 114, 101, 101, 116], [48, 48, 55, 32, 80, 97, 114, 107, 32, 114, 100]]
def peopleD : List (List UInt8) := [[114, 111, 98, 101, 114, 116, 32, 115, 109, 105, 116, 104], [98, 111, 98, 32, 115, 109, 105, 116, 104], [114, 117, 112, 101, 114, 116], [97, 110, 110, 97, 32, 109, 105, 108, 108, 101, 114], [97, 110, 110], [111, 110, 101, 105, 108, 108], [109, 97, 114, 105, 97, 32, 118, 97, 110, 32, 115, 109, 105, 116, 104], [112, 101, 116, 101, 114]]
theorem pick_le {D N : Nat} {L : List (List UInt8)} {w w' : World} {e : Ending} (h : PickPost D L w e w') (hL : (L.all fun t => decide (t.length ≤ N)) = true) : SomeText D N w e w' := by
  obtain ⟨l, he, hl, hm⟩ := h
  exact ⟨l, he, by simpa using List.all_eq_true.1 hL l hl, hm⟩
theorem people_ok {x : List UInt8} (h : x ∈ peopleD) : (∀ b ∈ x, okB b = true) ∧ x.length ≤ 15 := by
  have : (peopleD.all fun t => t.all okB && decide (t.length ≤ 15)) = true := by decide
  have := List.all_eq_true.1 this x h
  rw [Bool.and_eq_true, List.all_eq_true, decide_eq_true_iff] at this
  exact this
theorem written_len (y m d f : Int) : (writtenL y m d f).length = 10 := by
  unfold writtenL
  split
  · simp [dg_len]
  · split <;> simp [dg_len]
set_option maxHeartbeats 4000000 in
theorem raw_deal (D : Nat) (k : Int) (w : World) (h : DeckAt w D) :
    Calls Tryz.prog 57 #[.pointer (some ⟨D, 0, none⟩), .int .i64 k] w (SomeText D 64 w) := by
  have M0 := Lib.hid (Moved.start h); clear h
  by_cases h2 : k = 2
  · subst h2
    go_enter Tryz.func57, Tryz.ntmps57
    go_wp2_with fail
    refine (one_any D _ 8 M0.out.deck (by omega) (by omega)).mono ?_
    rintro e w1 ⟨u, rfl, mv⟩
    have M1 := Lib.hid (M0.out.trans mv); clear mv
    cases u
    · go_wp2_with fail
      refine (next_any D _ 2 M1.out.deck (by omega) (by omega)).mono ?_
      rintro e w2 ⟨y, rfl, y0, y1, mv⟩
      have M2 := Lib.hid (M1.out.trans mv); clear mv
      go_wp2_with fail
      refine (next_any D _ 3 M2.out.deck (by omega) (by omega)).mono ?_
      rintro e w3 ⟨m, rfl, m0, m1, mv⟩
      have M3 := Lib.hid (M2.out.trans mv); clear mv
      go_wp2_with fail
      refine (next_any D _ 3 M3.out.deck (by omega) (by omega)).mono ?_
      rintro e w4 ⟨d, rfl, d0, d1, mv⟩
      have M4 := Lib.hid (M3.out.trans mv); clear mv
      go_wp2_with fail
      refine (next_any D _ 3 M4.out.deck (by omega) (by omega)).mono ?_
      rintro e w5 ⟨f, rfl, f0, f1, mv⟩
      have M5 := Lib.hid (M4.out.trans mv); clear mv
      go_wp2_with fail
      refine (written_any (1980 + y) (1 + m) (1 + d) f _ (by omega) (by omega)).mono ?_
      rintro e w6 ⟨rfl, hb⟩
      have M6 := Lib.hid (M5.out.below hb); clear hb
      go_wp2_with fail
      go_ret
      exact ⟨_, rfl, by rw [written_len]; omega, M6.out⟩
    · go_wp2_with fail
      go_ret
      exact ⟨[], rfl, by simp, M1.out⟩
  · have e2 : (k == 2) = false := by simpa using h2
    by_cases h3 : k = 3
    · subst h3
      clear h2 e2
      go_enter Tryz.func57, Tryz.ntmps57
      go_wp2_with fail
      refine (one_any D _ 8 M0.out.deck (by omega) (by omega)).mono ?_
      rintro e w1 ⟨u, rfl, mv⟩
      have M1 := Lib.hid (M0.out.trans mv); clear mv
      cases u
      · go_wp2_with fail
        refine (pick_new D _ w codesD 4 rfl (by omega) (by omega) M1.out).mono ?_
        intro e w2 hp
        obtain ⟨x, rfl, hx, mv⟩ := pick_le (N := 64) hp (by decide)
        have HX := Lib.hid hx; have M2 := Lib.hid mv
        clear hx mv hp
        go_wp2_with fail
        go_ret
        exact ⟨x, rfl, HX.out, M2.out⟩
      · go_wp2_with fail
        go_ret
        exact ⟨[], rfl, by simp, M1.out⟩
    · have e3 : (k == 3) = false := by simpa using h3
      by_cases h4 : k = 4
      · subst h4
        clear h2 e2 h3 e3
        go_enter Tryz.func57, Tryz.ntmps57
        go_wp2_with fail
        refine (one_any D _ 8 M0.out.deck (by omega) (by omega)).mono ?_
        rintro e w1 ⟨u, rfl, mv⟩
        have M1 := Lib.hid (M0.out.trans mv); clear mv
        cases u
        · go_wp2_with fail
          refine (pick_new D _ w addrsD 5 rfl (by omega) (by omega) M1.out).mono ?_
          intro e w2 hp
          obtain ⟨x, rfl, hx, mv⟩ := pick_le (N := 64) hp (by decide)
          have HX := Lib.hid hx; have M2 := Lib.hid mv
          clear hx mv hp
          go_wp2_with fail
          go_ret
          exact ⟨x, rfl, HX.out, M2.out⟩
        · go_wp2_with fail
          go_ret
          exact ⟨[], rfl, by simp, M1.out⟩
      · have e4 : (k == 4) = false := by simpa using h4
        clear h2 h3 h4
        go_enter Tryz.func57, Tryz.ntmps57
        go_wp2_with fail
        refine (one_any D _ 8 M0.out.deck (by omega) (by omega)).mono ?_
        rintro e w1 ⟨u, rfl, mv⟩
        have M1 := Lib.hid (M0.out.trans mv); clear mv
        cases u
        · go_wp2_with fail
          refine (pick_new D _ w peopleD 8 rfl (by omega) (by omega) M1.out).mono ?_
          rintro e w2 ⟨x, rfl, hx, mv⟩
          obtain ⟨p1, p2⟩ := people_ok hx
          have P1 := Lib.hid p1; have M2 := Lib.hid mv
          clear hx mv p1
          go_wp2_with fail
          refine (dress_any D ⟨x.toArray⟩ _ M2.out.deck (by simpa using P1.out) (by rw [mk_size]; omega)).mono ?_
          rintro e w3 ⟨o, rfl, ho, mv⟩
          have M3 := Lib.hid (M2.out.trans mv)
          have HO := Lib.hid (show o.length ≤ 64 by have := ho.len; simp at this; omega)
          clear mv ho
          go_wp2_with fail
          go_ret
          exact ⟨o, rfl, HO.out, M3.out⟩
        · go_wp2_with fail
          go_ret
          exact ⟨[], rfl, by simp, M1.out⟩
end Go.Proofs.YthdolmofeeniaaaGreatDoor
end
section
/- recordlinkmake: Schema: some valid schema of one to four fields. -/
set_option linter.unusedSimpArgs false
set_option linter.unusedVariables false
set_option maxRecDepth 100000
namespace Go.Proofs.YthdolmofeeniaaaGreatDoor
open Go.RowKit
attribute [local go_sem] toList_mk mk_size str_append
theorem infoF : (Tryz.prog.info? 92).map (fun i => (i.zero, i.size, i.bytes)) = some (some (.agg #[.string ⟨#[]⟩, .int .i64 0]), 2, 24) := by kernel_rfl
/-- a schema that is dealt -/
structure SchemaD (s : SchemaL) : Prop where
  fields : FieldsD s.fields
  some : 1 ≤ s.fields.length
  rules : RulesD s.rules
theorem SchemaD.check {s : SchemaL} (h : SchemaD s) : checkS s = 0 := h.fields.check h.some h.rules.check
def nil4 : Array Value := #[.slice none 0 0, .slice none 0 0, .slice none 0 0, .slice none 0 0]
/-- while a schema is dealt: the result's block, the schema's, the names', the row of the fields -/
structure SMid (D : Nat) (w : World) (y : Nat) (vt vn vs : Value) (r : RulesL) (vf : Value) (F : List F2) (wr : World) : Prop where
  z : wr.heap[w.heap.size]? = some (.cells nil4 33 (0, 0))
  s : wr.heap[y]? = some (.cells #[vf, vt, vn, vs] 33 (0, 0))
  n : RowB wr (y + 1) namesD
  own : wr.ownsRow (y + 2) 92 2 vf F.length (F.flatMap encF)
  rules : RulesAt wr (fun b => w.heap.size < b ∧ b < y) vt vn vs r
  fields : FieldsD F
  moved : Moved D w wr
  lt : w.heap.size < y
theorem own_same {w w' : World} {B e size n : Nat} {v : Value} {xs : List Value} (h : w.ownsRow B e size v n xs) (hs : ∀ g, B ≤ g → g < w.heap.size → w'.heap[g]? = w.heap[g]?) : w'.ownsRow B e size v n xs := by
  refine ⟨h.1, ?_⟩
  rcases h.2 with h0 | ⟨g, cap, cur, hv, hg, hh, rest⟩
  · exact .inl h0
  · exact .inr ⟨g, cap, cur, hv, hg, (hs g hg (lt_of_blk hh)).trans hh, rest⟩
theorem own_slice {w : World} {B e size n : Nat} {v : Value} {xs : List Value} (h : w.ownsRow B e size v n xs) : ∃ a c, v = .slice a n c := by
  rcases h.2 with ⟨rfl, rfl⟩ | ⟨g, cap, cur, hv, _⟩
  · exact ⟨none, 0, rfl⟩
  · exact ⟨_, _, hv⟩
theorem own_far {w : World} {B e size n : Nat} {v : Value} {xs : List Value} (h : w.ownsRow B e size v n xs) {k : Nat} (hk : k < B) : some k ≠ v.ownBlock := by
  rcases h.2 with ⟨rfl, rfl⟩ | ⟨g, cap, cur, rfl, hg, _⟩
  · simp [Value.ownBlock]
  · simp [Value.ownBlock]; omega
theorem SMid.gone {D : Nat} {w : World} {y : Nat} {vt vn vs : Value} {r : RulesL} {vf : Value} {F : List F2} {wr wd : World} (h : SMid D w y vt vn vs r vf F wr) (hD : D < w.heap.size) (m : Moved D wr wd) : SMid D w y vt vn vs r vf F wd := by
  have hy := h.lt
  have hb : ∀ b, b < wr.heap.size → w.heap.size ≤ b → wd.heap[b]? = wr.heap[b]? := fun b hb hS => m.grown.block b hb (by simp; omega)
  refine ⟨m.blk (by omega) h.z, m.blk (by omega) h.s, m.blk (by omega) h.n, own_same h.own fun g h1 h2 => hb g h2 (by omega), ?_, h.fields, h.moved.trans m, h.lt⟩
  exact ⟨h.rules.1.move m.size fun b hb' hS => ⟨hb b hb' (by have := hS.1; omega), hS⟩, h.rules.2.1.move m.size fun b hb' hS => ⟨hb b hb' (by have := hS.1; omega), hS⟩, h.rules.2.2.move m.size fun b hb' hS => ⟨hb b hb' (by have := hS.1; omega), hS⟩⟩
theorem SMid.step {D : Nat} {w : World} {y : Nat} {vt vn vs : Value} {r : RulesL} {vf v : Value} {F : List F2} {x : F2} {wr wA w2 : World} (h : SMid D w y vt vn vs r vf F wr) (hD : D < w.heap.size) (hb : Below wr.heap.size wr wA) (hg : wA.grownBy w2 vf.ownBlock)
    (hown : w2.ownsRow (y + 2) 92 2 v (F.length + 1) (F.flatMap encF ++ encF x)) (hx : FieldsD (F ++ [x])) : SMid D w y vt vn vs r v (F ++ [x]) (w2.setCell ⟨y, 0, none⟩ v) := by
  have hy := h.lt
  have zn : y + 1 < wr.heap.size := lt_of_blk h.n
  have hz := hb.size; have hz2 := hg.size
  have k1 : ∀ k, k < y + 2 → w2.heap[k]? = wr.heap[k]? := fun k hk => (hg.block k (by omega) (own_far h.own hk)).trans (hb.block k (by omega))
  have k2 : ∀ k, k < y + 2 → k ≠ y → (w2.setCell ⟨y, 0, none⟩ v).heap[k]? = wr.heap[k]? := fun k hk hne => (heap_setCell_other _ _ _ _ hne).trans (k1 k hk)
  have hs : (w2.setCell ⟨y, 0, none⟩ v).heap.size = w2.heap.size := by simp [World.setCell]
  refine ⟨(k2 _ (by omega) (by omega)).trans h.z, blk_set (i := 0) (v := v) ((k1 y (by omega)).trans h.s), (k2 _ (by omega) (by omega)).trans h.n, ?_, ?_, hx, ?_, hy⟩
  · rw [List.length_append, List.flatMap_append, show [x].flatMap encF = encF x by simp]
    exact own_same hown fun g h1 h2 => heap_setCell_other _ _ _ _ (by simp; omega)
  · have mv : ∀ b, b < wr.heap.size → (w.heap.size < b ∧ b < y) → (w2.setCell ⟨y, 0, none⟩ v).heap[b]? = wr.heap[b]? ∧ (w.heap.size < b ∧ b < y) := fun b _ hS => ⟨k2 b (by omega) (by omega), hS⟩
    exact ⟨h.rules.1.move (by omega) mv, h.rules.2.1.move (by omega) mv, h.rules.2.2.move (by omega) mv⟩
  · have m := h.moved
    refine ⟨⟨hg.os.trans (hb.os.trans m.grown.os), hg.tape.trans (hb.tape.trans m.grown.tape), hg.output.trans (hb.output.trans m.grown.output), by have := m.size; omega, fun k hk hr => ?_⟩, m.deck.same fun k hk => k2 k (by omega) (by omega), m.lt⟩
    exact (k2 k (by omega) (by omega)).trans (m.grown.block k hk hr)
def SchemaPost (D : Nat) (w : World) (e : Ending) (w' : World) : Prop := ∃ vf vt vn vs s, e = .returned (.agg #[vf, vt, vn, vs]) ∧ SchemaAt w' (fun b => w.heap.size ≤ b) vf vt vn vs s ∧ SchemaD s ∧ Moved D w w'
end Go.Proofs.YthdolmofeeniaaaGreatDoor
end
section
/- blocking, the program's: transforms but for the sound; address.Number. -/
set_option linter.unusedSimpArgs false
set_option linter.unusedVariables false
set_option maxRecDepth 100000
namespace Go.Proofs.YthdolmofeeniaaaGreatDoor
open Go.RowKit
attribute [local go_sem] toList_mk mk_size
theorem extract_take (t : List UInt8) (m : Nat) : (⟨t.toArray⟩ : ByteArray).extract 0 m = ⟨(t.take m).toArray⟩ := by
  apply ByteArray.ext
  simp [ByteArray.data_extract]
set_option maxHeartbeats 1000000 in
theorem begin_any (l : List UInt8) (n : Nat) (w : World) (hl : l.length ≤ 1000000) (hn : n ≤ 1000000) :
    Calls Tryz.prog 161 #[strV l, .int .i64 n] w fun e w' => e = .returned (strV (l.take n)) ∧ w = w' := by
  by_cases h : n ≤ l.length
  · have hm : min (n : Int) (l.length : Int) = (n : Int) := by omega
    have hx := extract_take l n
    go_enter Tryz.func161, Tryz.ntmps161
    go_wp2_with fail
    go_ret
    exact ⟨rfl, rfl⟩
  · have hm : min (n : Int) (l.length : Int) = (l.length : Int) := by omega
    have hx := extract_take l l.length
    rw [List.take_length] at hx
    rw [List.take_of_length_le (by omega)]
    go_enter Tryz.func161, Tryz.ntmps161
    go_wp2_with fail
    go_ret
    exact ⟨rfl, rfl⟩
theorem t1_any (l : List UInt8) (w : World) : Calls Tryz.prog 158 #[strV l] w fun e w' => e = .returned (strV l) ∧ w = w' := by
  go_enter Tryz.func158, Tryz.ntmps158
  go_wp2_with fail
  go_ret
  exact ⟨rfl, rfl⟩
theorem t2_any (l : List UInt8) (w : World) (hl : l.length ≤ 1000000) : Calls Tryz.prog 160 #[strV l] w fun e w' => e = .returned (strV (l.take 1)) ∧ w = w' := by
  go_enter Tryz.func160, Tryz.ntmps160
  go_wp2_with fail
  refine (begin_any l 1 _ hl (by decide)).mono ?_
  rintro e w1 ⟨rfl, rfl⟩
  go_wp2_with fail
  go_ret
  exact ⟨rfl, rfl⟩
theorem t3_any (l : List UInt8) (w : World) (hl : l.length ≤ 1000000) : Calls Tryz.prog 162 #[strV l] w fun e w' => e = .returned (strV (l.take 4)) ∧ w = w' := by
  go_enter Tryz.func162, Tryz.ntmps162
  go_wp2_with fail
  refine (begin_any l 4 _ hl (by decide)).mono ?_
  rintro e w1 ⟨rfl, rfl⟩
  go_wp2_with fail
  go_ret
  exact ⟨rfl, rfl⟩
/-- the first token that is a number -/
def numL (l : List UInt8) : List UInt8 := ((toks l).filter numB).headD []
set_option maxHeartbeats 1000000 in
theorem anum_any (l : List UInt8) (w : World) (h : ascii l) (hl : l.length ≤ 1000) : Calls Tryz.prog 163 #[strV l] w fun e w' => e = .returned (strV (numL l)) ∧ Below w.heap.size w w' := by
  have hc : (toks l).length ≤ 1000000 := by have := (toksA_len l []).2.1; unfold toks; omega
  obtain ⟨T, hT⟩ : ∃ T, toks l = T := ⟨_, rfl⟩
  have hnl : numL l = (T.filter numB).headD [] := by rw [← hT]; rfl
  have htk := tokens_any l
  rw [hT] at hc htk
  rw [hnl]
  obtain ⟨res, hres⟩ : ∃ res, (T.filter numB).headD [] = res := ⟨_, rfl⟩
  rw [hres]
  have HFin := Lib.hid (show ∀ y, (T.filter numB).headD [] = y → Ending.returned (strV y) = .returned (strV res) from fun y hy => by rw [← hy, hres])
  clear hres
  have HTk := Lib.hid htk
  clear hnl hT htk
  go_enter Tryz.func163, Tryz.ntmps163
  go_wp2_with fail
  refine (HTk.out _ h (by omega)).mono ?_
  rintro e w1 ⟨A, rfl, hA, ho, hb⟩
  have HV := Lib.hid (Vec.owns (k := 1) (enc := encS) (S := Any1) (fun _ => rfl) ho (fun _ _ _ => trivial))
  have HB := Lib.hid hb
  clear ho hb
  go_wp2_with fail
  refine (part_any Any1 _ T _ HV.out hc).mono ?_
  rintro e w2 ⟨u, v, rfl, h2⟩
  obtain ⟨au, cu, rfl⟩ := own_slice h2.1
  obtain ⟨av, cv, rfl⟩ := own_slice h2.2.1
  have HU := Lib.hid (Vec.owns (k := 1) (enc := encS) (S := Any1) (fun _ => rfl) h2.1 (fun _ _ _ => trivial))
  have HB2 := Lib.hid (HB.out.trans (h2.2.2.2.mono HB.out.size))
  clear h2
  obtain ⟨F, hF⟩ : ∃ F, T.filter numB = F := ⟨_, rfl⟩
  rw [hF] at HU HFin ⊢
  clear hF
  cases F with
  | nil =>
    go_wp2_with fail
    go_ret
    exact ⟨HFin.out [] rfl, HB2.out⟩
  | cons x F =>
    have d0 : (((x :: F).length : Int) == 0) = false := by simp; omega
    obtain ⟨b, off, rfl, lb, hc0⟩ := HU.out.get 0 (by simp)
    have c0 := hc0 0 _ rfl
    rw [Nat.zero_mul, Nat.add_zero] at c0
    have c0 : w2.cell? ⟨b, off, none⟩ = some (strV x) := c0
    have hl0 : (0 : Int) < ((x :: F).length : Int) := by simp
    go_wp2_with fail
    go_ret
    exact ⟨HFin.out x rfl, HB2.out⟩
end Go.Proofs.YthdolmofeeniaaaGreatDoor
end
section
/- phonetic, the program's: the digit of a letter; which tokens are right. -/
set_option linter.unusedSimpArgs false
set_option linter.unusedVariables false
set_option maxRecDepth 100000
namespace Go.Proofs.YthdolmofeeniaaaGreatDoor
open Go.RowKit
attribute [local go_sem] toList_mk mk_size
/-- the digits of the letters -/
def digL : List UInt8 := [32, 49, 50, 51, 32, 49, 50, 45, 32, 50, 50, 52, 53, 53, 32, 49, 50, 54, 50, 51, 32, 49, 45, 50, 32, 50]
def codeB (c : UInt8) : UInt8 := digL.getD (c.toNat - 97) 32
theorem dig_get (n : Nat) (h : n < digL.length) (h' : n < (⟨digL.toArray⟩ : ByteArray).size) : (⟨digL.toArray⟩ : ByteArray)[n]'h' = digL.getD n 32 := by
  rw [List.getD, List.getElem?_eq_getElem h]
  rfl
theorem low_range {c : UInt8} (h : isLow c = true) : 97 ≤ c.toNat ∧ c.toNat ≤ 122 := by
  have : ∀ k : Fin 256, isLow (UInt8.ofNat k.val) = true → 97 ≤ k.val ∧ k.val ≤ 122 := by decide +kernel
  have h2 := this ⟨c.toNat, c.toNat_lt⟩ (by simpa using h)
  exact h2
set_option maxHeartbeats 1000000 in
theorem pcode_any (c : UInt8) (w : World) (h : isLow c = true) : Calls Tryz.prog 276 #[byteV c] w fun e w' => e = .returned (byteV (codeB c)) ∧ w = w' := by
  obtain ⟨h1, h2⟩ := low_range h
  obtain ⟨n, hn⟩ : ∃ n, c.toNat - 97 = n := ⟨_, rfl⟩
  have hc : (c.toNat : Int) = 97 + (n : Int) := by omega
  have hn26 : n < 26 := by omega
  have hco : codeB c = digL.getD n 32 := by unfold codeB; rw [hn]
  unfold byteV
  rw [hc, hco]
  have hsub : (97 : Int) + (n : Int) - 97 = (n : Int) := by omega
  have hlen : n < digL.length := hn26
  clear h h1 h2 hn hc hco
  go_enter Tryz.func276, Tryz.ntmps276
  go_wp2_with fail
  go_ret
  refine ⟨?_, rfl⟩
  rw [← dig_get n hlen (by simpa [ByteArray.size, digL] using hn26)]
  rfl
def rightT (t : List UInt8) : Bool := !t.isEmpty && decide (t.length ≤ 64) && decide (lettersL t = t)
set_option maxHeartbeats 2000000 in
theorem rightT_any (t : List UInt8) (w : World) (hl : t.length ≤ 1000000) : Calls Tryz.prog 275 #[strV t] w fun e w' => e = .returned (.bool (rightT t)) ∧ Below w.heap.size w w' := by
  obtain ⟨r, hr⟩ : ∃ r, rightT t = r := ⟨_, rfl⟩
  rw [hr]
  unfold rightT at hr
  cases he : t.isEmpty
  · by_cases h64 : t.length ≤ 64
    · have d1 : decide ((t.length : Int) ≤ 64) = true := by simp; omega
      have hr2 : decide (lettersL t = t) = r := by rw [← hr, he]; simp [h64]
      have HR := Lib.hid (show Ending.returned (.bool (lettersL t == t)) = .returned (.bool r) by rw [← hr2]; by_cases h : lettersL t = t <;> simp [h])
      clear hr hr2
      have hlt := Lib.hid (fun w => letters_any ⟨t.toArray⟩ w (by simpa [ByteArray.size] using hl))
      go_enter Tryz.func275, Tryz.ntmps275
      go_wp2_with fail
      refine (hlt.out _).mono ?_
      rintro e w1 ⟨rfl, hb⟩
      go_wp2_with fail
      go_ret
      exact ⟨HR.out, hb⟩
    · have d1 : decide ((t.length : Int) ≤ 64) = false := by simp; omega
      have hr2 : false = r := by rw [← hr, he]; simp [h64]
      subst hr2
      clear hr
      go_enter Tryz.func275, Tryz.ntmps275
      go_wp2_with fail
      go_ret
      exact ⟨rfl, Below.refl _ _⟩
  · have hr2 : false = r := by rw [← hr, he]; rfl
    subst hr2
    clear hr
    go_enter Tryz.func275, Tryz.ntmps275
    go_wp2_with fail
    go_ret
    exact ⟨rfl, Below.refl _ _⟩
end Go.Proofs.YthdolmofeeniaaaGreatDoor
end
section
/- schema: Normal. -/
set_option linter.unusedSimpArgs false
set_option linter.unusedVariables false
set_option maxRecDepth 100000
namespace Go.Proofs.YthdolmofeeniaaaGreatDoor
open Go.RowKit Cal
attribute [local go_sem] toList_mk mk_size
set_option maxHeartbeats 4000000 in
theorem normal_s (S : Nat → Prop) (vf vt vn vs : Value) (s : SchemaL) (f : Int) (x : ByteArray) (w : World) (h : SchemaAt w S vf vt vn vs s) (hx : x.size ≤ 9223372036854775000) :
    Calls Tryz.prog 150 #[.agg #[vf, vt, vn, vs], .int .i64 f, .string x] w fun e w' => e = .returned (.bool (normalB s f x.data.toList)) ∧ Below w.heap.size w w' := by
  have HS := Lib.hid h.any
  have HL := Lib.hid (Lib.toList_data x)
  have hfin : ∀ p, normalB s f x.data.toList = p → Ending.returned (.bool p) = .returned (.bool (normalB s f x.data.toList)) := fun p h => by rw [h]
  have HF := Lib.hid hfin
  clear h hfin
  have K := find_s Any1 vf vt vn vs s f (w.alloc (.cells #[vf, vt, vn, vs] 33)) (HS.out.below ((Below.refl _ _).alloc (Nat.le_refl _) _))
  have hkk := findN_kind (s := s) (f := f)
  have hval : normalB s f x.data.toList = if (findN s f).2 = 0 then (if x.data.toList = [] then true else ownK (findN s f).1 s.rules x.data.toList) else false := rfl
  obtain ⟨⟨kd, er⟩, hp⟩ : ∃ p, findN s f = p := ⟨_, rfl⟩
  rw [hp] at K hkk hval
  dsimp only at hkk hval
  change Calls _ _ _ _ fun e w' => e = .returned (.tuple #[.agg (kindAt kd), .int .i64 er]) ∧ _ at K
  have HK := Lib.hid K
  have HVal := Lib.hid hval
  obtain ⟨ko, ks⟩ := kindAt_one kd
  have KO := Lib.hid ko; have KS := Lib.hid ks
  clear K hp hval ko ks
  by_cases he : er = 0
  · subst he
    have hkd := hkk rfl
    clear hkk
    by_cases hx0 : x.data.toList = []
    · have e1 : x.toList = [] := by rw [HL.out, hx0]
      have HE := Lib.hid (show normalB s f x.data.toList = true by rw [HVal.out, if_pos rfl, if_pos hx0])
      clear hx0 hkd
      go_enter Tryz.func150, Tryz.ntmps150
      go_wp2_with fail
      refine HK.out.mono ?_
      rintro e w1 ⟨rfl, hb1⟩
      have HB1 := Lib.hid (((Below.refl w.heap.size w).alloc (Nat.le_refl _) (.cells #[vf, vt, vn, vs] 33)).trans (hb1.mono (by simp)))
      have HX1 := Lib.hid (blk_below (b := w.heap.size) (o := .cells #[vf, vt, vn, vs] 33 (0, 0)) hb1 (by simp) (blk_new rfl))
      clear hb1 HK
      go_wp2_with (refine wpList_store_row rfl 200 (.tmp 7) (.tmp 13) rfl w1.heap.size (kindAt kd) rfl rfl 200 kind0 (heap_alloc_new w1 _) (by rw [KS.out]; kernel_rfl) (by rw [KS.out]; rfl) KO.out ?_; rw [World.setRow_alloc_new])
      go_ret
      exact ⟨HF.out _ HE.out, HB1.out.alloc HB1.out.size _⟩
    · have e1 : (x.toList == []) = false := by rw [HL.out]; simpa using hx0
      have e2 : x.toList.isEmpty = false := by rw [HL.out]; simpa using hx0
      have HE := Lib.hid (show normalB s f x.data.toList = ownK kd s.rules x.data.toList by rw [HVal.out, if_pos rfl, if_neg hx0])
      clear hx0
      rcases hkd with rfl | rfl | rfl | rfl
      · have HE2 := Lib.hid (show normalB s f x.data.toList = isOwn (nameN s.rules x.data.toList) x.data.toList from HE.out)
        go_enter Tryz.func150, Tryz.ntmps150
        go_wp2_with fail
        refine HK.out.mono ?_
        rintro e w1 ⟨rfl, hb1⟩
        have HB1 := Lib.hid (((Below.refl w.heap.size w).alloc (Nat.le_refl _) (.cells #[vf, vt, vn, vs] 33)).trans (hb1.mono (by simp)))
        have HX1 := Lib.hid (blk_below (b := w.heap.size) (o := .cells #[vf, vt, vn, vs] 33 (0, 0)) hb1 (by simp) (blk_new rfl))
        clear hb1 HK
        have cf : (w1.alloc (.cells (kindAt 1) 200)).cell? ⟨w1.heap.size, 2, none⟩ = some (fnV 257) := by rw [cell_of_row _ _ _ _ _ _ (heap_alloc_new w1 _)]; rfl
        have z0 := lt_of_blk HX1.out
        obtain ⟨p0, p1, p2, p3⟩ := cells4 HX1.out
        go_wp2_with (refine wpList_store_row rfl 200 (.tmp 7) (.tmp 13) rfl w1.heap.size (kindAt 1) rfl rfl 200 kind0 (heap_alloc_new w1 _) (by rw [KS.out]; kernel_rfl) (by rw [KS.out]; rfl) KO.out ?_; rw [World.setRow_alloc_new])
        have HB2 := HB1.out.alloc HB1.out.size (.cells (kindAt 1) 200)
        have HB2' := Lib.hid HB2
        refine (normal_any Any1 vt vn vs s.rules x _ (HS.out.2.below HB2) hx).mono ?_
        clear HB2
        rw [← HE2.out]
        obtain ⟨pb, hpp⟩ : ∃ p, normalB s f x.data.toList = p := ⟨_, rfl⟩
        rw [hpp]
        have HPP := Lib.hid hpp
        rintro e w3 ⟨rfl, hb3⟩
        have HB3 := Lib.hid (HB2'.out.trans (hb3.mono HB2'.out.size))
        clear hb3 hpp HE HE2 cf p0 p1 p2 p3
        go_wp2_with fail
        go_ret
        exact ⟨HF.out _ HPP.out, HB3.out⟩
      · have HE2 := Lib.hid (show normalB s f x.data.toList = readB x.data.toList from HE.out)
        go_enter Tryz.func150, Tryz.ntmps150
        go_wp2_with fail
        refine HK.out.mono ?_
        rintro e w1 ⟨rfl, hb1⟩
        have HB1 := Lib.hid (((Below.refl w.heap.size w).alloc (Nat.le_refl _) (.cells #[vf, vt, vn, vs] 33)).trans (hb1.mono (by simp)))
        have HX1 := Lib.hid (blk_below (b := w.heap.size) (o := .cells #[vf, vt, vn, vs] 33 (0, 0)) hb1 (by simp) (blk_new rfl))
        clear hb1 HK
        have cf : (w1.alloc (.cells (kindAt 2) 200)).cell? ⟨w1.heap.size, 2, none⟩ = some (fnV 260) := by rw [cell_of_row _ _ _ _ _ _ (heap_alloc_new w1 _)]; rfl
        have z0 := lt_of_blk HX1.out
        obtain ⟨p0, p1, p2, p3⟩ := cells4 HX1.out
        go_wp2_with (refine wpList_store_row rfl 200 (.tmp 7) (.tmp 13) rfl w1.heap.size (kindAt 2) rfl rfl 200 kind0 (heap_alloc_new w1 _) (by rw [KS.out]; kernel_rfl) (by rw [KS.out]; rfl) KO.out ?_; rw [World.setRow_alloc_new])
        have HB2 := HB1.out.alloc HB1.out.size (.cells (kindAt 2) 200)
        have HB2' := Lib.hid HB2
        refine (kind1_any vt vn vs x _).mono ?_
        clear HB2
        rw [← HE2.out]
        obtain ⟨pb, hpp⟩ : ∃ p, normalB s f x.data.toList = p := ⟨_, rfl⟩
        rw [hpp]
        have HPP := Lib.hid hpp
        rintro e w3 ⟨rfl, hb3⟩
        have HB3 := Lib.hid (HB2'.out.trans (hb3.mono HB2'.out.size))
        clear hb3 hpp HE HE2 cf p0 p1 p2 p3
        go_wp2_with fail
        go_ret
        exact ⟨HF.out _ HPP.out, HB3.out⟩
      · have HE2 := Lib.hid (show normalB s f x.data.toList = isOwn (codeN x.data.toList) x.data.toList from HE.out)
        go_enter Tryz.func150, Tryz.ntmps150
        go_wp2_with fail
        refine HK.out.mono ?_
        rintro e w1 ⟨rfl, hb1⟩
        have HB1 := Lib.hid (((Below.refl w.heap.size w).alloc (Nat.le_refl _) (.cells #[vf, vt, vn, vs] 33)).trans (hb1.mono (by simp)))
        have HX1 := Lib.hid (blk_below (b := w.heap.size) (o := .cells #[vf, vt, vn, vs] 33 (0, 0)) hb1 (by simp) (blk_new rfl))
        clear hb1 HK
        have cf : (w1.alloc (.cells (kindAt 3) 200)).cell? ⟨w1.heap.size, 2, none⟩ = some (fnV 265) := by rw [cell_of_row _ _ _ _ _ _ (heap_alloc_new w1 _)]; rfl
        have z0 := lt_of_blk HX1.out
        obtain ⟨p0, p1, p2, p3⟩ := cells4 HX1.out
        go_wp2_with (refine wpList_store_row rfl 200 (.tmp 7) (.tmp 13) rfl w1.heap.size (kindAt 3) rfl rfl 200 kind0 (heap_alloc_new w1 _) (by rw [KS.out]; kernel_rfl) (by rw [KS.out]; rfl) KO.out ?_; rw [World.setRow_alloc_new])
        have HB2 := HB1.out.alloc HB1.out.size (.cells (kindAt 3) 200)
        have HB2' := Lib.hid HB2
        refine (kind3_any vt vn vs x _ hx).mono ?_
        clear HB2
        rw [← HE2.out]
        obtain ⟨pb, hpp⟩ : ∃ p, normalB s f x.data.toList = p := ⟨_, rfl⟩
        rw [hpp]
        have HPP := Lib.hid hpp
        rintro e w3 ⟨rfl, hb3⟩
        have HB3 := Lib.hid (HB2'.out.trans (hb3.mono HB2'.out.size))
        clear hb3 hpp HE HE2 cf p0 p1 p2 p3
        go_wp2_with fail
        go_ret
        exact ⟨HF.out _ HPP.out, HB3.out⟩
      · have HE2 := Lib.hid (show normalB s f x.data.toList = isOwn (addrN s.rules x.data.toList) x.data.toList from HE.out)
        go_enter Tryz.func150, Tryz.ntmps150
        go_wp2_with fail
        refine HK.out.mono ?_
        rintro e w1 ⟨rfl, hb1⟩
        have HB1 := Lib.hid (((Below.refl w.heap.size w).alloc (Nat.le_refl _) (.cells #[vf, vt, vn, vs] 33)).trans (hb1.mono (by simp)))
        have HX1 := Lib.hid (blk_below (b := w.heap.size) (o := .cells #[vf, vt, vn, vs] 33 (0, 0)) hb1 (by simp) (blk_new rfl))
        clear hb1 HK
        have cf : (w1.alloc (.cells (kindAt 4) 200)).cell? ⟨w1.heap.size, 2, none⟩ = some (fnV 269) := by rw [cell_of_row _ _ _ _ _ _ (heap_alloc_new w1 _)]; rfl
        have z0 := lt_of_blk HX1.out
        obtain ⟨p0, p1, p2, p3⟩ := cells4 HX1.out
        go_wp2_with (refine wpList_store_row rfl 200 (.tmp 7) (.tmp 13) rfl w1.heap.size (kindAt 4) rfl rfl 200 kind0 (heap_alloc_new w1 _) (by rw [KS.out]; kernel_rfl) (by rw [KS.out]; rfl) KO.out ?_; rw [World.setRow_alloc_new])
        have HB2 := HB1.out.alloc HB1.out.size (.cells (kindAt 4) 200)
        have HB2' := Lib.hid HB2
        refine (anormal_any Any1 vt vn vs s.rules x _ (HS.out.2.below HB2) hx).mono ?_
        clear HB2
        rw [← HE2.out]
        obtain ⟨pb, hpp⟩ : ∃ p, normalB s f x.data.toList = p := ⟨_, rfl⟩
        rw [hpp]
        have HPP := Lib.hid hpp
        rintro e w3 ⟨rfl, hb3⟩
        have HB3 := Lib.hid (HB2'.out.trans (hb3.mono HB2'.out.size))
        clear hb3 hpp HE HE2 cf p0 p1 p2 p3
        go_wp2_with fail
        go_ret
        exact ⟨HF.out _ HPP.out, HB3.out⟩
  · have hne : (er == 0) = false := by simpa using he
    have HE := Lib.hid (show normalB s f x.data.toList = false by rw [HVal.out, if_neg he])
    clear he hkk
    go_enter Tryz.func150, Tryz.ntmps150
    go_wp2_with fail
    refine HK.out.mono ?_
    rintro e w1 ⟨rfl, hb1⟩
    have HB1 := Lib.hid (((Below.refl w.heap.size w).alloc (Nat.le_refl _) (.cells #[vf, vt, vn, vs] 33)).trans (hb1.mono (by simp)))
    have HX1 := Lib.hid (blk_below (b := w.heap.size) (o := .cells #[vf, vt, vn, vs] 33 (0, 0)) hb1 (by simp) (blk_new rfl))
    clear hb1 HK
    go_wp2_with (refine wpList_store_row rfl 200 (.tmp 7) (.tmp 13) rfl w1.heap.size (kindAt kd) rfl rfl 200 kind0 (heap_alloc_new w1 _) (by rw [KS.out]; kernel_rfl) (by rw [KS.out]; rfl) KO.out ?_; rw [World.setRow_alloc_new])
    go_ret
    exact ⟨HF.out _ HE.out, HB1.out.alloc HB1.out.size _⟩
end Go.Proofs.YthdolmofeeniaaaGreatDoor
end
section
/- Plain law: what is normalised is normal (names, codes, days). -/
set_option linter.unusedSimpArgs false
set_option linter.unusedVariables false
set_option maxRecDepth 100000
namespace Go.Proofs.YthdolmofeeniaaaGreatDoor
open Go.RowKit Cal
theorem letters_low (t : List UInt8) : ∀ b ∈ lettersL t, isLow b = true := fun b hb => (List.mem_filter.1 hb).2
theorem low_same {t : List UInt8} (h : ∀ b ∈ t, isLow b = true) : lettersL t = t := List.filter_eq_self.2 h
theorem low_okT {t : List UInt8} (h0 : t ≠ []) (h : ∀ b ∈ t, isLow b = true) : okT t := ⟨h0, fun b hb => ⟨by simp [okB, h b hb], by
  intro e; subst e; have := h 32 hb; rw [low_iff] at this; simp at this⟩⟩
theorem token_low {t : List UInt8} (h : tokenB t = true) : t ≠ [] ∧ ∀ b ∈ t, isLow b = true := by
  unfold tokenB at h
  cases h1 : t.isEmpty
  · simp only [h1, cond_false] at h
    cases h2 : decide (t.length ≤ 64)
    · simp [h2] at h
    · simp only [h2, cond_true, beq_iff_eq] at h
      exact ⟨by simpa using h1, fun b hb => letters_low t b (by rw [h]; exact hb)⟩
  · simp [h1] at h
theorem pair_facts {L : List P2} (h : pairsB L = true) (j : Nat) (hj : j < L.length) : tokenB (L.getD j default).1 = true ∧ tokenB (L.getD j default).2 = true ∧ findI L (L.getD j default).2 < 0 := by
  have := pairs_at h j hj
  unfold pairAtB at this
  simp only [Bool.and_eq_true, decide_eq_true_iff] at this
  exact ⟨this.1.1.1, this.1.1.2, this.2⟩
theorem canon_neg {L : List P2} {s : List UInt8} (h : findI L s < 0) : canonL L s = s := by
  rcases canon_find L s with ⟨_, h2⟩ | ⟨k, _, h1, _⟩
  · exact h2
  · omega
/-- by rules, a token becomes itself, or one that is no token of the rules -/
theorem canon_cases {L : List P2} (h : pairsB L = true) (s : List UInt8) : (canonL L s = s) ∨ (∃ k, k < L.length ∧ canonL L s = (L.getD k default).2 ∧ tokenB (canonL L s) = true ∧ canonL L (canonL L s) = canonL L s) := by
  rcases canon_find L s with ⟨_, h2⟩ | ⟨k, hk, h1, h3⟩
  · exact .inl h2
  · right
    obtain ⟨_, g2, g3⟩ := pair_facts h k hk
    rw [h3] at g2 g3
    exact ⟨k, hk, h3.symm, g2, canon_neg g3⟩
theorem normTok_same {r : RulesL} (hc : checkR r = 0) {x t : List UInt8} (ht : t ∈ normTok r x) : okT t ∧ normTok r t = [t] := by
  obtain ⟨_, _, h2, _, h4⟩ := check_zero hc
  unfold normTok at ht
  by_cases hd : ((lettersL x).isEmpty || hasB r.titles (lettersL x)) = true
  · rw [if_pos hd] at ht; simp at ht
  · rw [if_neg hd] at ht
    simp at ht
    simp only [Bool.or_eq_true, not_or, Bool.not_eq_true] at hd
    obtain ⟨hd1, hd2⟩ := hd
    have key : ∀ y : List UInt8, y ≠ [] → (∀ b ∈ y, isLow b = true) → hasB r.titles y = false → canonL r.nicks y = y → okT y ∧ normTok r y = [y] := by
      intro y h0 h1 h3 h5
      refine ⟨low_okT h0 h1, ?_⟩
      unfold normTok
      rw [low_same h1, h3, h5, if_neg (by simpa using h0)]
    rcases canon_cases h2 (lettersL x) with hs | ⟨k, hk, e1, e2, e3⟩
    · rw [hs] at ht
      subst ht
      exact key _ (by simpa using hd1) (letters_low x) hd2 hs
    · rw [← ht] at e1 e2 e3
      obtain ⟨g1, g2⟩ := token_low e2
      refine key t g1 g2 ?_ e3
      rw [e1]
      have := List.any_eq_false.1 h4 (r.nicks.getD k default) (by rw [List.getD, List.getElem?_eq_getElem hk]; exact List.getElem_mem hk)
      simpa using this
theorem nameToks_same {r : RulesL} (hc : checkR r = 0) (T : List (List UInt8)) : (∀ t ∈ nameToks r T, okT t) ∧ nameToks r (nameToks r T) = nameToks r T := by
  have h : ∀ t ∈ nameToks r T, okT t ∧ normTok r t = [t] := by
    intro t ht
    obtain ⟨x, _, hx⟩ := List.mem_flatMap.1 ht
    exact normTok_same hc hx
  refine ⟨fun t ht => (h t ht).1, ?_⟩
  have : ∀ L : List (List UInt8), (∀ t ∈ L, normTok r t = [t]) → nameToks r L = L := by
    intro L
    induction L with
    | nil => intro _; rfl
    | cons t L ih =>
      intro hL
      have := ih fun x hx => hL x (List.mem_cons_of_mem _ hx)
      unfold nameToks at this ⊢
      rw [List.flatMap_cons, this, hL t List.mem_cons_self]; rfl
  exact this _ fun t ht => (h t ht).2
theorem nameN_same {r : RulesL} {l v : List UInt8} (h : nameN r l = (v, 0)) : nameN r v = (v, 0) := by
  unfold nameN at h
  by_cases hc : checkR r = 0
  · rw [if_pos hc] at h
    by_cases hv : foldV l = true
    · rw [if_pos hv] at h
      obtain ⟨h1, h2⟩ := nameToks_same hc (toks (foldL l))
      generalize nameToks r (toks (foldL l)) = N at h h1 h2
      by_cases hb : 6 < N.length ∨ 64 < (joinL N).length
      · rw [if_pos hb] at h; simp at h
      · rw [if_neg hb] at h
        obtain rfl : joinL N = v := congrArg Prod.fst h
        obtain ⟨f1, f2⟩ := fold_same N h1
        unfold nameN
        rw [if_pos hc, if_pos (foldV_join N h1 (by omega)), f2, h2, if_neg hb]
    · rw [if_neg hv] at h; simp at h
  · rw [if_neg hc] at h
    exact absurd (congrArg Prod.snd h) hc
theorem codeN_same {l v : List UInt8} (h : codeN l = (v, 0)) : codeN v = (v, 0) := by
  unfold codeN at h
  by_cases hv : foldV l = true
  · rw [if_pos hv] at h
    have hok := toks_ok l
    generalize toks (foldL l) = T at h hok
    by_cases hb : 12 < T.flatten.length
    · rw [if_pos hb] at h; simp at h
    · rw [if_neg hb] at h
      obtain rfl : T.flatten = v := congrArg Prod.fst h
      have hbytes : ∀ b ∈ T.flatten, okB b = true ∧ b ≠ 32 := by
        intro b hb'
        obtain ⟨t, ht, hbt⟩ := List.mem_flatten.1 hb'
        exact (hok t ht).2 b hbt
      by_cases h0 : T.flatten = []
      · rw [h0]; rfl
      · have hL : ∀ t ∈ [T.flatten], okT t := by
          intro t ht; simp at ht; subst ht; exact ⟨h0, hbytes⟩
        obtain ⟨f1, f2⟩ := fold_same [T.flatten] hL
        have f3 := foldV_join [T.flatten] hL (by simp [joinL]; simp at hb; omega)
        rw [show joinL [T.flatten] = T.flatten from rfl] at f1 f2 f3
        unfold codeN
        rw [if_pos f3, f2]
        simp only [List.flatten_cons, List.flatten_nil, List.append_nil]
        rw [if_neg hb]
  · rw [if_neg hv] at h; simp at h
end Go.Proofs.YthdolmofeeniaaaGreatDoor
end
section
/- Plain law: what is normalised is normal (addresses, days, any field). -/
set_option linter.unusedSimpArgs false
set_option linter.unusedVariables false
set_option maxRecDepth 100000
namespace Go.Proofs.YthdolmofeeniaaaGreatDoor
open Go.RowKit Cal
theorem dropWhile_fix (l : List UInt8) : (l.dropWhile (· == 48)).dropWhile (· == 48) = l.dropWhile (· == 48) := by
  induction l with
  | nil => rfl
  | cons c l ih =>
    by_cases hc : (c == 48) = true
    · rw [List.dropWhile_cons, if_pos hc, ih]
    · rw [List.dropWhile_cons, if_neg hc, List.dropWhile_cons, if_neg hc]
theorem short_num (x : List UInt8) : numB (shortL x) = true := by
  unfold shortL
  split
  · assumption
  · rfl
theorem short_same (x : List UInt8) : shortL (shortL x) = shortL x := by
  have hd := dropWhile_fix x
  generalize hr : x.dropWhile (· == 48) = r at hd
  have e : shortL x = if numB r = true then r else 48 :: r := by unfold shortL; rw [hr]
  by_cases hn : numB r = true
  · rw [e, if_pos hn]; unfold shortL; rw [hd, if_pos hn]
  · rw [e, if_neg hn]; unfold shortL
    rw [show (48 :: r).dropWhile (· == 48) = r.dropWhile (· == 48) from rfl, hd, if_neg hn]
theorem dropWhile_mem (l : List UInt8) : ∀ b ∈ l.dropWhile (· == 48), b ∈ l := by
  induction l with
  | nil => intro b hb; simp at hb
  | cons c l ih =>
    intro b hb
    by_cases hc : (c == 48) = true
    · rw [List.dropWhile_cons, if_pos hc] at hb; exact List.mem_cons_of_mem _ (ih b hb)
    · rw [List.dropWhile_cons, if_neg hc] at hb; exact hb
theorem short_ok {x : List UInt8} (h : okT x) : okT (shortL x) := by
  have h1 : ∀ b ∈ x.dropWhile (· == 48), okB b = true ∧ b ≠ 32 := fun b hb => h.2 b (dropWhile_mem x b hb)
  unfold shortL
  split
  · rename_i hn
    refine ⟨fun e => ?_, h1⟩
    rw [e] at hn; cases hn
  · refine ⟨by simp, fun b hb => ?_⟩
    rcases List.mem_cons.1 hb with rfl | hb
    · exact ⟨by decide, by decide⟩
    · exact h1 b hb
theorem low_not_num {t : List UInt8} (h : ∀ b ∈ t, isLow b = true) : numB t = false := by
  cases t with
  | nil => rfl
  | cons c t =>
    have := h c List.mem_cons_self
    rw [low_iff, decide_eq_true_iff] at this
    show isDgt c = false
    rw [dig_iff]; simp; omega
/-- what becomes of a token stays, and stays a number or none -/
theorem addrTok_same {r : RulesL} (h : pairsB r.streets = true) {x : List UInt8} (hx : okT x) : okT (addrTok r x) ∧ addrTok r (addrTok r x) = addrTok r x := by
  by_cases hn : numB x = true
  · have e : addrTok r x = shortL x := by unfold addrTok; rw [if_pos hn]
    rw [e]
    refine ⟨short_ok hx, ?_⟩
    unfold addrTok
    rw [if_pos (short_num x), short_same]
  · have e : addrTok r x = canonL r.streets x := by unfold addrTok; rw [if_neg hn]
    rw [e]
    rcases canon_cases h x with hs | ⟨k, hk, e1, e2, e3⟩
    · rw [hs]; exact ⟨hx, by rw [e, hs]⟩
    · obtain ⟨g1, g2⟩ := token_low e2
      refine ⟨low_okT g1 g2, ?_⟩
      unfold addrTok
      rw [low_not_num g2, e3]; simp
theorem order2_same (T : List (List UInt8)) : order2 (order2 T) = order2 T := by
  have hn : ∀ L : List (List UInt8), L.filter (fun _ => false) = [] := fun L => by induction L with
    | nil => rfl
    | cons x L ih => rw [List.filter_cons]; simp
  unfold order2
  simp [List.filter_append, List.filter_filter, hn]
theorem order2_length (T : List (List UInt8)) : (order2 T).length = T.length := by
  induction T with
  | nil => rfl
  | cons t T ih =>
    unfold order2 at ih ⊢
    cases h : numB t <;> simp [List.filter_cons, h] at ih ⊢ <;> omega
theorem map_same {f : List UInt8 → List UInt8} : ∀ (T : List (List UInt8)), (∀ t ∈ T, f t = t) → T.map f = T := by
  intro T
  induction T with
  | nil => intro _; rfl
  | cons t T ih => intro h; rw [List.map_cons, h t List.mem_cons_self, ih fun x hx => h x (List.mem_cons_of_mem _ hx)]
theorem addrN_same {r : RulesL} {l v : List UInt8} (h : addrN r l = (v, 0)) : addrN r v = (v, 0) := by
  unfold addrN at h
  by_cases hc : checkR r = 0
  · rw [if_pos hc] at h
    obtain ⟨_, _, _, h3, _⟩ := check_zero hc
    by_cases hv : foldV l = true
    · rw [if_pos hv] at h
      have hok := toks_ok l
      generalize toks (foldL l) = T at h hok
      have hM : ∀ t ∈ order2 (T.map (addrTok r)), okT t ∧ addrTok r t = t := by
        intro t ht
        obtain ⟨x, hx, rfl⟩ := List.mem_map.1 (order2_mem ht)
        exact addrTok_same h3 (hok x hx)
      have hlen : (order2 (T.map (addrTok r))).length = T.length := by rw [order2_length, List.length_map]
      by_cases hb : 6 < T.length ∨ 64 < (joinL (order2 (T.map (addrTok r)))).length
      · rw [if_pos hb] at h; simp at h
      · rw [if_neg hb] at h
        have hs := order2_same (T.map (addrTok r))
        generalize order2 (T.map (addrTok r)) = M at h hM hlen hb hs
        obtain rfl : joinL M = v := congrArg Prod.fst h
        have h1 : ∀ t ∈ M, okT t := fun t ht => (hM t ht).1
        obtain ⟨f1, f2⟩ := fold_same M h1
        unfold addrN
        rw [if_pos hc, if_pos (foldV_join M h1 (by omega)), f2, map_same M fun t ht => (hM t ht).2, hs, if_neg (by rw [hlen]; exact hb)]
    · rw [if_neg hv] at h; simp at h
  · rw [if_neg hc] at h
    exact absurd (congrArg Prod.snd h) hc
theorem numI_dg (n : Int) (k : Nat) (h0 : 0 ≤ n) (h : n < 10 ^ k) : numI (dg n k) = n := by
  rw [numI_dig _ (dg_dig k n h0), dg_val k n h0 h]
theorem day_read {a b c : Int} (h : vldB a b c = true) : readB (digits8 a b c) = true := by
  obtain ⟨b1, b2, b3, b4, b5, b6⟩ := vld_bd h
  have e1 : (digits8 a b c).take 4 = dg a 4 := by
    unfold digits8; rw [List.append_assoc, List.take_append_of_le_length (by rw [dg_len]; omega), List.take_of_length_le (by rw [dg_len]; omega)]
  have e2 : ((digits8 a b c).drop 4).take 2 = dg b 2 := by
    unfold digits8; rw [List.append_assoc, List.drop_append_of_le_length (by rw [dg_len]; omega), List.drop_eq_nil_of_le (by rw [dg_len]; omega), List.nil_append, List.take_append_of_le_length (by rw [dg_len]; omega), List.take_of_length_le (by rw [dg_len]; omega)]
  have e3 : ((digits8 a b c).drop 6).take 2 = dg c 2 := by
    unfold digits8; rw [List.drop_append_of_le_length (by simp [dg_len]), List.drop_eq_nil_of_le (by simp [dg_len]), List.nil_append, List.take_of_length_le (by rw [dg_len]; omega)]
  unfold readB
  rw [digits8_len, e1, e2, e3, numI_dg a 4 (by omega) (by omega), numI_dg b 2 (by omega) (by omega), numI_dg c 2 (by omega) (by omega), h]
  rfl
theorem dayN_read {l v : List UInt8} (h : dayN l = (v, 0)) : readB v = true := by
  rcases parse_is ⟨l.toArray⟩ with ⟨a, b, c, hv, _, hd⟩ | ⟨_, hd⟩
  · rw [show (⟨l.toArray⟩ : ByteArray).data.toList = l by simp, h] at hd
    obtain rfl : v = digits8 a b c := congrArg Prod.fst hd
    exact day_read hv
  · rw [show (⟨l.toArray⟩ : ByteArray).data.toList = l by simp, h] at hd
    simp at hd
theorem own_of {p : List UInt8 × Int} {v : List UInt8} (h : p = (v, 0)) : isOwn p v = true := by subst h; simp [isOwn]
/-- what is normalised is normal; and what is no date stays as it is -/
theorem value_normal {s : SchemaL} {f : Int} {l v : List UInt8} (h : valueN s f l = (v, 0)) : normalB s f v = true ∧ normalB s f [] = true ∧ ((findN s f).1 = 2 ∨ valueN s f v = (v, 0)) := by
  unfold valueN at h
  by_cases he : (findN s f).2 = 0
  · have hk := findN_kind he
    have e2 : normalB s f [] = true := by unfold normalB; rw [if_pos he, if_pos rfl]
    by_cases hv0 : v = []
    · subst hv0
      exact ⟨e2, e2, .inr (by unfold valueN; rw [if_pos he, if_pos rfl])⟩
    · rw [if_pos he] at h
      by_cases hl : l = []
      · rw [if_pos hl] at h
        exact absurd (congrArg Prod.fst h).symm hv0
      · rw [if_neg hl] at h
        have e1 : normalB s f v = ownK (findN s f).1 s.rules v := by unfold normalB; rw [if_pos he, if_neg hv0]
        have e3 : valueN s f v = normK (findN s f).1 s.rules v := by unfold valueN; rw [if_pos he, if_neg hv0]
        rw [e1, e3]
        rcases hk with hk | hk | hk | hk
        · rw [hk] at h ⊢
          have := nameN_same (r := s.rules) h
          exact ⟨own_of this, e2, .inr this⟩
        · rw [hk] at h ⊢
          exact ⟨dayN_read (show dayN l = (v, 0) from h), e2, .inl rfl⟩
        · rw [hk] at h ⊢
          have := codeN_same (show codeN l = (v, 0) from h)
          exact ⟨own_of this, e2, .inr this⟩
        · rw [hk] at h ⊢
          have := addrN_same (r := s.rules) h
          exact ⟨own_of this, e2, .inr this⟩
  · rw [if_neg he] at h
    exact absurd (congrArg Prod.snd h) he
end Go.Proofs.YthdolmofeeniaaaGreatDoor
end
section
/- schema: a line of the text of a schema. -/
set_option linter.unusedSimpArgs false
set_option linter.unusedVariables false
set_option maxRecDepth 100000
namespace Go.Proofs.YthdolmofeeniaaaGreatDoor
open Go.RowKit Cal
attribute [local go_sem] toList_mk mk_size
/-- the builder holds these bytes -/
def HoldsB (B b : Nat) (l : List UInt8) (w : World) : Prop := Lib.IsBuilderF 183 5 B b (Lib.byteCells l) w ∧ B ≤ w.heap.size
theorem own_belowF {w w' : World} {B e size n : Nat} {v : Value} {xs : List Value} (h : w.ownsRowF B e size v n xs) (hb : Below w.heap.size w w') : w'.ownsRowF B e size v n xs := by
  refine ⟨h.1, ?_⟩
  rcases h.2 with h0 | ⟨g, cap, cur, fz, hv, hg, hh, rest⟩
  · exact .inl h0
  · exact .inr ⟨g, cap, cur, fz, hv, hg, (hb.block g (lt_of_blk hh)).trans hh, rest⟩
theorem HoldsB.below {B b : Nat} {l : List UInt8} {w w' : World} (h : HoldsB B b l w) (hb : Below w.heap.size w w') : HoldsB B b l w' := by
  have key : ∀ p, Lib.BuilderAtF 183 5 B b p (Lib.byteCells l) w → Lib.BuilderAtF 183 5 B b p (Lib.byteCells l) w' := by
    rintro p ⟨h1, v, h2, h3, h4⟩
    exact ⟨h1, v, blk_below hb (lt_of_blk h2) h2, own_belowF h3 hb, h4⟩
  exact ⟨h.1.imp (key _) (key _), Nat.le_trans h.2 hb.size⟩
end Go.Proofs.YthdolmofeeniaaaGreatDoor
end
section
/- schema.Text. -/
set_option linter.unusedSimpArgs false
set_option linter.unusedVariables false
set_option maxRecDepth 100000
namespace Go.Proofs.YthdolmofeeniaaaGreatDoor
open Go.RowKit Cal
attribute [local go_sem] toList_mk mk_size
theorem take_snocA {α : Type} [Inhabited α] (T : List α) (k : Nat) (h : k < T.length) : T.take (k + 1) = T.take k ++ [T.getD k default] := by
  rw [List.take_succ_eq_append_getElem h, List.getD, List.getElem?_eq_getElem h]; rfl
theorem HoldsB.lt {B b : Nat} {l : List UInt8} {w : World} (h : HoldsB B b l w) : b < w.heap.size := by
  rcases h.1 with ⟨_, v, h2, _⟩ | ⟨_, v, h2, _⟩ <;> exact lt_of_blk h2
/-- what the loops of Text hold: the text so far; the blocks of w1 as they were -/
def TextAt (w1 : World) (l : List UInt8) (wr : World) : Prop := HoldsB w1.heap.size w1.heap.size l wr ∧ Below w1.heap.size w1 wr
theorem TextAt.below {w1 wr w' : World} {l : List UInt8} (h : TextAt w1 l wr) (hb : Below wr.heap.size wr w') : TextAt w1 l w' := ⟨h.1.below hb, h.2.trans (hb.mono h.2.size)⟩
end Go.Proofs.YthdolmofeeniaaaGreatDoor
end
section
/- Plain law: how long a normal form is; an error leaves nothing. -/
set_option linter.unusedSimpArgs false
set_option linter.unusedVariables false
set_option maxRecDepth 100000
namespace Go.Proofs.YthdolmofeeniaaaGreatDoor
open Go.RowKit Cal
/-- what a normal form may be, with its error -/
def FormOk (p : List UInt8 × Int) : Prop := p.1.length ≤ 64 ∧ (p.2 ≠ 0 → p.1 = [])
theorem FormOk.err (e : Int) : FormOk ([], e) := ⟨by simp, fun _ => rfl⟩
theorem nameN_form (r : RulesL) (l : List UInt8) : FormOk (nameN r l) := by
  unfold nameN
  repeat' split
  all_goals first | exact FormOk.err _ | skip
  all_goals exact ⟨by dsimp only; omega, fun h => absurd rfl h⟩
theorem addrN_form (r : RulesL) (l : List UInt8) : FormOk (addrN r l) := by
  unfold addrN
  repeat' split
  all_goals first | exact FormOk.err _ | skip
  all_goals exact ⟨by dsimp only; omega, fun h => absurd rfl h⟩
theorem codeN_form (l : List UInt8) : FormOk (codeN l) := by
  unfold codeN
  repeat' split
  all_goals first | exact FormOk.err _ | skip
  all_goals exact ⟨by dsimp only; omega, fun h => absurd rfl h⟩
theorem dayF_form (y m d : List UInt8) : FormOk (dayF y m d) := by
  unfold dayF
  cases vldB (numI y) (numI m) (numI d)
  · exact FormOk.err _
  · exact ⟨by show (digits8 _ _ _).length ≤ 64; rw [digits8_len]; omega, fun h => absurd rfl h⟩
theorem dayN_form (l : List UInt8) : FormOk (dayN l) := by
  unfold dayN
  repeat' split
  all_goals first | exact FormOk.err _ | exact dayF_form _ _ _
theorem valueN_form (s : SchemaL) (f : Int) (l : List UInt8) : FormOk (valueN s f l) := by
  unfold valueN normK
  repeat' split
  all_goals first | exact FormOk.err _ | exact nameN_form _ _ | exact dayN_form _ | exact codeN_form _ | exact addrN_form _ _
theorem findN_in {s : SchemaL} {f : Nat} (h : checkS s = 0) (hf : f < s.fields.length) : findN s f = ((s.fields.getD f default).2, 0) := by
  unfold findN
  rw [if_pos h, if_pos (by omega), Int.toNat_natCast]
end Go.Proofs.YthdolmofeeniaaaGreatDoor
end
section
/- Plain law: grams of a normal form: ascending, not more than 80, none only of the empty text. -/
set_option linter.unusedSimpArgs false
set_option linter.unusedVariables false
set_option maxRecDepth 100000
namespace Go.Proofs.YthdolmofeeniaaaGreatDoor
open Go.RowKit Cal
theorem nameN_toks {r : RulesL} {l v : List UInt8} (h : nameN r l = (v, 0)) : ∃ M : List (List UInt8), (∀ t ∈ M, okT t) ∧ v = joinL M ∧ M.length ≤ 6 ∧ v.length ≤ 64 := by
  unfold nameN at h
  by_cases hc : checkR r = 0
  · rw [if_pos hc] at h
    by_cases hv : foldV l = true
    · rw [if_pos hv] at h
      obtain ⟨h1, _⟩ := nameToks_same hc (toks (foldL l))
      generalize nameToks r (toks (foldL l)) = M at h h1
      by_cases hb : 6 < M.length ∨ 64 < (joinL M).length
      · rw [if_pos hb] at h; simp at h
      · rw [if_neg hb] at h
        obtain rfl : joinL M = v := congrArg Prod.fst h
        exact ⟨M, h1, rfl, by omega, by omega⟩
    · rw [if_neg hv] at h; simp at h
  · rw [if_neg hc] at h
    exact absurd (congrArg Prod.snd h) hc
theorem addrN_toks {r : RulesL} {l v : List UInt8} (h : addrN r l = (v, 0)) : ∃ M : List (List UInt8), (∀ t ∈ M, okT t) ∧ v = joinL M ∧ M.length ≤ 6 ∧ v.length ≤ 64 := by
  unfold addrN at h
  by_cases hc : checkR r = 0
  · rw [if_pos hc] at h
    obtain ⟨_, _, _, h3, _⟩ := check_zero hc
    by_cases hv : foldV l = true
    · rw [if_pos hv] at h
      have hok := toks_ok l
      generalize toks (foldL l) = T at h hok
      have hM : ∀ t ∈ order2 (T.map (addrTok r)), okT t := by
        intro t ht
        obtain ⟨x, hx, rfl⟩ := List.mem_map.1 (order2_mem ht)
        exact (addrTok_same h3 (hok x hx)).1
      have hlen : (order2 (T.map (addrTok r))).length = T.length := by rw [order2_length, List.length_map]
      by_cases hb : 6 < T.length ∨ 64 < (joinL (order2 (T.map (addrTok r)))).length
      · rw [if_pos hb] at h; simp at h
      · rw [if_neg hb] at h
        obtain rfl : joinL (order2 (T.map (addrTok r))) = v := congrArg Prod.fst h
        exact ⟨_, hM, rfl, by omega, by omega⟩
    · rw [if_neg hv] at h; simp at h
  · rw [if_neg hc] at h
    exact absurd (congrArg Prod.snd h) hc
end Go.Proofs.YthdolmofeeniaaaGreatDoor
end
section
/- gram.Grams. -/
set_option linter.unusedSimpArgs false
set_option linter.unusedVariables false
set_option maxRecDepth 100000
namespace Go.Proofs.YthdolmofeeniaaaGreatDoor
open Go.RowKit
attribute [local go_sem] toList_mk mk_size bytes_append
theorem toks_len (l : List UInt8) (h : l.length ≤ 64) : (toks l).length ≤ 65 ∧ ∀ t ∈ toks l, t.length ≤ 64 := by
  have h1 := toksA_len l []
  unfold toks
  refine ⟨by simp at h1; omega, fun t ht => ?_⟩
  have : ∀ (L : List (List UInt8)), t ∈ L → t.length ≤ (joinL L).length := by
    intro L
    induction L with
    | nil => intro h; simp at h
    | cons a L ih =>
      intro h
      by_cases hL : L = []
      · subst hL; simp at h; subst h; exact Nat.le_refl _
      · rw [join_cons_ne _ _ hL]
        rcases List.mem_cons.1 h with rfl | h
        · simp
        · have := ih h; simp; omega
  have := this _ ht
  simp at h1; omega
end Go.Proofs.YthdolmofeeniaaaGreatDoor
end
section
/- schema.Grams: what it returns, of every input. -/
set_option linter.unusedSimpArgs false
set_option linter.unusedVariables false
set_option maxRecDepth 100000
namespace Go.Proofs.YthdolmofeeniaaaGreatDoor
open Go.RowKit Cal
attribute [local go_sem] toList_mk mk_size bytes_append
theorem own_small {p : List UInt8 × Int} {l : List UInt8} (h : isOwn p l = true) (hf : FormOk p) : l.length ≤ 64 ∧ p = (l, 0) := by
  obtain ⟨a, b⟩ := p
  unfold isOwn at h
  cases hb : (b == (0 : Int))
  · rw [hb] at h; cases h
  · rw [hb] at h
    simp only [cond_true, beq_iff_eq] at h hb
    subst h hb
    exact ⟨hf.1, rfl⟩
theorem join_ascii {M : List (List UInt8)} (h : ∀ t ∈ M, okT t) : ascii (joinL M) := fun b hb => okB_lt (join_ok M h b hb)
/-- what a value in normal form is like -/
theorem own_facts {k : Int} {r : RulesL} {l : List UInt8} (h : ownK k r l = true) (hk : k = 1 ∨ k = 2 ∨ k = 3 ∨ k = 4) : l.length ≤ 64 ∧ (k = 1 ∨ k = 4 → ascii l) ∧ (k = 2 → l.length = 8) := by
  unfold ownK at h
  rcases hk with rfl | rfl | rfl | rfl
  · obtain ⟨h1, h2⟩ := own_small (show isOwn (nameN r l) l = true from h) (nameN_form r l)
    obtain ⟨M, g1, g2, _⟩ := nameN_toks h2
    exact ⟨h1, fun _ => by rw [g2]; exact join_ascii g1, fun e => by omega⟩
  · have hr : readB l = true := h
    unfold readB at hr
    cases hd : decide (l.length = 8)
    · rw [hd] at hr; cases hr
    · have : l.length = 8 := by simpa using hd
      exact ⟨by omega, fun e => by omega, fun _ => this⟩
  · obtain ⟨h1, h2⟩ := own_small (show isOwn (codeN l) l = true from h) (codeN_form l)
    exact ⟨h1, fun e => by omega, fun e => by omega⟩
  · obtain ⟨h1, h2⟩ := own_small (show isOwn (addrN r l) l = true from h) (addrN_form r l)
    obtain ⟨M, g1, g2, _⟩ := addrN_toks h2
    exact ⟨h1, fun _ => by rw [g2]; exact join_ascii g1, fun e => by omega⟩
end Go.Proofs.YthdolmofeeniaaaGreatDoor
end
section
/- Plain: records: which are valid, how they are made. -/
set_option linter.unusedSimpArgs false
set_option linter.unusedVariables false
namespace Go.Proofs.YthdolmofeeniaaaGreatDoor
open Go.RowKit
/-- a record -/
structure RecL where
  id : Int
  ver : Int
  vals : List (List UInt8)
def noRec : RecL := ⟨0, 0, []⟩
def numberedB (i v : Int) : Bool := decide (1 ≤ i) && decide (i ≤ 1048576) && decide (1 ≤ v) && decide (v ≤ 1048576)
/-- values from field i on are normal -/
def normA (s : SchemaL) : Nat → List (List UInt8) → Bool
  | _, [] => true
  | i, x :: l => normalB s i x && normA s (i + 1) l
def checkI (s : SchemaL) (r : RecL) : Int := if (numberedB r.id r.ver && (r.vals.length == s.fields.length) && normA s 0 r.vals) = true then 0 else 7
def checkN (s : SchemaL) (r : RecL) : Int := if checkS s = 0 then checkI s r else checkS s
/-- the values that are made of raw ones, from field i on, behind C; the error -/
def makeA (s : SchemaL) : Nat → List (List UInt8) → List (List UInt8) → List (List UInt8) × Int
  | _, C, [] => (C, 0)
  | i, C, x :: l => if (valueN s i x).2 = 0 then makeA s (i + 1) (C ++ [(valueN s i x).1]) l else ([], (valueN s i x).2)
def makeN (s : SchemaL) (id ver : Int) (raws : List (List UInt8)) : RecL × Int :=
  if checkS s = 0 then
    if raws.length = s.fields.length then
      if numberedB id ver = true then (if (makeA s 0 [] raws).2 = 0 then (⟨id, ver, (makeA s 0 [] raws).1⟩, 0) else (noRec, (makeA s 0 [] raws).2))
      else (noRec, 7)
    else (noRec, 8)
  else (noRec, checkS s)
theorem makeA_len (s : SchemaL) (raws : List (List UInt8)) : ∀ i C, (makeA s i C raws).2 = 0 → (makeA s i C raws).1.length = C.length + raws.length := by
  induction raws with
  | nil => intro i C _; simp [makeA]
  | cons x l ih =>
    intro i C h
    unfold makeA at h ⊢
    split at h
    · rename_i h0
      rw [if_pos h0, ih _ _ h]; simp; omega
    · rename_i h0
      exact absurd h h0
theorem normA_append (s : SchemaL) (A B : List (List UInt8)) : ∀ i, normA s i (A ++ B) = (normA s i A && normA s (i + A.length) B) := by
  induction A with
  | nil => intro i; simp [normA]
  | cons x A ih => intro i; simp only [List.cons_append, normA, ih, List.length_cons, Bool.and_assoc]; rw [show i + 1 + A.length = i + (A.length + 1) by omega]
theorem normA_get (s : SchemaL) (L : List (List UInt8)) : ∀ i, normA s i L = true → ∀ j, j < L.length → normalB s (i + j : Nat) (L.getD j []) = true := by
  induction L with
  | nil => intro i _ j hj; simp at hj
  | cons x L ih =>
    intro i h j hj
    simp only [normA, Bool.and_eq_true] at h
    cases j with
    | zero => simpa using h.1
    | succ j =>
      have := ih (i + 1) h.2 j (by simpa using hj)
      rw [show i + (j + 1) = i + 1 + j by omega]
      simpa using this
theorem normA_of (s : SchemaL) (L : List (List UInt8)) : ∀ i, (∀ j, j < L.length → normalB s (i + j : Nat) (L.getD j []) = true) → normA s i L = true := by
  induction L with
  | nil => intro i _; rfl
  | cons x L ih =>
    intro i h
    simp only [normA, Bool.and_eq_true]
    refine ⟨by simpa using h 0 (by simp), ih (i + 1) fun j hj => ?_⟩
    have := h (j + 1) (by simpa using hj)
    rw [show i + (j + 1) = i + 1 + j by omega] at this
    simpa using this
theorem makeA_norm (s : SchemaL) (raws : List (List UInt8)) : ∀ i C, (makeA s i C raws).2 = 0 → i = C.length → normA s 0 C = true → normA s 0 (makeA s i C raws).1 = true := by
  induction raws with
  | nil => intro i C _ _ h; simpa [makeA] using h
  | cons x l ih =>
    intro i C h hi hC
    unfold makeA at h ⊢
    split at h
    · rename_i h0
      rw [if_pos h0]
      refine ih _ _ h (by simp; omega) ?_
      rw [normA_append, hC, Bool.true_and, Nat.zero_add]
      obtain ⟨⟨v, e⟩, hp⟩ : ∃ p, valueN s i x = p := ⟨_, rfl⟩
      rw [hp] at h0 ⊢
      dsimp only at h0
      subst h0
      simp only [normA, Bool.and_true]
      rw [← hi]
      exact (value_normal hp).1
    · rename_i h0
      exact absurd h h0
theorem makeN_ok {s : SchemaL} {id ver : Int} {raws : List (List UInt8)} {r : RecL} (h : makeN s id ver raws = (r, 0)) :
    checkS s = 0 ∧ r.id = id ∧ r.ver = ver ∧ numberedB id ver = true ∧ r.vals.length = s.fields.length ∧ raws.length = s.fields.length ∧ normA s 0 r.vals = true ∧ r.vals = (makeA s 0 [] raws).1 ∧ (makeA s 0 [] raws).2 = 0 := by
  unfold makeN at h
  split at h
  · rename_i h1
    split at h
    · rename_i h2
      split at h
      · rename_i h3
        split at h
        · rename_i h4
          obtain rfl : RecL.mk id ver (makeA s 0 [] raws).1 = r := congrArg Prod.fst h
          exact ⟨h1, rfl, rfl, h3, by simpa [h2] using makeA_len s raws 0 [] h4, h2, makeA_norm s raws 0 [] h4 rfl rfl, rfl, h4⟩
        · rename_i h4
          exact absurd (congrArg Prod.snd h) h4
      · exact absurd (congrArg Prod.snd h) (show (7 : Int) ≠ 0 by decide)
    · exact absurd (congrArg Prod.snd h) (show (8 : Int) ≠ 0 by decide)
  · rename_i h1
    exact absurd (congrArg Prod.snd h) h1
theorem checkN_of {s : SchemaL} {r : RecL} (h0 : checkS s = 0) (h1 : numberedB r.id r.ver = true) (h2 : r.vals.length = s.fields.length) (h3 : normA s 0 r.vals = true) : checkN s r = 0 := by
  unfold checkN checkI
  rw [if_pos h0, h1, h3, h2]; simp
theorem checkN_ok {s : SchemaL} {r : RecL} (h : checkN s r = 0) : checkS s = 0 ∧ numberedB r.id r.ver = true ∧ r.vals.length = s.fields.length ∧ normA s 0 r.vals = true := by
  unfold checkN at h
  split at h
  · rename_i h0
    unfold checkI at h
    split at h
    · rename_i h1
      simp only [Bool.and_eq_true, beq_iff_eq] at h1
      exact ⟨h0, h1.1.1, h1.1.2, h1.2⟩
    · exact absurd h (by decide)
  · rename_i h0; exact absurd h h0
theorem normalB_nil {s : SchemaL} {f : Int} (h : (findN s f).2 = 0) : normalB s f [] = true := by
  unfold normalB; rw [if_pos h, if_pos rfl]
/-- a record without values is normal -/
theorem none_norm {s : SchemaL} (h : checkS s = 0) : normA s 0 (List.replicate s.fields.length []) = true := by
  refine normA_of _ _ _ fun j hj => ?_
  rw [List.length_replicate] at hj
  have e : (List.replicate s.fields.length ([] : List UInt8)).getD j [] = [] := by simp [List.getD, List.getElem?_replicate]; split <;> rfl
  rw [e]
  refine normalB_nil ?_
  rw [findN_in h (by simpa using hj)]
end Go.Proofs.YthdolmofeeniaaaGreatDoor
end
section
/- Plain: arrays of bits, bloom filters, encoded records: what the functions of the layers 9, 14 and 16 return. -/
set_option linter.unusedSimpArgs false
set_option linter.unusedVariables false
namespace Go.Proofs.YthdolmofeeniaaaGreatDoor
open Go.RowKit
/-- an array of bits -/
structure BitsL where
  len : Int
  words : List Int
def noBits : BitsL := ⟨0, []⟩
/-- the parameters of a field -/
structure ParL where
  len : Int
  hashes : Int
  salt : Int
instance : Inhabited ParL := ⟨⟨0, 0, 0⟩⟩
structure EncL where
  id : Int
  ver : Int
  fields : List BitsL
/-- a length that an array may have -/
def rightB (n : Int) : Bool := decide (64 ≤ n) && decide (n ≤ 512) && (n % 64 == 0)
structure ParOk (p : ParL) : Prop where
  len1 : 64 ≤ p.len
  len2 : p.len ≤ 512
  len3 : p.len % 64 = 0
  h1 : 1 ≤ p.hashes
  h2 : p.hashes ≤ 16
  s1 : -1 ≤ p.salt
  s2 : p.salt < 5
theorem ParOk.right {p : ParL} (h : ParOk p) : rightB p.len = true := by
  have h1 := h.len1; have h2 := h.len2; have h3 := h.len3
  simp [rightB, h1, h2, h3]
end Go.Proofs.YthdolmofeeniaaaGreatDoor
end
section
/- bitset, the program's: lengths, valid arrays, new arrays. -/
set_option linter.unusedSimpArgs false
set_option linter.unusedVariables false
set_option maxRecDepth 100000
namespace Go.Proofs.YthdolmofeeniaaaGreatDoor
open Go.RowKit
/-- words of an array -/
abbrev encU (x : Int) : List Value := [.int .u64 x]
/-- an array of bits: its two cells -/
def BitsAt (w : World) (S : Nat → Prop) (v : Value) (b : BitsL) : Prop := ∃ s, v = .agg #[.int .i64 b.len, s] ∧ Vec w S 1 encU s b.words
end Go.Proofs.YthdolmofeeniaaaGreatDoor
end
section
/- bloom, the program's: the positions of a gram. -/
set_option linter.unusedSimpArgs false
set_option linter.unusedVariables false
set_option maxRecDepth 100000
namespace Go.Proofs.YthdolmofeeniaaaGreatDoor
open Go.RowKit
/-- w' is w, but for blocks that meet T, and for new blocks -/
structure KeptBut (T : Nat → Prop) (w w' : World) : Prop where
  os : w'.os = w.os
  tape : w'.tape = w.tape
  output : w'.output = w.output
  size : w.heap.size ≤ w'.heap.size
  block : ∀ k, k < w.heap.size → ¬ T k → w'.heap[k]? = w.heap[k]?
theorem KeptBut.refl (T : Nat → Prop) (w : World) : KeptBut T w w := ⟨rfl, rfl, rfl, Nat.le_refl _, fun _ _ _ => rfl⟩
theorem KeptBut.trans {T : Nat → Prop} {a b c : World} (h : KeptBut T a b) (k : KeptBut T b c) : KeptBut T a c :=
  ⟨k.os.trans h.os, k.tape.trans h.tape, k.output.trans h.output, Nat.le_trans h.size k.size, fun i hi ht => (k.block i (Nat.lt_of_lt_of_le hi h.size) ht).trans (h.block i hi ht)⟩
theorem KeptBut.below {T : Nat → Prop} {a b : World} {B : Nat} (h : KeptBut T a b) (hB : ∀ k, k < B → ¬ T k) (hs : B ≤ a.heap.size) : Below B a b := ⟨h.os, h.tape, h.output, h.size, fun k hk => h.block k (by omega) (hB k hk)⟩
theorem KeptBut.set {T : Nat → Prop} {a b : World} (h : KeptBut T a b) {p : Addr} (hp : T p.block) (v : Value) : KeptBut T a (b.setCell p v) :=
  ⟨h.os, h.tape, h.output, by simpa [World.setCell] using h.size, fun k hk hn => (heap_setCell_other _ _ _ _ (fun e => hn (by rw [e]; exact hp))).trans (h.block k hk hn)⟩
theorem KeptBut.drew {T : Nat → Prop} {a b : World} (h : KeptBut T a b) : KeptBut T a b.drew := ⟨h.os, h.tape, h.output, h.size, h.block⟩
theorem KeptBut.blk {T : Nat → Prop} {a b : World} (h : KeptBut T a b) {k : Nat} {o : Obj} (hk : ¬ T k) (ho : a.heap[k]? = some o) : b.heap[k]? = some o := (h.block k (lt_of_blk ho) hk).trans ho
abbrev oneI (x : Int) : Obj := .cells #[.int .i64 x] 3 (0, 0)
abbrev parC (p : ParL) : Array Value := #[.int .i64 p.len, .int .i64 p.hashes, .int .i64 p.salt]
/-- a function that deals positions: its four variables -/
structure ClosAt (w : World) (nb yb pb xb : Nat) (p : ParL) (x y : Int) : Prop where
  n : w.heap[nb]? = some (oneI x)
  y : w.heap[yb]? = some (oneI y)
  p : w.heap[pb]? = some (.cells (parC p) 124 (0, 0))
  x : ∃ z, w.heap[xb]? = some (oneI z)
  ne1 : nb ≠ yb
  ne2 : nb ≠ pb
  ne3 : nb ≠ xb
  ne4 : xb ≠ yb
  ne5 : xb ≠ pb
end Go.Proofs.YthdolmofeeniaaaGreatDoor
end
section
/- The sanity check of the laws of schemas. -/
set_option linter.unusedSimpArgs false
set_option linter.unusedVariables false
set_option maxRecDepth 100000
namespace Go.Proofs.YthdolmofeeniaaaGreatDoor
open Go.RowKit Cal
attribute [local go_sem] toList_mk mk_size
theorem vecF_one {w : World} {A : Nat} {x : F2} (h : w.heap[A]? = some (.cells #[strV x.1, .int .i64 x.2] 92 (0, 0))) : Vec w Any1 2 encF (.slice (some ⟨A, 0, none⟩) 1 1) [x] :=
  ⟨_, 1, rfl, by simp, fun _ => ⟨A, 0, rfl, trivial, lt_of_blk h, fun j y hj i u hu => by
    have hj0 : j = 0 := by
      have := (List.getElem?_eq_some_iff.1 hj).1
      simp at this; exact this
    subst hj0
    simp at hj; subst hj
    rw [cell_of_row _ _ _ _ _ _ h]
    match i, hu with
    | 0, hu => simpa [encF] using hu
    | 1, hu => simpa [encF] using hu
    | i + 2, hu => simp [encF] at hu⟩⟩
/-- a call's world under a name of its own -/
theorem wp_calls_world {P : Program} {f : FuncId} {args : Array Value} {W : World} {K : Ending → World → Prop} (h : ∀ w', w' = W → Calls P f args w' K) : Calls P f args W K := h W rfl
end Go.Proofs.YthdolmofeeniaaaGreatDoor
end
section
/- bloom, the program's: Positions. -/
set_option linter.unusedSimpArgs false
set_option linter.unusedVariables false
set_option maxRecDepth 100000
namespace Go.Proofs.YthdolmofeeniaaaGreatDoor
open Go.RowKit
theorem wph_name {P : Program} {md : Region.Mode} {ops : Array Oper} {Q : Exit → Act → World → Prop} {S : World → Prop} {fuel : Nat} {listed : Array Bool} {a : Act} {W : World} (h : ∀ w', w' = W → wpAnyH P md ops Q S fuel listed a w') : wpAnyH P md ops Q S fuel listed a W := h W rfl
theorem ClosAt.later {w : World} {nb yb pb xb : Nat} {p : ParL} {x y : Int} (h : ClosAt w nb yb pb xb p x y) {o : Obj} : ClosAt (w.alloc o) nb yb pb xb p x y :=
  ⟨blk_old h.n, blk_old h.y, blk_old h.p, h.x.imp fun _ hz => blk_old hz, h.ne1, h.ne2, h.ne3, h.ne4, h.ne5⟩
theorem ClosAt.set {w : World} {nb yb pb xb gb i : Nat} {p : ParL} {x y : Int} {v : Value} (h : ClosAt w nb yb pb xb p x y) (h1 : gb ≠ nb) (h2 : gb ≠ yb) (h3 : gb ≠ pb) (h4 : gb ≠ xb) : ClosAt (w.setCell ⟨gb, i, none⟩ v) nb yb pb xb p x y :=
  ⟨blk_far h.n (Ne.symm h1), blk_far h.y (Ne.symm h2), blk_far h.p (Ne.symm h3), h.x.imp fun _ hz => blk_far hz (Ne.symm h4), h.ne1, h.ne2, h.ne3, h.ne4, h.ne5⟩
end Go.Proofs.YthdolmofeeniaaaGreatDoor
end
section
/- phonetic, the program's: Soundex, Key. -/
set_option linter.unusedSimpArgs false
set_option linter.unusedVariables false
set_option maxRecDepth 100000
namespace Go.Proofs.YthdolmofeeniaaaGreatDoor
open Go.RowKit
attribute [local go_sem] toList_mk mk_size
def sndStep (last : UInt8) (out : List UInt8) (c : UInt8) : List UInt8 × UInt8 :=
  if codeB c = 45 then (out, last) else if codeB c ≠ 32 ∧ codeB c ≠ last then (out ++ [codeB c], codeB c) else (out, codeB c)
def sndGo : UInt8 → List UInt8 → List UInt8 → List UInt8
  | _, out, [] => out
  | last, out, c :: l => if out.length < 4 then sndGo (sndStep last out c).2 (sndStep last out c).1 l else out
def padL (out : List UInt8) : List UInt8 := out ++ List.replicate (4 - out.length) 48
def soundT (t : List UInt8) : List UInt8 := if rightT t = true then (match t with
  | [] => []
  | c :: l => padL (sndGo (codeB c) [c] l)) else []
theorem sndGo_end (la : UInt8) (out l : List UInt8) (h : ¬ out.length < 4) : sndGo la out l = out := by
  cases l with
  | nil => rfl
  | cons c l => unfold sndGo; rw [if_neg h]
theorem padL_end (out : List UInt8) (h : ¬ out.length < 4) : padL out = out := by unfold padL; rw [show 4 - out.length = 0 by omega]; simp
theorem padL_more (out : List UInt8) (h : out.length < 4) : padL (out ++ [48]) = padL out := by
  unfold padL
  rw [List.length_append, show 4 - out.length = (4 - (out.length + [(48 : UInt8)].length)) + 1 by simp; omega, List.replicate_succ, List.append_assoc]; rfl
/-- a row that lies in a block of its own -/
theorem own_fresh {α : Type} {w0 w : World} {e : TypeId} {enc : α → List Value} {L : List α} {g size n : Nat} (hb : Below w0.heap.size w0 w) (hg : w0.heap.size ≤ g) (h : w.heap[g]? = some (.cells (L.flatMap enc).toArray e (0, 0))) (hl : (L.flatMap enc).length = L.length * size) (hm : L.length ≤ 1000000) (hn : n = L.length) :
    OwnV e size enc w0 (.slice (some ⟨g, 0, none⟩) n n) L w := by
  subst hn
  exact ⟨⟨hl, .inr ⟨g, L.length, _, rfl, hg, h, Nat.le_refl _, by unfold maxLen; omega, by simpa using hl, by rw [← hl]; show List.take _ (L.flatMap enc) = _; exact List.take_length⟩⟩, hb⟩
@[local go_sem] theorem get_zeroP (c : UInt8) (l : List UInt8) (h : 0 < (⟨(c :: l).toArray⟩ : ByteArray).size) : (⟨(c :: l).toArray⟩ : ByteArray)[0]'h = c := rfl
set_option maxHeartbeats 4000000 in
theorem sound_any (t : List UInt8) (w : World) (hl : t.length ≤ 1000000) : Calls Tryz.prog 224 #[strV t] w fun e w' => e = .returned (strV (soundT t)) ∧ Below w.heap.size w w' := by
  cases hr : rightT t
  · have hs : soundT t = [] := by unfold soundT; rw [hr]; rfl
    rw [hs]
    have HR := Lib.hid hr; clear hr hs
    go_enter Tryz.func224, Tryz.ntmps224
    go_wp2_with fail
    refine (rightT_any t _ hl).mono ?_
    rw [HR.out]
    rintro e w1 ⟨rfl, hb⟩
    go_wp2_with fail
    go_ret
    exact ⟨rfl, hb⟩
  · have h0 := hr
    unfold rightT at h0
    simp only [Bool.and_eq_true, Bool.not_eq_true', decide_eq_true_iff] at h0
    obtain ⟨⟨hne, h64⟩, hlo⟩ := h0
    cases t with
    | nil => simp at hne
    | cons c t =>
      have hall : ∀ x ∈ c :: t, isLow x = true := by unfold lettersL at hlo; exact List.filter_eq_self.1 hlo
      obtain ⟨R, hR⟩ : ∃ R, sndGo (codeB c) [c] t = R := ⟨_, rfl⟩
      have hs : soundT (c :: t) = padL R := by unfold soundT; rw [hr, ← hR]; rfl
      rw [hs]
      have HR := Lib.hid hr; have HAll := Lib.hid hall; have HGo := Lib.hid hR
      clear hr hs hne hlo hall hR
      go_enter Tryz.func224, Tryz.ntmps224
      go_wp2_with fail
      refine (rightT_any (c :: t) _ hl).mono ?_
      rw [HR.out]
      rintro e w1 ⟨rfl, hb⟩
      have HB := Lib.hid hb
      clear hb
      go_wp2_with fail
      have hlen0 : (0 : Int) < ((c :: t).length : Int) := by simp
      have hcl := HAll.out c (by simp)
      go_cut [3, 4] (fun s3 s4 wx => ∃ g : Nat, s3 = .slice (some ⟨g, 0, none⟩) 1 1 ∧ s4 = byteV (codeB c) ∧ wx.heap[g]? = some (.cells ([c].flatMap encB).toArray 5 (0, 0)) ∧ w1.heap.size ≤ g ∧ Below w1.heap.size w1 wx)
      case first =>
        refine wp_region_noPanic ?_
        refine wp_region_held_drew (S := (fun _ => True)) (by kernel_rfl) (trivial) (fun hHeld => ?_)
        refine wpAnyH_take (i := 0) (v := ?_) rfl (by kernel_rfl) (by kernel_rfl) (by kernel_rfl) (fun _ _ _ h => h) (Or.inl ⟨by rfl, ?_⟩) (by assumption) ?_
        rotate_left 1
        · (intro wS hSw; (try dsimp only at hSw); go_simp; try with_reducible rfl)
        try simp only [List.getElem_toArray, List.getElem_cons_zero, List.getElem_cons_succ, Act.put, List.setIfInBounds_toArray, List.set_cons_zero, List.set_cons_succ]
        refine wpAnyH_take (i := 1) (v := ?_) rfl (by kernel_rfl) (by kernel_rfl) (by kernel_rfl) (fun _ _ _ h => h) (Or.inl ⟨by rfl, ?_⟩) (by assumption) ?_
        rotate_left 1
        · (intro wS hSw; (try dsimp only at hSw); go_simp; try with_reducible rfl)
        try simp only [List.getElem_toArray, List.getElem_cons_zero, List.getElem_cons_succ, Act.put, List.setIfInBounds_toArray, List.set_cons_zero, List.set_cons_succ]
        refine wpAnyH_take (i := 3) (v := ?_) rfl (by kernel_rfl) (by kernel_rfl) (by kernel_rfl) (fun _ _ _ h => h) (Or.inl ⟨by rfl, ?_⟩) (by assumption) ?_
        rotate_left 1
        · (intro wS hSw; (try dsimp only at hSw); go_simp; try with_reducible rfl)
        try simp only [List.getElem_toArray, List.getElem_cons_zero, List.getElem_cons_succ, Act.put, List.setIfInBounds_toArray, List.set_cons_zero, List.set_cons_succ]
        refine wpAnyH_take (i := 4) (v := ?_) rfl (by kernel_rfl) (by kernel_rfl) (by kernel_rfl) (fun _ _ _ h => h) (Or.inl ⟨by rfl, ?_⟩) (by assumption) ?_
        rotate_left 1
        · (intro wS hSw; (try dsimp only at hSw); go_simp; try with_reducible rfl)
        try simp only [List.getElem_toArray, List.getElem_cons_zero, List.getElem_cons_succ, Act.put, List.setIfInBounds_toArray, List.set_cons_zero, List.set_cons_succ]
        refine wpAnyH_ready (rs := [2, 5]) (by kernel_rfl) (by simp) ?_
        refine AllReadyH.cons rfl (fun K hK => ?_) (AllReadyH.cons rfl (fun K hK => ?_) AllReadyH.nil)
        focus
          go_simp
          refine hK.out _ _ trivial (fun hHeld => ?_)
          clear hK K
          try simp only [List.getElem_toArray, List.getElem_cons_zero, List.getElem_cons_succ, Act.put, List.setIfInBounds_toArray, List.set_cons_zero, List.set_cons_succ]
          refine wpAnyH_ready (rs := [5]) (by kernel_rfl) (by simp) ?_
          refine AllReadyH.cons rfl (fun K hK => ?_) AllReadyH.nil
          go_simp
          refine (pcode_any c _ hcl).mono ?_; rintro e wq ⟨rfl, rfl⟩
          refine hK.out _ _ (trivial) (fun hHeld => ?_)
          clear hK K
          try simp only [List.getElem_toArray, List.getElem_cons_zero, List.getElem_cons_succ, Act.put, List.setIfInBounds_toArray, List.set_cons_zero, List.set_cons_succ]
        rotate_left 1
        focus
          go_simp
          refine (pcode_any c _ hcl).mono ?_
          rintro e wq ⟨rfl, rfl⟩
          refine hK.out _ _ trivial (fun hHeld => ?_)
          clear hK K
          try simp only [List.getElem_toArray, List.getElem_cons_zero, List.getElem_cons_succ, Act.put, List.setIfInBounds_toArray, List.set_cons_zero, List.set_cons_succ]
          refine wpAnyH_ready (rs := [2]) (by kernel_rfl) (by simp) ?_
          refine AllReadyH.cons rfl (fun K hK => ?_) AllReadyH.nil
          go_simp
          refine hK.out _ _ (trivial) (fun hHeld => ?_)
          clear hK K
          try simp only [List.getElem_toArray, List.getElem_cons_zero, List.getElem_cons_succ, Act.put, List.setIfInBounds_toArray, List.set_cons_zero, List.set_cons_succ]
        all_goals
          refine wpAnyH_take (i := 6) (v := ?_) rfl (by kernel_rfl) (by kernel_rfl) (by kernel_rfl) (fun _ _ _ h => h) (Or.inl ⟨by rfl, ?_⟩) (by assumption) ?_
          rotate_left 1
          · (intro wS hSw; (try dsimp only at hSw); go_simp; try with_reducible rfl)
          try simp only [List.getElem_toArray, List.getElem_cons_zero, List.getElem_cons_succ, Act.put, List.setIfInBounds_toArray, List.set_cons_zero, List.set_cons_succ]
          refine wpAnyH_take (i := 7) (v := ?_) rfl (by kernel_rfl) (by kernel_rfl) (by kernel_rfl) (fun _ _ _ h => h) (Or.inl ⟨by rfl, ?_⟩) (by assumption) ?_
          rotate_left 1
          · (intro wS hSw; (try dsimp only at hSw); go_simp; try with_reducible rfl)
          try simp only [List.getElem_toArray, List.getElem_cons_zero, List.getElem_cons_succ, Act.put, List.setIfInBounds_toArray, List.set_cons_zero, List.set_cons_succ]
          refine wpAnyH_done (by kernel_rfl) ?_ _
          refine NoPanic.normal ?_
          go_wp2_with fail
          go_meet
          exact ⟨_, rfl, rfl, blk_new rfl, Nat.le_refl _, ((Below.refl _ _).drew).alloc (Nat.le_refl _) _⟩
      case rest =>
        obtain ⟨g, rfl, rfl, hg, hgz, hb2⟩ := hcut
        have HO := Lib.hid (own_fresh (enc := encB) (L := [c]) (size := 1) (n := 1) (w0 := w) (HB.out.trans (hb2.mono HB.out.size)) (Nat.le_trans HB.out.size hgz) hg rfl (by simp) rfl)
        clear hg hb2 hgz
        go_upto_block 0 with (fail)
        have hT : (c :: t).length ≤ 64 := h64
        go_cut [3] (fun s3 wx => OwnV 5 1 encB w s3 R wx ∧ R.length ≤ 4)
        case first =>
          go_wp2_with fail
          go_loopw [3, 4, 5] (fun v la i wr => ∃ (k : Nat) (l : UInt8) (out : List UInt8), i = .int .i64 k ∧ 1 ≤ k ∧ k ≤ t.length + 1 ∧ la = byteV l ∧ OwnV 5 1 encB w v out wr ∧ out.length ≤ 4 ∧ Hid (sndGo l out ((c :: t).drop k) = R)) (fun _ _ i _ => t.length + 1 - (intOf i).toNat)
          case atStart => exact ⟨1, codeB c, [c], rfl, Nat.le_refl _, by simp, rfl, HO.out, by simp, HGo⟩
          case round =>
            obtain ⟨k, l, out, rfl, hk1, hk, rfl, ho, hol, HT⟩ := hrel
            obtain ⟨av, cv, rfl⟩ := own_slice ho.1
            have HOw := Lib.hid ho
            clear ho
            by_cases h1 : k < t.length + 1
            · have hq1 : decide ((k : Int) < (t.length : Int) + 1) = true := by simp only [decide_eq_true_eq]; omega
              have h1c : k < (c :: t).length := h1
              have h64' : t.length + 1 ≤ 64 := h64
              by_cases h2 : out.length < 4
              · have hq2 : decide ((out.length : Int) < 4) = true := by simp only [decide_eq_true_eq]; omega
                have ht := HT.out
                rw [List.drop_eq_getElem_cons h1c] at ht
                obtain ⟨x, hx⟩ : ∃ x, (c :: t)[k]'h1c = x := ⟨_, rfl⟩
                have hxl : isLow x = true := by rw [← hx]; exact HAll.out _ (List.getElem_mem h1c)
                have hgx : ∀ h : k < (⟨(c :: t).toArray⟩ : ByteArray).size, (⟨(c :: t).toArray⟩ : ByteArray)[k]'h = x := fun h => hx
                rw [hx] at ht
                unfold sndGo at ht
                rw [if_pos h2] at ht
                have HT2 := Lib.hid ht
                clear ht HT hx
                obtain ⟨d, hd⟩ : ∃ d, codeB x = d := ⟨_, rfl⟩
                have HD := Lib.hid hd
                clear hd
                go_wp2_with fail
                refine (pcode_any x _ hxl).mono ?_
                rw [HD.out]
                rintro e wq ⟨rfl, rfl⟩
                unfold byteV
                by_cases e1 : d = 45
                · have d1 : ((d.toNat : Int) == 45) = true := by rw [e1]; rfl
                  have hst : sndStep l out x = (out, l) := by unfold sndStep; rw [HD.out, if_pos e1]
                  have HT3 := Lib.hid (show sndGo l out ((c :: t).drop (k + 1)) = R by have h3 := HT2.out; rw [hst] at h3; exact h3)
                  clear e1 hst HT2
                  go_wp2_with fail
                  go_roundw
                  case rel => exact ⟨k + 1, l, out, by go_num, by omega, by omega, rfl, HOw.out, hol, HT3⟩
                  case measure => simp [intOf]; omega
                · have d1 : ((d.toNat : Int) == 45) = false := by
                    simp only [beq_eq_false_iff_ne, ne_eq]; intro h; exact e1 (UInt8.toNat_inj.1 (by show d.toNat = 45; omega))
                  by_cases e2 : d ≠ 32 ∧ d ≠ l
                  · have d2 : ((d.toNat : Int) != 32) = true := by
                      simp only [bne_iff_ne, ne_eq]; intro h; exact e2.1 (UInt8.toNat_inj.1 (by show d.toNat = 32; omega))
                    have d3 : ((d.toNat : Int) != (l.toNat : Int)) = true := by
                      simp only [bne_iff_ne, ne_eq]; intro h; exact e2.2 (UInt8.toNat_inj.1 (by omega))
                    have hst : sndStep l out x = (out ++ [d], d) := by unfold sndStep; rw [HD.out, if_neg e1, if_pos e2]
                    have HT3 := Lib.hid (show sndGo d (out ++ [d]) ((c :: t).drop (k + 1)) = R by have h3 := HT2.out; rw [hst] at h3; exact h3)
                    have hcn : out.length + ([d] : List UInt8).length ≤ 1000000000 := by simp; omega
                    have HO1 := Lib.hid (HOw.out.below ((Below.refl wr.heap.size wr).alloc (Nat.le_refl _) (.cells #[.int .u8 (d.toNat : Int)] 5)))
                    have HR1 := Lib.hid (show Reads (wr.alloc (.cells #[.int .u8 (d.toNat : Int)] 5)) 1 (.slice (some ⟨wr.heap.size, 0, none⟩) 1 1) ([d] : List UInt8).length (([d] : List UInt8).flatMap encB) from reads_block (t := 5) (fr := (0, 0)) (blk_new rfl) rfl)
                    clear e1 e2 hst HT2
                    go_wp2_with (at_builtin; refine wpList_append_v rfl (.tmp 42) (.tmp 44) 85 rfl 5 (.int .u8 0) 1 1 encB (fun _ => rfl) one_encB Tryz.underlying85 infoBy rfl (by decide) (by decide) (w0 := w) (v := .slice av out.length cv) (A := out) (B := [d]) rfl HO1.out rfl HR1.out hcn ?_; intro v2 w2 ho2 hk2 hz2)
                    go_roundw
                    case rel => exact ⟨k + 1, d, out ++ [d], by go_num, by omega, by omega, rfl, ho2, by simp; omega, HT3⟩
                    case measure => simp [intOf]; omega
                  · have hst : sndStep l out x = (out, d) := by unfold sndStep; rw [HD.out, if_neg e1, if_neg e2]
                    have HT3 := Lib.hid (show sndGo d out ((c :: t).drop (k + 1)) = R by have h3 := HT2.out; rw [hst] at h3; exact h3)
                    by_cases e3 : d = 32
                    · have d2 : ((d.toNat : Int) != 32) = false := by rw [e3]; rfl
                      clear e1 e2 e3 hst HT2
                      go_wp2_with fail
                      go_roundw
                      case rel => exact ⟨k + 1, d, out, by go_num, by omega, by omega, rfl, HOw.out, hol, HT3⟩
                      case measure => simp [intOf]; omega
                    · have d2 : ((d.toNat : Int) != 32) = true := by
                        simp only [bne_iff_ne, ne_eq]; intro h; exact e3 (UInt8.toNat_inj.1 (by show d.toNat = 32; omega))
                      have e4 : d = l := by
                        rcases Decidable.em (d = l) with h | h
                        · exact h
                        · exact absurd ⟨e3, h⟩ e2
                      have d3 : ((d.toNat : Int) != (l.toNat : Int)) = false := by rw [e4]; simp
                      clear e1 e2 e3 e4 hst HT2
                      go_wp2_with fail
                      go_roundw
                      case rel => exact ⟨k + 1, d, out, by go_num, by omega, by omega, rfl, HOw.out, hol, HT3⟩
                      case measure => simp [intOf]; omega
              · have hq2 : decide ((out.length : Int) < 4) = false := by simp only [decide_eq_false_iff_not]; omega
                have ht := HT.out
                rw [sndGo_end _ _ _ h2] at ht
                subst ht
                go_wp2_with fail
                go_meet
                exact ⟨HOw.out, hol⟩
            · have hq1 : decide ((k : Int) < (t.length : Int) + 1) = false := by simp only [decide_eq_false_iff_not]; omega
              have ht := HT.out
              rw [List.drop_eq_nil_of_le (by simp; omega)] at ht
              have ht2 : out = R := by unfold sndGo at ht; exact ht
              subst ht2
              clear ht HT
              go_wp2_with fail
              go_meet
              exact ⟨HOw.out, hol⟩
        case rest =>
          obtain ⟨ho, hR4⟩ := hcut
          obtain ⟨av, cv, rfl⟩ := own_slice ho.1
          have HO2 := Lib.hid ho
          clear ho HO
          go_wp2_with fail
          go_loopw [3] (fun v wr => ∃ out : List UInt8, OwnV 5 1 encB w v out wr ∧ out.length ≤ 4 ∧ Hid (padL out = padL R)) (fun v _ => 4 - lenOfV v)
          case atStart => exact ⟨R, HO2.out, hR4, Lib.hid rfl⟩
          case round =>
            obtain ⟨out, ho, hol, HT⟩ := hrel
            obtain ⟨ax, cx, rfl⟩ := own_slice ho.1
            have HOw := Lib.hid ho
            clear ho
            by_cases h2 : out.length < 4
            · have hq2 : decide ((out.length : Int) < 4) = true := by simp only [decide_eq_true_eq]; omega
              have HT3 := Lib.hid (show padL (out ++ [48]) = padL R by rw [padL_more out h2]; exact HT.out)
              have hcn : out.length + ([48] : List UInt8).length ≤ 1000000000 := by simp; omega
              have HO1 := Lib.hid (HOw.out.below ((Below.refl wr.heap.size wr).alloc (Nat.le_refl _) (.cells #[.int .u8 48] 5)))
              have HR1 := Lib.hid (show Reads (wr.alloc (.cells #[.int .u8 48] 5)) 1 (.slice (some ⟨wr.heap.size, 0, none⟩) 1 1) ([48] : List UInt8).length (([48] : List UInt8).flatMap encB) from reads_block (t := 5) (fr := (0, 0)) (blk_new rfl) rfl)
              clear HT
              go_wp2_with (at_builtin; refine wpList_append_v rfl (.tmp 50) (.tmp 51) 85 rfl 5 (.int .u8 0) 1 1 encB (fun _ => rfl) one_encB Tryz.underlying85 infoBy rfl (by decide) (by decide) (w0 := w) (v := .slice ax out.length cx) (A := out) (B := [48]) rfl HO1.out rfl HR1.out hcn ?_; intro v2 w2 ho2 hk2 hz2; obtain ⟨a2, c2, ev2⟩ := own_slice ho2.1; subst ev2)
              go_roundw
              case rel => exact ⟨out ++ [48], by rw [List.length_append] at ho2; exact ho2, by simp; omega, HT3⟩
              case measure => simp [lenOfV]; omega
            · have hq2 : decide ((out.length : Int) < 4) = false := by simp only [decide_eq_false_iff_not]; omega
              have hp := HT.out
              rw [padL_end out h2] at hp
              have HP := Lib.hid (show Ending.returned (strV out) = .returned (strV (padL R)) by rw [hp])
              have hown := HOw.out.1
              rw [flatB] at hown
              have hconv := run_convert_owned (P := Tryz.prog) out hown Tryz.underlying85 Tryz.underlying5 Tryz.underlying9
              clear hp hown HT
              go_wp2_with fail
              go_ret
              exact ⟨HP.out, HOw.out.2⟩
/-- the sound of a text -/
def sndFirst : List (List UInt8) → List UInt8
  | [] => []
  | t :: _ => soundT t
def soundL (l : List UInt8) : List UInt8 := sndFirst (toks l)
set_option maxHeartbeats 1000000 in
theorem sndkey_any (l : List UInt8) (w : World) (h : ascii l) (hl : l.length ≤ 1000) : Calls Tryz.prog 159 #[strV l] w fun e w' => e = .returned (strV (soundL l)) ∧ Below w.heap.size w w' := by
  have hc : (toks l).length ≤ 1000000 := by have := (toksA_len l []).2.1; unfold toks; omega
  have hts : ∀ t ∈ toks l, t.length ≤ 1000000 := fun t ht => by have := toks_le l [] t ht; simp at this; omega
  obtain ⟨T, hT⟩ : ∃ T, toks l = T := ⟨_, rfl⟩
  have htk := tokens_any l
  obtain ⟨res, hres⟩ : ∃ res, soundL l = res := ⟨_, rfl⟩
  have hr2 : sndFirst T = res := by rw [← hT]; exact hres
  rw [hT] at hc htk hts
  rw [hres]
  have HTk := Lib.hid htk
  clear hT htk hres
  go_enter Tryz.func159, Tryz.ntmps159
  go_wp2_with fail
  refine (HTk.out _ h (by omega)).mono ?_
  rintro e w1 ⟨A, rfl, hA, ho, hb⟩
  have HV := Lib.hid (Vec.owns (k := 1) (enc := encS) (S := Any1) (fun _ => rfl) ho (fun _ _ _ => trivial))
  have HB := Lib.hid hb
  clear ho hb
  cases T with
  | nil =>
    have hr3 : [] = res := hr2
    subst hr3
    clear hr2
    go_wp2_with fail
    go_ret
    exact ⟨rfl, HB.out⟩
  | cons t T =>
    have HR := Lib.hid (show soundT t = res from hr2)
    have htl := hts t (by simp)
    have d0 : (((t :: T).length : Int) == 0) = false := by simp; omega
    obtain ⟨b, off, e0, lb, hc0⟩ := HV.out.get 0 (by simp)
    cases e0
    have c0 := hc0 0 _ rfl
    rw [Nat.zero_mul, Nat.add_zero] at c0
    have c0 : w1.cell? ⟨A, 0, none⟩ = some (strV t) := c0
    have hl0 : (0 : Int) < ((t :: T).length : Int) := by simp
    clear hr2 hts hc0
    go_wp2_with fail
    refine (sound_any t _ htl).mono ?_
    rw [HR.out]
    rintro e w2 ⟨rfl, hb⟩
    go_wp2_with fail
    go_ret
    exact ⟨rfl, HB.out.trans (hb.mono HB.out.size)⟩
end Go.Proofs.YthdolmofeeniaaaGreatDoor
end
