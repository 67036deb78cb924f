/- The law DateForms, walked: for every list of numbers it returns true and leaves what was there. -/
import Derived.Test.YtbibdpoempjcnaaMakeW
import Derived.Test.YtbibdpoempjcnaaMakeB
import Derived.Test.YtbibdpoempjcnaaDateAwake
set_option linter.unusedSimpArgs false
set_option linter.unusedVariables false
namespace Go.Proofs.Ytbibdpoempjcnaa
open Go.RowKit Cal
def D1 (n : Int) : UInt8 := UInt8.ofNat (48 + (n % 10).toNat)
theorem D1_nat (n : Int) : 48 ≤ (D1 n).toNat ∧ (D1 n).toNat ≤ 57 := by
  have : (D1 n).toNat = 48 + (n % 10).toNat := by unfold D1; rw [UInt8.toNat_ofNat']; omega
  omega
theorem dg4 (n : Int) : dg n 4 = [D1 (n / 10 / 10 / 10), D1 (n / 10 / 10), D1 (n / 10), D1 n] := rfl
theorem dg2 (n : Int) : dg n 2 = [D1 (n / 10), D1 n] := rfl
theorem numI_dg (n : Int) (k : Nat) (h0 : 0 ≤ n) (h1 : n < 10 ^ k) : numI (dg n k) = n := by
  rw [numI_dig _ (dg_dig k n h0)]; exact dg_val k n h0 h1
theorem parse_written (y m d f : Int) (hb : 1800 ≤ y ∧ y ≤ 2199 ∧ 0 ≤ m ∧ m ≤ 13 ∧ 1 ≤ d ∧ d ≤ 32) (hf : 0 ≤ f ∧ f ≤ 2) :
    parseV ⟨(writtenL y m d f).toArray⟩ = dateR y m d 4 := by
  have e1 := numI_dg y 4 (by omega) (by omega)
  have e2 := numI_dg m 2 (by omega) (by omega)
  have e3 := numI_dg d 2 (by omega) (by omega)
  have hl : dateL (dg y 4) (dg m 2) (dg d 2) = dateR y m d 4 := by unfold dateL; rw [e1, e2, e3]
  have a1 := D1_nat (y / 10 / 10 / 10); have a2 := D1_nat (y / 10 / 10); have a3 := D1_nat (y / 10); have a4 := D1_nat y
  have b1 := D1_nat (m / 10); have b2 := D1_nat m
  have c1 := D1_nat (d / 10); have c2 := D1_nat d
  rw [dg4, dg2, dg2] at hl
  rw [← hl]
  have : f = 0 ∨ f = 1 ∨ f = 2 := by omega
  rcases this with rfl | rfl | rfl
  · have hw : writtenL y m d 0 = [D1 (y / 10 / 10 / 10), D1 (y / 10 / 10), D1 (y / 10), D1 y, 45, D1 (m / 10), D1 m, 45, D1 (d / 10), D1 d] := rfl
    rw [hw, parseV, if_pos (by rfl), if_pos (by exact ⟨rfl, rfl⟩)]; rfl
  · have hw : writtenL y m d 1 = [D1 (d / 10), D1 d, 46, D1 (m / 10), D1 m, 46, D1 (y / 10 / 10 / 10), D1 (y / 10 / 10), D1 (y / 10), D1 y] := rfl
    rw [hw, parseV, if_pos (by rfl), if_neg (by rintro ⟨h, _⟩; change ((D1 m).toNat : Int) = 45 at h; omega), if_pos (by exact ⟨rfl, rfl⟩)]; rfl
  · have hw : writtenL y m d 2 = [D1 (m / 10), D1 m, 47, D1 (d / 10), D1 d, 47, D1 (y / 10 / 10 / 10), D1 (y / 10 / 10), D1 (y / 10), D1 y] := rfl
    rw [hw, parseV, if_pos (by rfl), if_neg (by rintro ⟨h, _⟩; change ((D1 d).toNat : Int) = 45 at h; omega), if_neg (by rintro ⟨h, _⟩; change ((47 : Nat) : Int) = 46 at h; omega), if_pos (by exact ⟨rfl, rfl⟩)]; rfl
/-- a date comes back from its eight digits -/
theorem read_digits (y m d : Int) (hv : vldB y m d = true) :
    (bif decide ((⟨(digits8 y m d).toArray⟩ : ByteArray).size = 8) then dateL ((digits8 y m d).take 4) (((digits8 y m d).drop 4).take 2) (((digits8 y m d).drop 6).take 2) else dateV false 0 0 0 4) = .tuple #[.agg #[.int .i64 y, .int .i64 m, .int .i64 d], .int .i64 0] := by
  have b := vld_bd hv
  have e1 := numI_dg y 4 (by omega) (by omega)
  have e2 := numI_dg m 2 (by omega) (by omega)
  have e3 := numI_dg d 2 (by omega) (by omega)
  have hl : dateL (dg y 4) (dg m 2) (dg d 2) = dateR y m d 4 := by unfold dateL; rw [e1, e2, e3]
  have : dateR y m d 4 = .tuple #[.agg #[.int .i64 y, .int .i64 m, .int .i64 d], .int .i64 0] := by simp [dateR, dateV, hv, pk, cd]
  rw [← this, ← hl]
  rfl
theorem read_empty : (bif decide ((⟨#[]⟩ : ByteArray).size = 8) then dateL ((⟨#[]⟩ : ByteArray).data.toList.take 4) (((⟨#[]⟩ : ByteArray).data.toList.drop 4).take 2) (((⟨#[]⟩ : ByteArray).data.toList.drop 6).take 2) else dateV false 0 0 0 4) = .tuple #[.agg #[.int .i64 0, .int .i64 0, .int .i64 0], .int .i64 4] := rfl
set_option maxHeartbeats 4000000 in
theorem forms_walk (a : Option Addr) (n cap : Nat) (zs : List Int) (w : World) (hr : IsRow .i64 w a n cap zs) :
    Calls Try.prog 4 #[.slice a n cap] w fun e w' => e = .returned (.bool true) ∧ Below w.heap.size w w' := by
  by_cases hn : n ≤ 400
  · have hd : decide (n ≤ 400) = true := by simpa using hn
    have HR := Lib.hid hr; clear hr
    go_enter Try.func4, Try.ntmps4
    go_wp2_with fail
    refine (awake_any _).mono ?_; rintro e w1 ⟨rfl, hb1⟩
    go_wp2_with fail
    refine (few_any a n cap _).mono ?_; rintro e w' ⟨rfl, rfl⟩
    go_wp2_with fail
    refine (new_any a n cap _).mono ?_; rintro e w' ⟨rfl, rfl⟩
    have Hdk := Lib.hid (deck_law (cap := cap) hn HR.out hb1)
    have HB1 := Lib.hid (hb1.alloc hb1.size (.cells #[.slice a n cap, .int .i64 0, .int .u64 11400714819323198485] 55))
    have zB1 := hb1.size
    clear hb1 HR hd
    go_wp2_with fail
    refine (date_any _ _ Hdk.out).mono ?_
    rintro e w2 ⟨y, m, d, rfl, bd, mv⟩
    have HB := Lib.hid (mv.base HB1.out zB1); clear mv HB1 Hdk
    have z2 := HB.out.size
    cases hv : vldB y m d
    · have K1 := fun w => Lib.hid (valid_no y m d w hv)
      have KP : ∀ f, 0 ≤ f → f ≤ 2 → ∀ w, Hid (Calls Try.prog 16 #[.string ⟨(writtenL y m d f).toArray⟩] w fun e w' => e = .returned (.tuple #[.agg #[.int .i64 0, .int .i64 0, .int .i64 0], .int .i64 4]) ∧ Below w.heap.size w w') := by
        intro f f0 f2 w
        have := parse_any ⟨(writtenL y m d f).toArray⟩ w
        rw [parse_written y m d f bd ⟨f0, f2⟩] at this
        unfold dateR dateV at this
        rw [hv] at this
        exact this
      have KF := fun w => Lib.hid (format_no y m d w hv)
      have KR := fun w => Lib.hid (read_any ⟨#[]⟩ w); simp only [read_empty] at KR
      clear hv
      go_wp2_with fail
      go_loopw [5] (fun t wr => ∃ k : Int, 0 ≤ k ∧ k ≤ 3 ∧ t = .int .i64 k ∧ wr.heap[w2.heap.size]? = some (.cells #[.int .i64 y, .int .i64 m, .int .i64 d] 28 (0, 0)) ∧ Below w.heap.size w wr) (fun t _ => (3 - intOf t).toNat)
      case atStart => exact ⟨0, by omega, by omega, rfl, blk_new rfl, HB.out.alloc z2 _⟩
      case round =>
        obtain ⟨k, k0, k3, rfl, hX, hB⟩ := hrel
        have X := Lib.hid hX; clear hX HB
        have HB := Lib.hid hB; clear hB
        obtain ⟨X0, X1, X2⟩ := cells3 X.out; have zX := lt_of_blk X.out
        by_cases hk : k ≤ 2
        · have hlt : k < 3 := by omega
          go_wp2_with fail
          refine (written_any y m d k _ bd ⟨k0, hk⟩).mono ?_; rintro e w3 ⟨rfl, hb⟩
          have hx := Lib.hid (blk_below (b := w2.heap.size) hb (by first | omega | (simp; done) | (simp; omega)) (by first | exact X.out | exact blk_old X.out | exact blk_old (blk_old X.out) | exact blk_old (blk_old (blk_old X.out))))
          clear X X0 X1 X2 zX; have X := hx; clear hx
          have hx := Lib.hid (by first | exact HB.out.trans (hb.mono HB.out.size) | exact (HB.out.alloc HB.out.size _).trans (hb.mono (by have := HB.out.size; simp; omega)) | exact ((HB.out.alloc HB.out.size _).alloc (by have := HB.out.size; simp; omega) _).trans (hb.mono (by have := HB.out.size; simp; omega)) : Below w.heap.size w w3); clear HB hb; have HB := hx; clear hx
          obtain ⟨X0, X1, X2⟩ := cells3 X.out; have zX := lt_of_blk X.out
          go_wp2_with fail
          refine ((KP k k0 hk _).out).mono ?_; rintro e w4 ⟨rfl, hb⟩
          have hx := Lib.hid (blk_below (b := w2.heap.size) hb (by first | omega | (simp; done) | (simp; omega)) (by first | exact X.out | exact blk_old X.out | exact blk_old (blk_old X.out) | exact blk_old (blk_old (blk_old X.out))))
          clear X X0 X1 X2 zX; have X := hx; clear hx
          have hx := Lib.hid (by first | exact HB.out.trans (hb.mono HB.out.size) | exact (HB.out.alloc HB.out.size _).trans (hb.mono (by have := HB.out.size; simp; omega)) | exact ((HB.out.alloc HB.out.size _).alloc (by have := HB.out.size; simp; omega) _).trans (hb.mono (by have := HB.out.size; simp; omega)) : Below w.heap.size w w4); clear HB hb; have HB := hx; clear hx
          obtain ⟨X0, X1, X2⟩ := cells3 X.out; have zX := lt_of_blk X.out
          go_wp2_with fail
          refine ((K1 _).out).mono ?_; rintro e w5 ⟨rfl, hb⟩
          have hx := Lib.hid (blk_below (b := w2.heap.size) hb (by first | omega | (simp; done) | (simp; omega)) (by first | exact X.out | exact blk_old X.out | exact blk_old (blk_old X.out) | exact blk_old (blk_old (blk_old X.out))))
          clear X X0 X1 X2 zX; have X := hx; clear hx
          have Y := Lib.hid (blk_below (b := w4.heap.size) hb (by first | omega | (simp; done) | (simp; omega)) (by first | exact blk_new rfl | exact blk_old (blk_new rfl) | exact blk_new (by simp) | exact blk_old (blk_new (by simp)) | exact blk_old (blk_old (blk_new rfl))))
          have hx := Lib.hid (by first | exact HB.out.trans (hb.mono HB.out.size) | exact (HB.out.alloc HB.out.size _).trans (hb.mono (by have := HB.out.size; simp; omega)) | exact ((HB.out.alloc HB.out.size _).alloc (by have := HB.out.size; simp; omega) _).trans (hb.mono (by have := HB.out.size; simp; omega)) : Below w.heap.size w w5); clear HB hb; have HB := hx; clear hx
          obtain ⟨X0, X1, X2⟩ := cells3 X.out; have zX := lt_of_blk X.out
          obtain ⟨Y0, Y1, Y2⟩ := cells3 Y.out; have zY := lt_of_blk Y.out
          go_wp2_with fail
          go_roundw
          case rel => exact ⟨k + 1, by omega, by omega, rfl, X.out, HB.out⟩
          case measure => simp [intOf]; omega
        · have hge : ¬ k < 3 := by omega
          go_wp2_with fail
          refine ((KF _).out).mono ?_; rintro e w3 ⟨rfl, hb⟩
          have hx := Lib.hid (blk_below (b := w2.heap.size) hb (by first | omega | (simp; done) | (simp; omega)) (by first | exact X.out | exact blk_old X.out | exact blk_old (blk_old X.out) | exact blk_old (blk_old (blk_old X.out))))
          clear X X0 X1 X2 zX; have X := hx; clear hx
          have hx := Lib.hid (by first | exact HB.out.trans (hb.mono HB.out.size) | exact (HB.out.alloc HB.out.size _).trans (hb.mono (by have := HB.out.size; simp; omega)) | exact ((HB.out.alloc HB.out.size _).alloc (by have := HB.out.size; simp; omega) _).trans (hb.mono (by have := HB.out.size; simp; omega)) : Below w.heap.size w w3); clear HB hb; have HB := hx; clear hx
          obtain ⟨X0, X1, X2⟩ := cells3 X.out; have zX := lt_of_blk X.out
          go_wp2_with fail
          refine ((KR _).out).mono ?_; rintro e w4 ⟨rfl, hb⟩
          have hx := Lib.hid (blk_below (b := w2.heap.size) hb (by first | omega | (simp; done) | (simp; omega)) (by first | exact X.out | exact blk_old X.out | exact blk_old (blk_old X.out) | exact blk_old (blk_old (blk_old X.out))))
          clear X X0 X1 X2 zX; have X := hx; clear hx
          have hx := Lib.hid (by first | exact HB.out.trans (hb.mono HB.out.size) | exact (HB.out.alloc HB.out.size _).trans (hb.mono (by have := HB.out.size; simp; omega)) | exact ((HB.out.alloc HB.out.size _).alloc (by have := HB.out.size; simp; omega) _).trans (hb.mono (by have := HB.out.size; simp; omega)) : Below w.heap.size w w4); clear HB hb; have HB := hx; clear hx
          obtain ⟨X0, X1, X2⟩ := cells3 X.out; have zX := lt_of_blk X.out
          go_wp2_with fail
          refine ((K1 _).out).mono ?_; rintro e w5 ⟨rfl, hb⟩
          have hx := Lib.hid (blk_below (b := w2.heap.size) hb (by first | omega | (simp; done) | (simp; omega)) (by first | exact X.out | exact blk_old X.out | exact blk_old (blk_old X.out) | exact blk_old (blk_old (blk_old X.out))))
          clear X X0 X1 X2 zX; have X := hx; clear hx
          have Y := Lib.hid (blk_below (b := w4.heap.size) hb (by first | omega | (simp; done) | (simp; omega)) (by first | exact blk_new rfl | exact blk_old (blk_new rfl) | exact blk_new (by simp) | exact blk_old (blk_new (by simp)) | exact blk_old (blk_old (blk_new rfl))))
          have hx := Lib.hid (by first | exact HB.out.trans (hb.mono HB.out.size) | exact (HB.out.alloc HB.out.size _).trans (hb.mono (by have := HB.out.size; simp; omega)) | exact ((HB.out.alloc HB.out.size _).alloc (by have := HB.out.size; simp; omega) _).trans (hb.mono (by have := HB.out.size; simp; omega)) : Below w.heap.size w w5); clear HB hb; have HB := hx; clear hx
          obtain ⟨X0, X1, X2⟩ := cells3 X.out; have zX := lt_of_blk X.out
          obtain ⟨Y0, Y1, Y2⟩ := cells3 Y.out; have zY := lt_of_blk Y.out
          go_wp2_with fail
          refine ((K1 _).out).mono ?_; rintro e w6 ⟨rfl, hb⟩
          have hx := Lib.hid (blk_below (b := w2.heap.size) hb (by first | omega | (simp; done) | (simp; omega)) (by first | exact X.out | exact blk_old X.out | exact blk_old (blk_old X.out) | exact blk_old (blk_old (blk_old X.out))))
          clear X X0 X1 X2 zX; have X := hx; clear hx
          have hx := Lib.hid (blk_below (b := w4.heap.size) hb (by first | omega | (simp; done) | (simp; omega)) (by first | exact Y.out | exact blk_old Y.out | exact blk_old (blk_old Y.out) | exact blk_old (blk_old (blk_old Y.out))))
          clear Y Y0 Y1 Y2 zY; have Y := hx; clear hx
          have hx := Lib.hid (by first | exact HB.out.trans (hb.mono HB.out.size) | exact (HB.out.alloc HB.out.size _).trans (hb.mono (by have := HB.out.size; simp; omega)) | exact ((HB.out.alloc HB.out.size _).alloc (by have := HB.out.size; simp; omega) _).trans (hb.mono (by have := HB.out.size; simp; omega)) : Below w.heap.size w w6); clear HB hb; have HB := hx; clear hx
          obtain ⟨X0, X1, X2⟩ := cells3 X.out; have zX := lt_of_blk X.out
          obtain ⟨Y0, Y1, Y2⟩ := cells3 Y.out; have zY := lt_of_blk Y.out
          go_wp2_with fail
          go_ret
          exact ⟨by simp [cd, pk], HB.out⟩
    · have K1 := fun w => Lib.hid (valid_yes y m d w hv)
      have KP : ∀ f, 0 ≤ f → f ≤ 2 → ∀ w, Hid (Calls Try.prog 16 #[.string ⟨(writtenL y m d f).toArray⟩] w fun e w' => e = .returned (.tuple #[.agg #[.int .i64 y, .int .i64 m, .int .i64 d], .int .i64 0]) ∧ Below w.heap.size w w') := by
        intro f f0 f2 w
        have := parse_any ⟨(writtenL y m d f).toArray⟩ w
        rw [parse_written y m d f bd ⟨f0, f2⟩] at this
        unfold dateR dateV at this
        rw [hv] at this
        exact this
      have KF := fun w => Lib.hid (format_yes y m d w hv)
      have KR := fun w => Lib.hid (read_any ⟨(digits8 y m d).toArray⟩ w); simp only [read_digits y m d hv] at KR
      clear hv
      go_wp2_with fail
      go_loopw [5] (fun t wr => ∃ k : Int, 0 ≤ k ∧ k ≤ 3 ∧ t = .int .i64 k ∧ wr.heap[w2.heap.size]? = some (.cells #[.int .i64 y, .int .i64 m, .int .i64 d] 28 (0, 0)) ∧ Below w.heap.size w wr) (fun t _ => (3 - intOf t).toNat)
      case atStart => exact ⟨0, by omega, by omega, rfl, blk_new rfl, HB.out.alloc z2 _⟩
      case round =>
        obtain ⟨k, k0, k3, rfl, hX, hB⟩ := hrel
        have X := Lib.hid hX; clear hX HB
        have HB := Lib.hid hB; clear hB
        obtain ⟨X0, X1, X2⟩ := cells3 X.out; have zX := lt_of_blk X.out
        by_cases hk : k ≤ 2
        · have hlt : k < 3 := by omega
          go_wp2_with fail
          refine (written_any y m d k _ bd ⟨k0, hk⟩).mono ?_; rintro e w3 ⟨rfl, hb⟩
          have hx := Lib.hid (blk_below (b := w2.heap.size) hb (by first | omega | (simp; done) | (simp; omega)) (by first | exact X.out | exact blk_old X.out | exact blk_old (blk_old X.out) | exact blk_old (blk_old (blk_old X.out))))
          clear X X0 X1 X2 zX; have X := hx; clear hx
          have hx := Lib.hid (by first | exact HB.out.trans (hb.mono HB.out.size) | exact (HB.out.alloc HB.out.size _).trans (hb.mono (by have := HB.out.size; simp; omega)) | exact ((HB.out.alloc HB.out.size _).alloc (by have := HB.out.size; simp; omega) _).trans (hb.mono (by have := HB.out.size; simp; omega)) : Below w.heap.size w w3); clear HB hb; have HB := hx; clear hx
          obtain ⟨X0, X1, X2⟩ := cells3 X.out; have zX := lt_of_blk X.out
          go_wp2_with fail
          refine ((KP k k0 hk _).out).mono ?_; rintro e w4 ⟨rfl, hb⟩
          have hx := Lib.hid (blk_below (b := w2.heap.size) hb (by first | omega | (simp; done) | (simp; omega)) (by first | exact X.out | exact blk_old X.out | exact blk_old (blk_old X.out) | exact blk_old (blk_old (blk_old X.out))))
          clear X X0 X1 X2 zX; have X := hx; clear hx
          have hx := Lib.hid (by first | exact HB.out.trans (hb.mono HB.out.size) | exact (HB.out.alloc HB.out.size _).trans (hb.mono (by have := HB.out.size; simp; omega)) | exact ((HB.out.alloc HB.out.size _).alloc (by have := HB.out.size; simp; omega) _).trans (hb.mono (by have := HB.out.size; simp; omega)) : Below w.heap.size w w4); clear HB hb; have HB := hx; clear hx
          obtain ⟨X0, X1, X2⟩ := cells3 X.out; have zX := lt_of_blk X.out
          go_wp2_with fail
          refine ((K1 _).out).mono ?_; rintro e w5 ⟨rfl, hb⟩
          have hx := Lib.hid (blk_below (b := w2.heap.size) hb (by first | omega | (simp; done) | (simp; omega)) (by first | exact X.out | exact blk_old X.out | exact blk_old (blk_old X.out) | exact blk_old (blk_old (blk_old X.out))))
          clear X X0 X1 X2 zX; have X := hx; clear hx
          have Y := Lib.hid (blk_below (b := w4.heap.size) hb (by first | omega | (simp; done) | (simp; omega)) (by first | exact blk_new rfl | exact blk_old (blk_new rfl) | exact blk_new (by simp) | exact blk_old (blk_new (by simp)) | exact blk_old (blk_old (blk_new rfl))))
          have hx := Lib.hid (by first | exact HB.out.trans (hb.mono HB.out.size) | exact (HB.out.alloc HB.out.size _).trans (hb.mono (by have := HB.out.size; simp; omega)) | exact ((HB.out.alloc HB.out.size _).alloc (by have := HB.out.size; simp; omega) _).trans (hb.mono (by have := HB.out.size; simp; omega)) : Below w.heap.size w w5); clear HB hb; have HB := hx; clear hx
          obtain ⟨X0, X1, X2⟩ := cells3 X.out; have zX := lt_of_blk X.out
          obtain ⟨Y0, Y1, Y2⟩ := cells3 Y.out; have zY := lt_of_blk Y.out
          go_wp2_with fail
          go_roundw
          case rel => exact ⟨k + 1, by omega, by omega, rfl, X.out, HB.out⟩
          case measure => simp [intOf]; omega
        · have hge : ¬ k < 3 := by omega
          go_wp2_with fail
          refine ((KF _).out).mono ?_; rintro e w3 ⟨rfl, hb⟩
          have hx := Lib.hid (blk_below (b := w2.heap.size) hb (by first | omega | (simp; done) | (simp; omega)) (by first | exact X.out | exact blk_old X.out | exact blk_old (blk_old X.out) | exact blk_old (blk_old (blk_old X.out))))
          clear X X0 X1 X2 zX; have X := hx; clear hx
          have hx := Lib.hid (by first | exact HB.out.trans (hb.mono HB.out.size) | exact (HB.out.alloc HB.out.size _).trans (hb.mono (by have := HB.out.size; simp; omega)) | exact ((HB.out.alloc HB.out.size _).alloc (by have := HB.out.size; simp; omega) _).trans (hb.mono (by have := HB.out.size; simp; omega)) : Below w.heap.size w w3); clear HB hb; have HB := hx; clear hx
          obtain ⟨X0, X1, X2⟩ := cells3 X.out; have zX := lt_of_blk X.out
          go_wp2_with fail
          refine ((KR _).out).mono ?_; rintro e w4 ⟨rfl, hb⟩
          have hx := Lib.hid (blk_below (b := w2.heap.size) hb (by first | omega | (simp; done) | (simp; omega)) (by first | exact X.out | exact blk_old X.out | exact blk_old (blk_old X.out) | exact blk_old (blk_old (blk_old X.out))))
          clear X X0 X1 X2 zX; have X := hx; clear hx
          have hx := Lib.hid (by first | exact HB.out.trans (hb.mono HB.out.size) | exact (HB.out.alloc HB.out.size _).trans (hb.mono (by have := HB.out.size; simp; omega)) | exact ((HB.out.alloc HB.out.size _).alloc (by have := HB.out.size; simp; omega) _).trans (hb.mono (by have := HB.out.size; simp; omega)) : Below w.heap.size w w4); clear HB hb; have HB := hx; clear hx
          obtain ⟨X0, X1, X2⟩ := cells3 X.out; have zX := lt_of_blk X.out
          go_wp2_with fail
          refine ((K1 _).out).mono ?_; rintro e w5 ⟨rfl, hb⟩
          have hx := Lib.hid (blk_below (b := w2.heap.size) hb (by first | omega | (simp; done) | (simp; omega)) (by first | exact X.out | exact blk_old X.out | exact blk_old (blk_old X.out) | exact blk_old (blk_old (blk_old X.out))))
          clear X X0 X1 X2 zX; have X := hx; clear hx
          have Y := Lib.hid (blk_below (b := w4.heap.size) hb (by first | omega | (simp; done) | (simp; omega)) (by first | exact blk_new rfl | exact blk_old (blk_new rfl) | exact blk_new (by simp) | exact blk_old (blk_new (by simp)) | exact blk_old (blk_old (blk_new rfl))))
          have hx := Lib.hid (by first | exact HB.out.trans (hb.mono HB.out.size) | exact (HB.out.alloc HB.out.size _).trans (hb.mono (by have := HB.out.size; simp; omega)) | exact ((HB.out.alloc HB.out.size _).alloc (by have := HB.out.size; simp; omega) _).trans (hb.mono (by have := HB.out.size; simp; omega)) : Below w.heap.size w w5); clear HB hb; have HB := hx; clear hx
          obtain ⟨X0, X1, X2⟩ := cells3 X.out; have zX := lt_of_blk X.out
          obtain ⟨Y0, Y1, Y2⟩ := cells3 Y.out; have zY := lt_of_blk Y.out
          go_wp2_with fail
          go_ret
          exact ⟨by simp [cd, pk], HB.out⟩
  · have hd : decide (n ≤ 400) = false := by simpa using hn
    clear hr hn
    go_enter Try.func4, Try.ntmps4
    go_wp2_with fail
    refine (awake_any _).mono ?_; rintro e w1 ⟨rfl, hb1⟩
    go_wp2_with fail
    refine (few_any a n cap _).mono ?_; rintro e w' ⟨rfl, rfl⟩
    go_wp2_with fail
    refine (awake_any _).mono ?_; rintro e w2 ⟨rfl, hb2⟩
    go_wp2_with fail
    go_ret
    exact ⟨rfl, hb1.trans (hb2.mono hb1.size)⟩
end Go.Proofs.Ytbibdpoempjcnaa
