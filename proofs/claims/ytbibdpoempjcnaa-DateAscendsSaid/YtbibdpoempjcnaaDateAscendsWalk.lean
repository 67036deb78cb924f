/- The law DateAscends, walked: for every list of numbers it returns true and leaves what was there. -/
import Derived.Test.YtbibdpoempjcnaaDateAwake
import Derived.Test.YtbibdpoempjcnaaDateDig
import Derived.Test.YtbibdpoempjcnaaMakeB
set_option linter.unusedSimpArgs false
set_option linter.unusedVariables false
namespace Go.Proofs.Ytbibdpoempjcnaa
open Go.RowKit Cal
theorem list_mk (l : List UInt8) : (⟨l.toArray⟩ : ByteArray).toList = l := by rw [ByteArray.toList_eq]
set_option maxHeartbeats 4000000 in
theorem ascends_walk (a : Option Addr) (n cap : Nat) (zs : List Int) (w : World) (hr : IsRow .i64 w a n cap zs) :
    Calls Try.prog 3 #[.slice a n cap] w fun e w' => e = .returned (.bool true) ∧ Below w.heap.size w w' := by
  by_cases hn : n ≤ 400
  · have hd : decide (n ≤ 400) = true := by simpa using hn
    have HR := Lib.hid hr; clear hr
    go_enter Try.func3, Try.ntmps3
    go_wp2_with fail
    refine (awake_any _).mono ?_; rintro e w1 ⟨rfl, hb1⟩
    go_wp2_with fail
    refine (few_any a n cap _).mono ?_; rintro e w' ⟨rfl, rfl⟩
    go_wp2_with fail
    refine (new_any a n cap _).mono ?_; rintro e w' ⟨rfl, rfl⟩
    have Hdk := Lib.hid (deck_law (cap := cap) hn HR.out hb1)
    have HB1 := Lib.hid (hb1.alloc hb1.size (.cells #[.slice a n cap, .int .i64 0, .int .u64 11400714819323198485] 55))
    have zB1 := hb1.size
    clear hb1 HR hd
    go_wp2_with fail
    refine (date_any _ _ Hdk.out).mono ?_
    rintro e w2 ⟨y, m, d, rfl, bd, mv⟩
    have M2 := Lib.hid mv; clear mv Hdk
    go_wp2_with fail
    refine (date_any _ _ M2.out.deck).mono ?_
    rintro e w3 ⟨y', m', d', rfl, bd', mv'⟩
    have HB := Lib.hid ((M2.out.trans mv').base HB1.out zB1); clear mv' M2 HB1
    have z3 := HB.out.size
    cases hv : vldB y m d
    · have K1 := fun w => Lib.hid (day_no y m d w hv); have K3 := fun w => Lib.hid (format_no y m d w hv); have K5 := fun w => Lib.hid (valid_no y m d w hv)
      have K2 := fun w => Lib.hid (day_any y' m' d' w); have K4 := fun w => Lib.hid (format_any y' m' d' w); have K6 := fun w => Lib.hid (valid_any y' m' d' w)
      clear hv
      go_wp2_with fail
      refine ((K1 _).out).mono ?_; rintro e w4 ⟨rfl, hb⟩
      have X := Lib.hid (blk_below (b := w3.heap.size) hb (by first | omega | (simp; done) | (simp; omega)) (by first | exact blk_new rfl | exact blk_old (blk_new rfl) | exact blk_new (by simp) | exact blk_old (blk_new (by simp)) | exact blk_old (blk_old (blk_new rfl))))
      have Y := Lib.hid (blk_below (b := (w3.heap.size+1)) hb (by first | omega | (simp; done) | (simp; omega)) (by first | exact blk_new rfl | exact blk_old (blk_new rfl) | exact blk_new (by simp) | exact blk_old (blk_new (by simp)) | exact blk_old (blk_old (blk_new rfl))))
      have hx := Lib.hid (by first | exact HB.out.trans (hb.mono HB.out.size) | exact (HB.out.alloc HB.out.size _).trans (hb.mono (by have := HB.out.size; simp; omega)) | exact ((HB.out.alloc HB.out.size _).alloc (by have := HB.out.size; simp; omega) _).trans (hb.mono (by have := HB.out.size; simp; omega)) : Below w.heap.size w w4); clear HB hb; have HB := hx; clear hx
      obtain ⟨X0, X1, X2⟩ := cells3 X.out; have zX := lt_of_blk X.out
      obtain ⟨Y0, Y1, Y2⟩ := cells3 Y.out; have zY := lt_of_blk Y.out
      go_wp2_with fail
      refine ((K2 _).out).mono ?_; rintro e w5 ⟨rfl, hb⟩
      have hx := Lib.hid (blk_below (b := w3.heap.size) hb (by first | omega | (simp; done) | (simp; omega)) (by first | exact X.out | exact blk_old X.out | exact blk_old (blk_old X.out) | exact blk_old (blk_old (blk_old X.out))))
      clear X X0 X1 X2 zX; have X := hx; clear hx
      have hx := Lib.hid (blk_below (b := (w3.heap.size+1)) hb (by first | omega | (simp; done) | (simp; omega)) (by first | exact Y.out | exact blk_old Y.out | exact blk_old (blk_old Y.out) | exact blk_old (blk_old (blk_old Y.out))))
      clear Y Y0 Y1 Y2 zY; have Y := hx; clear hx
      have hx := Lib.hid (by first | exact HB.out.trans (hb.mono HB.out.size) | exact (HB.out.alloc HB.out.size _).trans (hb.mono (by have := HB.out.size; simp; omega)) | exact ((HB.out.alloc HB.out.size _).alloc (by have := HB.out.size; simp; omega) _).trans (hb.mono (by have := HB.out.size; simp; omega)) : Below w.heap.size w w5); clear HB hb; have HB := hx; clear hx
      obtain ⟨X0, X1, X2⟩ := cells3 X.out; have zX := lt_of_blk X.out
      obtain ⟨Y0, Y1, Y2⟩ := cells3 Y.out; have zY := lt_of_blk Y.out
      go_wp2_with fail
      refine ((K3 _).out).mono ?_; rintro e w6 ⟨rfl, hb⟩
      have hx := Lib.hid (blk_below (b := w3.heap.size) hb (by first | omega | (simp; done) | (simp; omega)) (by first | exact X.out | exact blk_old X.out | exact blk_old (blk_old X.out) | exact blk_old (blk_old (blk_old X.out))))
      clear X X0 X1 X2 zX; have X := hx; clear hx
      have hx := Lib.hid (blk_below (b := (w3.heap.size+1)) hb (by first | omega | (simp; done) | (simp; omega)) (by first | exact Y.out | exact blk_old Y.out | exact blk_old (blk_old Y.out) | exact blk_old (blk_old (blk_old Y.out))))
      clear Y Y0 Y1 Y2 zY; have Y := hx; clear hx
      have hx := Lib.hid (by first | exact HB.out.trans (hb.mono HB.out.size) | exact (HB.out.alloc HB.out.size _).trans (hb.mono (by have := HB.out.size; simp; omega)) | exact ((HB.out.alloc HB.out.size _).alloc (by have := HB.out.size; simp; omega) _).trans (hb.mono (by have := HB.out.size; simp; omega)) : Below w.heap.size w w6); clear HB hb; have HB := hx; clear hx
      obtain ⟨X0, X1, X2⟩ := cells3 X.out; have zX := lt_of_blk X.out
      obtain ⟨Y0, Y1, Y2⟩ := cells3 Y.out; have zY := lt_of_blk Y.out
      go_wp2_with fail
      refine ((K4 _).out).mono ?_; rintro e w7 ⟨rfl, hb⟩
      have hx := Lib.hid (blk_below (b := w3.heap.size) hb (by first | omega | (simp; done) | (simp; omega)) (by first | exact X.out | exact blk_old X.out | exact blk_old (blk_old X.out) | exact blk_old (blk_old (blk_old X.out))))
      clear X X0 X1 X2 zX; have X := hx; clear hx
      have hx := Lib.hid (blk_below (b := (w3.heap.size+1)) hb (by first | omega | (simp; done) | (simp; omega)) (by first | exact Y.out | exact blk_old Y.out | exact blk_old (blk_old Y.out) | exact blk_old (blk_old (blk_old Y.out))))
      clear Y Y0 Y1 Y2 zY; have Y := hx; clear hx
      have hx := Lib.hid (by first | exact HB.out.trans (hb.mono HB.out.size) | exact (HB.out.alloc HB.out.size _).trans (hb.mono (by have := HB.out.size; simp; omega)) | exact ((HB.out.alloc HB.out.size _).alloc (by have := HB.out.size; simp; omega) _).trans (hb.mono (by have := HB.out.size; simp; omega)) : Below w.heap.size w w7); clear HB hb; have HB := hx; clear hx
      obtain ⟨X0, X1, X2⟩ := cells3 X.out; have zX := lt_of_blk X.out
      obtain ⟨Y0, Y1, Y2⟩ := cells3 Y.out; have zY := lt_of_blk Y.out
      go_wp2_with fail
      refine ((K5 _).out).mono ?_; rintro e w8 ⟨rfl, hb⟩
      have hx := Lib.hid (blk_below (b := w3.heap.size) hb (by first | omega | (simp; done) | (simp; omega)) (by first | exact X.out | exact blk_old X.out | exact blk_old (blk_old X.out) | exact blk_old (blk_old (blk_old X.out))))
      clear X X0 X1 X2 zX; have X := hx; clear hx
      have hx := Lib.hid (blk_below (b := (w3.heap.size+1)) hb (by first | omega | (simp; done) | (simp; omega)) (by first | exact Y.out | exact blk_old Y.out | exact blk_old (blk_old Y.out) | exact blk_old (blk_old (blk_old Y.out))))
      clear Y Y0 Y1 Y2 zY; have Y := hx; clear hx
      have hx := Lib.hid (by first | exact HB.out.trans (hb.mono HB.out.size) | exact (HB.out.alloc HB.out.size _).trans (hb.mono (by have := HB.out.size; simp; omega)) | exact ((HB.out.alloc HB.out.size _).alloc (by have := HB.out.size; simp; omega) _).trans (hb.mono (by have := HB.out.size; simp; omega)) : Below w.heap.size w w8); clear HB hb; have HB := hx; clear hx
      obtain ⟨X0, X1, X2⟩ := cells3 X.out; have zX := lt_of_blk X.out
      obtain ⟨Y0, Y1, Y2⟩ := cells3 Y.out; have zY := lt_of_blk Y.out
      go_wp2_with fail
      go_ret
      exact ⟨by simp, HB.out⟩
    · cases hv' : vldB y' m' d'
      · have K1 := fun w => Lib.hid (day_yes y m d w hv); have K3 := fun w => Lib.hid (format_yes y m d w hv); have K5 := fun w => Lib.hid (valid_yes y m d w hv)
        have K2 := fun w => Lib.hid (day_no y' m' d' w hv'); have K4 := fun w => Lib.hid (format_no y' m' d' w hv'); have K6 := fun w => Lib.hid (valid_no y' m' d' w hv')
        clear hv hv'
        go_wp2_with fail
        refine ((K1 _).out).mono ?_; rintro e w4 ⟨rfl, hb⟩
        have X := Lib.hid (blk_below (b := w3.heap.size) hb (by first | omega | (simp; done) | (simp; omega)) (by first | exact blk_new rfl | exact blk_old (blk_new rfl) | exact blk_new (by simp) | exact blk_old (blk_new (by simp)) | exact blk_old (blk_old (blk_new rfl))))
        have Y := Lib.hid (blk_below (b := (w3.heap.size+1)) hb (by first | omega | (simp; done) | (simp; omega)) (by first | exact blk_new rfl | exact blk_old (blk_new rfl) | exact blk_new (by simp) | exact blk_old (blk_new (by simp)) | exact blk_old (blk_old (blk_new rfl))))
        have hx := Lib.hid (by first | exact HB.out.trans (hb.mono HB.out.size) | exact (HB.out.alloc HB.out.size _).trans (hb.mono (by have := HB.out.size; simp; omega)) | exact ((HB.out.alloc HB.out.size _).alloc (by have := HB.out.size; simp; omega) _).trans (hb.mono (by have := HB.out.size; simp; omega)) : Below w.heap.size w w4); clear HB hb; have HB := hx; clear hx
        obtain ⟨X0, X1, X2⟩ := cells3 X.out; have zX := lt_of_blk X.out
        obtain ⟨Y0, Y1, Y2⟩ := cells3 Y.out; have zY := lt_of_blk Y.out
        go_wp2_with fail
        refine ((K2 _).out).mono ?_; rintro e w5 ⟨rfl, hb⟩
        have hx := Lib.hid (blk_below (b := w3.heap.size) hb (by first | omega | (simp; done) | (simp; omega)) (by first | exact X.out | exact blk_old X.out | exact blk_old (blk_old X.out) | exact blk_old (blk_old (blk_old X.out))))
        clear X X0 X1 X2 zX; have X := hx; clear hx
        have hx := Lib.hid (blk_below (b := (w3.heap.size+1)) hb (by first | omega | (simp; done) | (simp; omega)) (by first | exact Y.out | exact blk_old Y.out | exact blk_old (blk_old Y.out) | exact blk_old (blk_old (blk_old Y.out))))
        clear Y Y0 Y1 Y2 zY; have Y := hx; clear hx
        have hx := Lib.hid (by first | exact HB.out.trans (hb.mono HB.out.size) | exact (HB.out.alloc HB.out.size _).trans (hb.mono (by have := HB.out.size; simp; omega)) | exact ((HB.out.alloc HB.out.size _).alloc (by have := HB.out.size; simp; omega) _).trans (hb.mono (by have := HB.out.size; simp; omega)) : Below w.heap.size w w5); clear HB hb; have HB := hx; clear hx
        obtain ⟨X0, X1, X2⟩ := cells3 X.out; have zX := lt_of_blk X.out
        obtain ⟨Y0, Y1, Y2⟩ := cells3 Y.out; have zY := lt_of_blk Y.out
        go_wp2_with fail
        refine ((K3 _).out).mono ?_; rintro e w6 ⟨rfl, hb⟩
        have hx := Lib.hid (blk_below (b := w3.heap.size) hb (by first | omega | (simp; done) | (simp; omega)) (by first | exact X.out | exact blk_old X.out | exact blk_old (blk_old X.out) | exact blk_old (blk_old (blk_old X.out))))
        clear X X0 X1 X2 zX; have X := hx; clear hx
        have hx := Lib.hid (blk_below (b := (w3.heap.size+1)) hb (by first | omega | (simp; done) | (simp; omega)) (by first | exact Y.out | exact blk_old Y.out | exact blk_old (blk_old Y.out) | exact blk_old (blk_old (blk_old Y.out))))
        clear Y Y0 Y1 Y2 zY; have Y := hx; clear hx
        have hx := Lib.hid (by first | exact HB.out.trans (hb.mono HB.out.size) | exact (HB.out.alloc HB.out.size _).trans (hb.mono (by have := HB.out.size; simp; omega)) | exact ((HB.out.alloc HB.out.size _).alloc (by have := HB.out.size; simp; omega) _).trans (hb.mono (by have := HB.out.size; simp; omega)) : Below w.heap.size w w6); clear HB hb; have HB := hx; clear hx
        obtain ⟨X0, X1, X2⟩ := cells3 X.out; have zX := lt_of_blk X.out
        obtain ⟨Y0, Y1, Y2⟩ := cells3 Y.out; have zY := lt_of_blk Y.out
        go_wp2_with fail
        refine ((K4 _).out).mono ?_; rintro e w7 ⟨rfl, hb⟩
        have hx := Lib.hid (blk_below (b := w3.heap.size) hb (by first | omega | (simp; done) | (simp; omega)) (by first | exact X.out | exact blk_old X.out | exact blk_old (blk_old X.out) | exact blk_old (blk_old (blk_old X.out))))
        clear X X0 X1 X2 zX; have X := hx; clear hx
        have hx := Lib.hid (blk_below (b := (w3.heap.size+1)) hb (by first | omega | (simp; done) | (simp; omega)) (by first | exact Y.out | exact blk_old Y.out | exact blk_old (blk_old Y.out) | exact blk_old (blk_old (blk_old Y.out))))
        clear Y Y0 Y1 Y2 zY; have Y := hx; clear hx
        have hx := Lib.hid (by first | exact HB.out.trans (hb.mono HB.out.size) | exact (HB.out.alloc HB.out.size _).trans (hb.mono (by have := HB.out.size; simp; omega)) | exact ((HB.out.alloc HB.out.size _).alloc (by have := HB.out.size; simp; omega) _).trans (hb.mono (by have := HB.out.size; simp; omega)) : Below w.heap.size w w7); clear HB hb; have HB := hx; clear hx
        obtain ⟨X0, X1, X2⟩ := cells3 X.out; have zX := lt_of_blk X.out
        obtain ⟨Y0, Y1, Y2⟩ := cells3 Y.out; have zY := lt_of_blk Y.out
        go_wp2_with fail
        refine ((K5 _).out).mono ?_; rintro e w8 ⟨rfl, hb⟩
        have hx := Lib.hid (blk_below (b := w3.heap.size) hb (by first | omega | (simp; done) | (simp; omega)) (by first | exact X.out | exact blk_old X.out | exact blk_old (blk_old X.out) | exact blk_old (blk_old (blk_old X.out))))
        clear X X0 X1 X2 zX; have X := hx; clear hx
        have hx := Lib.hid (blk_below (b := (w3.heap.size+1)) hb (by first | omega | (simp; done) | (simp; omega)) (by first | exact Y.out | exact blk_old Y.out | exact blk_old (blk_old Y.out) | exact blk_old (blk_old (blk_old Y.out))))
        clear Y Y0 Y1 Y2 zY; have Y := hx; clear hx
        have hx := Lib.hid (by first | exact HB.out.trans (hb.mono HB.out.size) | exact (HB.out.alloc HB.out.size _).trans (hb.mono (by have := HB.out.size; simp; omega)) | exact ((HB.out.alloc HB.out.size _).alloc (by have := HB.out.size; simp; omega) _).trans (hb.mono (by have := HB.out.size; simp; omega)) : Below w.heap.size w w8); clear HB hb; have HB := hx; clear hx
        obtain ⟨X0, X1, X2⟩ := cells3 X.out; have zX := lt_of_blk X.out
        obtain ⟨Y0, Y1, Y2⟩ := cells3 Y.out; have zY := lt_of_blk Y.out
        go_wp2_with fail
        refine ((K6 _).out).mono ?_; rintro e w9 ⟨rfl, hb⟩
        have hx := Lib.hid (blk_below (b := w3.heap.size) hb (by first | omega | (simp; done) | (simp; omega)) (by first | exact X.out | exact blk_old X.out | exact blk_old (blk_old X.out) | exact blk_old (blk_old (blk_old X.out))))
        clear X X0 X1 X2 zX; have X := hx; clear hx
        have hx := Lib.hid (blk_below (b := (w3.heap.size+1)) hb (by first | omega | (simp; done) | (simp; omega)) (by first | exact Y.out | exact blk_old Y.out | exact blk_old (blk_old Y.out) | exact blk_old (blk_old (blk_old Y.out))))
        clear Y Y0 Y1 Y2 zY; have Y := hx; clear hx
        have hx := Lib.hid (by first | exact HB.out.trans (hb.mono HB.out.size) | exact (HB.out.alloc HB.out.size _).trans (hb.mono (by have := HB.out.size; simp; omega)) | exact ((HB.out.alloc HB.out.size _).alloc (by have := HB.out.size; simp; omega) _).trans (hb.mono (by have := HB.out.size; simp; omega)) : Below w.heap.size w w9); clear HB hb; have HB := hx; clear hx
        obtain ⟨X0, X1, X2⟩ := cells3 X.out; have zX := lt_of_blk X.out
        obtain ⟨Y0, Y1, Y2⟩ := cells3 Y.out; have zY := lt_of_blk Y.out
        go_wp2_with fail
        go_ret
        exact ⟨by simp, HB.out⟩
      · have K1 := fun w => Lib.hid (day_yes y m d w hv); have K3 := fun w => Lib.hid (format_yes y m d w hv); have K5 := fun w => Lib.hid (valid_yes y m d w hv)
        have K2 := fun w => Lib.hid (day_yes y' m' d' w hv'); have K4 := fun w => Lib.hid (format_yes y' m' d' w hv'); have K6 := fun w => Lib.hid (valid_yes y' m' d' w hv')
        have HL := Lib.hid (fmt_less hv hv'); have HI := Lib.hid (num_inj _ _ _ _ _ _ hv hv')
        clear hv hv'
        go_wp2_with fail
        refine ((K1 _).out).mono ?_; rintro e w4 ⟨rfl, hb⟩
        have X := Lib.hid (blk_below (b := w3.heap.size) hb (by first | omega | (simp; done) | (simp; omega)) (by first | exact blk_new rfl | exact blk_old (blk_new rfl) | exact blk_new (by simp) | exact blk_old (blk_new (by simp)) | exact blk_old (blk_old (blk_new rfl))))
        have Y := Lib.hid (blk_below (b := (w3.heap.size+1)) hb (by first | omega | (simp; done) | (simp; omega)) (by first | exact blk_new rfl | exact blk_old (blk_new rfl) | exact blk_new (by simp) | exact blk_old (blk_new (by simp)) | exact blk_old (blk_old (blk_new rfl))))
        have hx := Lib.hid (by first | exact HB.out.trans (hb.mono HB.out.size) | exact (HB.out.alloc HB.out.size _).trans (hb.mono (by have := HB.out.size; simp; omega)) | exact ((HB.out.alloc HB.out.size _).alloc (by have := HB.out.size; simp; omega) _).trans (hb.mono (by have := HB.out.size; simp; omega)) : Below w.heap.size w w4); clear HB hb; have HB := hx; clear hx
        obtain ⟨X0, X1, X2⟩ := cells3 X.out; have zX := lt_of_blk X.out
        obtain ⟨Y0, Y1, Y2⟩ := cells3 Y.out; have zY := lt_of_blk Y.out
        go_wp2_with fail
        refine ((K2 _).out).mono ?_; rintro e w5 ⟨rfl, hb⟩
        have hx := Lib.hid (blk_below (b := w3.heap.size) hb (by first | omega | (simp; done) | (simp; omega)) (by first | exact X.out | exact blk_old X.out | exact blk_old (blk_old X.out) | exact blk_old (blk_old (blk_old X.out))))
        clear X X0 X1 X2 zX; have X := hx; clear hx
        have hx := Lib.hid (blk_below (b := (w3.heap.size+1)) hb (by first | omega | (simp; done) | (simp; omega)) (by first | exact Y.out | exact blk_old Y.out | exact blk_old (blk_old Y.out) | exact blk_old (blk_old (blk_old Y.out))))
        clear Y Y0 Y1 Y2 zY; have Y := hx; clear hx
        have hx := Lib.hid (by first | exact HB.out.trans (hb.mono HB.out.size) | exact (HB.out.alloc HB.out.size _).trans (hb.mono (by have := HB.out.size; simp; omega)) | exact ((HB.out.alloc HB.out.size _).alloc (by have := HB.out.size; simp; omega) _).trans (hb.mono (by have := HB.out.size; simp; omega)) : Below w.heap.size w w5); clear HB hb; have HB := hx; clear hx
        obtain ⟨X0, X1, X2⟩ := cells3 X.out; have zX := lt_of_blk X.out
        obtain ⟨Y0, Y1, Y2⟩ := cells3 Y.out; have zY := lt_of_blk Y.out
        go_wp2_with fail
        refine ((K3 _).out).mono ?_; rintro e w6 ⟨rfl, hb⟩
        have hx := Lib.hid (blk_below (b := w3.heap.size) hb (by first | omega | (simp; done) | (simp; omega)) (by first | exact X.out | exact blk_old X.out | exact blk_old (blk_old X.out) | exact blk_old (blk_old (blk_old X.out))))
        clear X X0 X1 X2 zX; have X := hx; clear hx
        have hx := Lib.hid (blk_below (b := (w3.heap.size+1)) hb (by first | omega | (simp; done) | (simp; omega)) (by first | exact Y.out | exact blk_old Y.out | exact blk_old (blk_old Y.out) | exact blk_old (blk_old (blk_old Y.out))))
        clear Y Y0 Y1 Y2 zY; have Y := hx; clear hx
        have hx := Lib.hid (by first | exact HB.out.trans (hb.mono HB.out.size) | exact (HB.out.alloc HB.out.size _).trans (hb.mono (by have := HB.out.size; simp; omega)) | exact ((HB.out.alloc HB.out.size _).alloc (by have := HB.out.size; simp; omega) _).trans (hb.mono (by have := HB.out.size; simp; omega)) : Below w.heap.size w w6); clear HB hb; have HB := hx; clear hx
        obtain ⟨X0, X1, X2⟩ := cells3 X.out; have zX := lt_of_blk X.out
        obtain ⟨Y0, Y1, Y2⟩ := cells3 Y.out; have zY := lt_of_blk Y.out
        go_wp2_with fail
        refine ((K4 _).out).mono ?_; rintro e w7 ⟨rfl, hb⟩
        have hx := Lib.hid (blk_below (b := w3.heap.size) hb (by first | omega | (simp; done) | (simp; omega)) (by first | exact X.out | exact blk_old X.out | exact blk_old (blk_old X.out) | exact blk_old (blk_old (blk_old X.out))))
        clear X X0 X1 X2 zX; have X := hx; clear hx
        have hx := Lib.hid (blk_below (b := (w3.heap.size+1)) hb (by first | omega | (simp; done) | (simp; omega)) (by first | exact Y.out | exact blk_old Y.out | exact blk_old (blk_old Y.out) | exact blk_old (blk_old (blk_old Y.out))))
        clear Y Y0 Y1 Y2 zY; have Y := hx; clear hx
        have hx := Lib.hid (by first | exact HB.out.trans (hb.mono HB.out.size) | exact (HB.out.alloc HB.out.size _).trans (hb.mono (by have := HB.out.size; simp; omega)) | exact ((HB.out.alloc HB.out.size _).alloc (by have := HB.out.size; simp; omega) _).trans (hb.mono (by have := HB.out.size; simp; omega)) : Below w.heap.size w w7); clear HB hb; have HB := hx; clear hx
        obtain ⟨X0, X1, X2⟩ := cells3 X.out; have zX := lt_of_blk X.out
        obtain ⟨Y0, Y1, Y2⟩ := cells3 Y.out; have zY := lt_of_blk Y.out
        go_wp2_with fail
        refine ((K5 _).out).mono ?_; rintro e w8 ⟨rfl, hb⟩
        have hx := Lib.hid (blk_below (b := w3.heap.size) hb (by first | omega | (simp; done) | (simp; omega)) (by first | exact X.out | exact blk_old X.out | exact blk_old (blk_old X.out) | exact blk_old (blk_old (blk_old X.out))))
        clear X X0 X1 X2 zX; have X := hx; clear hx
        have hx := Lib.hid (blk_below (b := (w3.heap.size+1)) hb (by first | omega | (simp; done) | (simp; omega)) (by first | exact Y.out | exact blk_old Y.out | exact blk_old (blk_old Y.out) | exact blk_old (blk_old (blk_old Y.out))))
        clear Y Y0 Y1 Y2 zY; have Y := hx; clear hx
        have hx := Lib.hid (by first | exact HB.out.trans (hb.mono HB.out.size) | exact (HB.out.alloc HB.out.size _).trans (hb.mono (by have := HB.out.size; simp; omega)) | exact ((HB.out.alloc HB.out.size _).alloc (by have := HB.out.size; simp; omega) _).trans (hb.mono (by have := HB.out.size; simp; omega)) : Below w.heap.size w w8); clear HB hb; have HB := hx; clear hx
        obtain ⟨X0, X1, X2⟩ := cells3 X.out; have zX := lt_of_blk X.out
        obtain ⟨Y0, Y1, Y2⟩ := cells3 Y.out; have zY := lt_of_blk Y.out
        go_wp2_with fail
        refine ((K6 _).out).mono ?_; rintro e w9 ⟨rfl, hb⟩
        have hx := Lib.hid (blk_below (b := w3.heap.size) hb (by first | omega | (simp; done) | (simp; omega)) (by first | exact X.out | exact blk_old X.out | exact blk_old (blk_old X.out) | exact blk_old (blk_old (blk_old X.out))))
        clear X X0 X1 X2 zX; have X := hx; clear hx
        have hx := Lib.hid (blk_below (b := (w3.heap.size+1)) hb (by first | omega | (simp; done) | (simp; omega)) (by first | exact Y.out | exact blk_old Y.out | exact blk_old (blk_old Y.out) | exact blk_old (blk_old (blk_old Y.out))))
        clear Y Y0 Y1 Y2 zY; have Y := hx; clear hx
        have hx := Lib.hid (by first | exact HB.out.trans (hb.mono HB.out.size) | exact (HB.out.alloc HB.out.size _).trans (hb.mono (by have := HB.out.size; simp; omega)) | exact ((HB.out.alloc HB.out.size _).alloc (by have := HB.out.size; simp; omega) _).trans (hb.mono (by have := HB.out.size; simp; omega)) : Below w.heap.size w w9); clear HB hb; have HB := hx; clear hx
        obtain ⟨X0, X1, X2⟩ := cells3 X.out; have zX := lt_of_blk X.out
        obtain ⟨Y0, Y1, Y2⟩ := cells3 Y.out; have zY := lt_of_blk Y.out
        go_wp2_with fail
        all_goals
          first
          | exact absurd HL.out.symm ‹_›
          | (go_ret; exact ⟨ret_bool (by have hi := HI.out; clear HL HI K1 K2 K3 K4 K5 K6 X Y HB X0 X1 X2 Y0 Y1 Y2; first | (simp; done) | (simp [*] at hi; simp [hi])), HB.out⟩)
  · have hd : decide (n ≤ 400) = false := by simpa using hn
    clear hr hn
    go_enter Try.func3, Try.ntmps3
    go_wp2_with fail
    refine (awake_any _).mono ?_; rintro e w1 ⟨rfl, hb1⟩
    go_wp2_with fail
    refine (few_any a n cap _).mono ?_; rintro e w' ⟨rfl, rfl⟩
    go_wp2_with fail
    refine (awake_any _).mono ?_; rintro e w2 ⟨rfl, hb2⟩
    go_wp2_with fail
    go_ret
    exact ⟨rfl, hb1.trans (hb2.mono hb1.size)⟩
end Go.Proofs.Ytbibdpoempjcnaa
