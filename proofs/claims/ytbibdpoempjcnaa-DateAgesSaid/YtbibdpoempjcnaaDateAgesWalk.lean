/- The law DateAges, walked: for every list of numbers and every number of years it returns true and leaves what was there. -/
import Derived.Test.YtbibdpoempjcnaaDateBackWalk
import Derived.Test.YtbibdpoempjcnaaDateE
import Derived.Test.YtbibdpoempjcnaaMakeB
set_option linter.unusedSimpArgs false
set_option linter.unusedVariables false
namespace Go.Proofs.Ytbibdpoempjcnaa
open Go.RowKit Cal
theorem age_at {Y M D p : Int} (h : vldB Y M D = true) (h' : vldB (Y + p) M D = true) (hp : 0 ≤ p) : ageV Y M D (Y + p) M D = .tuple #[.int .i64 p, .int .i64 0] := by
  have e : ageI Y M D (Y + p) M D = p := by
    have : befB M D M D = false := by simp [befB]
    unfold ageI; rw [this]; simp; omega
  rw [ageV, if_pos ⟨h, h'⟩, e, if_neg (by omega)]
theorem age_prev {Y M D p a b c : Int} (h : vldB Y M D = true) (h' : vldB (Y + p) M D = true) (hq : vldB a b c = true) (hn : num a b c = num (Y + p) M D - 1) (hp : 0 ≤ p) :
    ageI Y M D a b c = p - 1 := by
  have b1 := vld_bd h; have b2 := vld_bd hq
  rcases next_day hq h' (by omega) with ⟨e1, e2, e3⟩ | ⟨e3, _, ⟨e1, e2⟩ | ⟨e1, e2, e4⟩⟩
  · have : befB b c M D = true := by simp [befB]; omega
    unfold ageI; rw [this]; simp; omega
  · have : befB b c M D = true := by simp [befB]; omega
    unfold ageI; rw [this]; simp; omega
  · have : befB b c M D = false := by simp [befB]; omega
    unfold ageI; rw [this]; simp; omega
set_option maxHeartbeats 4000000 in
theorem ages_walk (a : Option Addr) (n cap : Nat) (zs : List Int) (v : Int) (w : World) (hr : IsRow .i64 w a n cap zs) (hw : (Lit.int .u8 v).wf = true) :
    Calls Try.prog 7 #[.slice a n cap, .int .u8 v] w fun e w' => e = .returned (.bool true) ∧ Below w.heap.size w w' := by
  have hx : 0 ≤ v ∧ v ≤ 255 := by simpa [Lit.wf, IntKind.min, IntKind.max, IntKind.signed, IntKind.bits] using hw
  obtain ⟨x0, x1⟩ := hx
  clear hw
  have p0 : 0 ≤ v % 100 ∧ v % 100 ≤ 99 := by omega
  obtain ⟨p0, p1⟩ := p0
  by_cases hn : n ≤ 400
  · have hd : decide (n ≤ 400) = true := by simpa using hn
    have HR := Lib.hid hr; clear hr
    go_enter Try.func7, Try.ntmps7
    go_wp2_with fail
    refine (awake_any _).mono ?_; rintro e w1 ⟨rfl, hb1⟩
    go_wp2_with fail
    refine (few_any a n cap _).mono ?_; rintro e w' ⟨rfl, rfl⟩
    go_wp2_with fail
    refine (new_any a n cap _).mono ?_; rintro e w' ⟨rfl, rfl⟩
    have Hdk := Lib.hid (deck_law (cap := cap) hn HR.out hb1)
    have HB1 := Lib.hid (hb1.alloc hb1.size (.cells #[.slice a n cap, .int .i64 0, .int .u64 11400714819323198485] 55))
    have zB1 := hb1.size
    clear hb1 HR hd
    go_wp2_with fail
    refine (date_any _ _ Hdk.out).mono ?_
    rintro e w2 ⟨y, m, d, rfl, bd, mv⟩
    have HB := Lib.hid (mv.base HB1.out zB1); clear mv HB1 Hdk
    have z2 := HB.out.size
    cases hv : vldB y m d
    · have K1 := fun w => Lib.hid (valid_no y m d w hv)
      go_wp2_with fail
      refine ((K1 _).out).mono ?_; rintro e w3 ⟨rfl, hb⟩
      have X := Lib.hid (blk_below (b := w2.heap.size) hb (by first | omega | (simp; done) | (simp; omega)) (by first | exact blk_new rfl | exact blk_old (blk_new rfl) | exact blk_new (by simp) | exact blk_old (blk_new (by simp)) | exact blk_old (blk_old (blk_new rfl))))
      have hx := Lib.hid (by first | exact HB.out.trans (hb.mono HB.out.size) | exact (HB.out.alloc HB.out.size _).trans (hb.mono (by have := HB.out.size; simp; omega)) | exact ((HB.out.alloc HB.out.size _).alloc (by have := HB.out.size; simp; omega) _).trans (hb.mono (by have := HB.out.size; simp; omega)) : Below w.heap.size w w3); clear HB hb; have HB := hx; clear hx
      obtain ⟨X0, X1, X2⟩ := cells3 X.out; have zX := lt_of_blk X.out
      go_wp2_with fail
      go_ret
      exact ⟨rfl, HB.out⟩
    · cases hv' : vldB (y + v % 100) m d
      · have K1 := fun w => Lib.hid (valid_yes y m d w hv)
        have K2 := fun w => Lib.hid (valid_no (y + v % 100) m d w hv')
        go_wp2_with fail
        refine ((K1 _).out).mono ?_; rintro e w3 ⟨rfl, hb⟩
        have X := Lib.hid (blk_below (b := w2.heap.size) hb (by first | omega | (simp; done) | (simp; omega)) (by first | exact blk_new rfl | exact blk_old (blk_new rfl) | exact blk_new (by simp) | exact blk_old (blk_new (by simp)) | exact blk_old (blk_old (blk_new rfl))))
        have Y := Lib.hid (blk_below (b := (w2.heap.size+1)) hb (by first | omega | (simp; done) | (simp; omega)) (by first | exact blk_new rfl | exact blk_old (blk_new rfl) | exact blk_new (by simp) | exact blk_old (blk_new (by simp)) | exact blk_old (blk_old (blk_new rfl))))
        have hx := Lib.hid (by first | exact HB.out.trans (hb.mono HB.out.size) | exact (HB.out.alloc HB.out.size _).trans (hb.mono (by have := HB.out.size; simp; omega)) | exact ((HB.out.alloc HB.out.size _).alloc (by have := HB.out.size; simp; omega) _).trans (hb.mono (by have := HB.out.size; simp; omega)) : Below w.heap.size w w3); clear HB hb; have HB := hx; clear hx
        obtain ⟨X0, X1, X2⟩ := cells3 X.out; have zX := lt_of_blk X.out
        obtain ⟨Y0, Y1, Y2⟩ := cells3 Y.out; have zY := lt_of_blk Y.out
        go_wp2_with fail
        refine ((K2 _).out).mono ?_; rintro e w4 ⟨rfl, hb⟩
        have hx := Lib.hid (blk_below (b := w2.heap.size) hb (by first | omega | (simp; done) | (simp; omega)) (by first | exact X.out | exact blk_old X.out | exact blk_old (blk_old X.out) | exact blk_old (blk_old (blk_old X.out))))
        clear X X0 X1 X2 zX; have X := hx; clear hx
        have hx := Lib.hid (blk_below (b := (w2.heap.size+1)) hb (by first | omega | (simp; done) | (simp; omega)) (by first | exact Y.out | exact blk_old Y.out | exact blk_old (blk_old Y.out) | exact blk_old (blk_old (blk_old Y.out))))
        clear Y Y0 Y1 Y2 zY; have Y := hx; clear hx
        have hx := Lib.hid (by first | exact HB.out.trans (hb.mono HB.out.size) | exact (HB.out.alloc HB.out.size _).trans (hb.mono (by have := HB.out.size; simp; omega)) | exact ((HB.out.alloc HB.out.size _).alloc (by have := HB.out.size; simp; omega) _).trans (hb.mono (by have := HB.out.size; simp; omega)) : Below w.heap.size w w4); clear HB hb; have HB := hx; clear hx
        obtain ⟨X0, X1, X2⟩ := cells3 X.out; have zX := lt_of_blk X.out
        obtain ⟨Y0, Y1, Y2⟩ := cells3 Y.out; have zY := lt_of_blk Y.out
        go_wp2_with fail
        go_ret
        exact ⟨rfl, HB.out⟩
      · have K1 := fun w => Lib.hid (valid_yes y m d w hv)
        have K2 := fun w => Lib.hid (valid_yes (y + v % 100) m d w hv')
        have K3 := fun w => Lib.hid (age_any y m d (y + v % 100) m d w); simp only [age_at hv hv' p0] at K3
        have K4 := fun w => Lib.hid (day_yes (y + v % 100) m d w hv')
        have nb := num_bd _ _ _ hv'
        obtain ⟨nb0, nb1⟩ := nb
        have HV := Lib.hid hv; clear hv
        have HV' := Lib.hid hv'; clear hv'
        have KN : num (y + v % 100) m d - 1 < 0 → ∀ w, Hid (Calls Try.prog 20 #[.int .i64 (num (y + v % 100) m d - 1)] w fun e w' => e = .returned (.tuple #[.agg #[.int .i64 0, .int .i64 0, .int .i64 0], .int .i64 2]) ∧ Below w.heap.size w w') := fun h w => from_neg _ w h
        have KQ : 0 ≤ num (y + v % 100) m d - 1 → ∀ w, Hid (Calls Try.prog 20 #[.int .i64 (num (y + v % 100) m d - 1)] w (FromPost (num (y + v % 100) m d - 1) w)) := fun h w => from_in _ w h (by omega)
        have NB := Lib.hid nb1; clear nb1
        generalize hN : num (y + v % 100) m d = N at *
        have HN := Lib.hid hN; clear hN
        go_wp2_with fail
        refine ((K1 _).out).mono ?_; rintro e w3 ⟨rfl, hb⟩
        have X := Lib.hid (blk_below (b := w2.heap.size) hb (by first | omega | (simp; done) | (simp; omega)) (by first | exact blk_new rfl | exact blk_old (blk_new rfl) | exact blk_new (by simp) | exact blk_old (blk_new (by simp)) | exact blk_old (blk_old (blk_new rfl))))
        have Y := Lib.hid (blk_below (b := (w2.heap.size+1)) hb (by first | omega | (simp; done) | (simp; omega)) (by first | exact blk_new rfl | exact blk_old (blk_new rfl) | exact blk_new (by simp) | exact blk_old (blk_new (by simp)) | exact blk_old (blk_old (blk_new rfl))))
        have hx := Lib.hid (by first | exact HB.out.trans (hb.mono HB.out.size) | exact (HB.out.alloc HB.out.size _).trans (hb.mono (by have := HB.out.size; simp; omega)) | exact ((HB.out.alloc HB.out.size _).alloc (by have := HB.out.size; simp; omega) _).trans (hb.mono (by have := HB.out.size; simp; omega)) : Below w.heap.size w w3); clear HB hb; have HB := hx; clear hx
        obtain ⟨X0, X1, X2⟩ := cells3 X.out; have zX := lt_of_blk X.out
        obtain ⟨Y0, Y1, Y2⟩ := cells3 Y.out; have zY := lt_of_blk Y.out
        go_wp2_with fail
        refine ((K2 _).out).mono ?_; rintro e w4 ⟨rfl, hb⟩
        have hx := Lib.hid (blk_below (b := w2.heap.size) hb (by first | omega | (simp; done) | (simp; omega)) (by first | exact X.out | exact blk_old X.out | exact blk_old (blk_old X.out) | exact blk_old (blk_old (blk_old X.out))))
        clear X X0 X1 X2 zX; have X := hx; clear hx
        have hx := Lib.hid (blk_below (b := (w2.heap.size+1)) hb (by first | omega | (simp; done) | (simp; omega)) (by first | exact Y.out | exact blk_old Y.out | exact blk_old (blk_old Y.out) | exact blk_old (blk_old (blk_old Y.out))))
        clear Y Y0 Y1 Y2 zY; have Y := hx; clear hx
        have hx := Lib.hid (by first | exact HB.out.trans (hb.mono HB.out.size) | exact (HB.out.alloc HB.out.size _).trans (hb.mono (by have := HB.out.size; simp; omega)) | exact ((HB.out.alloc HB.out.size _).alloc (by have := HB.out.size; simp; omega) _).trans (hb.mono (by have := HB.out.size; simp; omega)) : Below w.heap.size w w4); clear HB hb; have HB := hx; clear hx
        obtain ⟨X0, X1, X2⟩ := cells3 X.out; have zX := lt_of_blk X.out
        obtain ⟨Y0, Y1, Y2⟩ := cells3 Y.out; have zY := lt_of_blk Y.out
        go_wp2_with fail
        refine ((K3 _).out).mono ?_; rintro e w5 ⟨rfl, hb⟩
        have hx := Lib.hid (blk_below (b := w2.heap.size) hb (by first | omega | (simp; done) | (simp; omega)) (by first | exact X.out | exact blk_old X.out | exact blk_old (blk_old X.out) | exact blk_old (blk_old (blk_old X.out))))
        clear X X0 X1 X2 zX; have X := hx; clear hx
        have hx := Lib.hid (blk_below (b := (w2.heap.size+1)) hb (by first | omega | (simp; done) | (simp; omega)) (by first | exact Y.out | exact blk_old Y.out | exact blk_old (blk_old Y.out) | exact blk_old (blk_old (blk_old Y.out))))
        clear Y Y0 Y1 Y2 zY; have Y := hx; clear hx
        have hx := Lib.hid (by first | exact HB.out.trans (hb.mono HB.out.size) | exact (HB.out.alloc HB.out.size _).trans (hb.mono (by have := HB.out.size; simp; omega)) | exact ((HB.out.alloc HB.out.size _).alloc (by have := HB.out.size; simp; omega) _).trans (hb.mono (by have := HB.out.size; simp; omega)) : Below w.heap.size w w5); clear HB hb; have HB := hx; clear hx
        obtain ⟨X0, X1, X2⟩ := cells3 X.out; have zX := lt_of_blk X.out
        obtain ⟨Y0, Y1, Y2⟩ := cells3 Y.out; have zY := lt_of_blk Y.out
        go_wp2_with fail
        refine ((K4 _).out).mono ?_; rintro e w6 ⟨rfl, hb⟩
        have hx := Lib.hid (blk_below (b := w2.heap.size) hb (by first | omega | (simp; done) | (simp; omega)) (by first | exact X.out | exact blk_old X.out | exact blk_old (blk_old X.out) | exact blk_old (blk_old (blk_old X.out))))
        clear X X0 X1 X2 zX; have X := hx; clear hx
        have hx := Lib.hid (blk_below (b := (w2.heap.size+1)) hb (by first | omega | (simp; done) | (simp; omega)) (by first | exact Y.out | exact blk_old Y.out | exact blk_old (blk_old Y.out) | exact blk_old (blk_old (blk_old Y.out))))
        clear Y Y0 Y1 Y2 zY; have Y := hx; clear hx
        have hx := Lib.hid (by first | exact HB.out.trans (hb.mono HB.out.size) | exact (HB.out.alloc HB.out.size _).trans (hb.mono (by have := HB.out.size; simp; omega)) | exact ((HB.out.alloc HB.out.size _).alloc (by have := HB.out.size; simp; omega) _).trans (hb.mono (by have := HB.out.size; simp; omega)) : Below w.heap.size w w6); clear HB hb; have HB := hx; clear hx
        obtain ⟨X0, X1, X2⟩ := cells3 X.out; have zX := lt_of_blk X.out
        obtain ⟨Y0, Y1, Y2⟩ := cells3 Y.out; have zY := lt_of_blk Y.out
        have n1 := NB.out
        by_cases hneg : N - 1 < 0
        · have hp : v % 100 = 0 := by
            have hd := num_year _ _ _ HV'.out
            rw [HN.out] at hd
            have := (vld_iff _ _ _).1 HV.out
            have h1 := dby_mono 1801 (y + v % 100)
            have h2 : dby 1801 = 365 := by decide
            omega
          have hp8 : ((v % 100 : Int) == 0) = true := by simp [hp]
          have K5 := KN hneg
          have K6 := fun w => Lib.hid (age_no2 y m d 0 0 0 w HV.out (by decide))
          have HP := Lib.hid hp; clear hp
          go_wp2_with fail
          refine ((K5 _).out).mono ?_; rintro e w7 ⟨rfl, hb⟩
          have hx := Lib.hid (blk_below (b := w2.heap.size) hb (by first | omega | (simp; done) | (simp; omega)) (by first | exact X.out | exact blk_old X.out | exact blk_old (blk_old X.out) | exact blk_old (blk_old (blk_old X.out))))
          clear X X0 X1 X2 zX; have X := hx; clear hx
          have hx := Lib.hid (blk_below (b := (w2.heap.size+1)) hb (by first | omega | (simp; done) | (simp; omega)) (by first | exact Y.out | exact blk_old Y.out | exact blk_old (blk_old Y.out) | exact blk_old (blk_old (blk_old Y.out))))
          clear Y Y0 Y1 Y2 zY; have Y := hx; clear hx
          have hx := Lib.hid (by first | exact HB.out.trans (hb.mono HB.out.size) | exact (HB.out.alloc HB.out.size _).trans (hb.mono (by have := HB.out.size; simp; omega)) | exact ((HB.out.alloc HB.out.size _).alloc (by have := HB.out.size; simp; omega) _).trans (hb.mono (by have := HB.out.size; simp; omega)) : Below w.heap.size w w7); clear HB hb; have HB := hx; clear hx
          obtain ⟨X0, X1, X2⟩ := cells3 X.out; have zX := lt_of_blk X.out
          obtain ⟨Y0, Y1, Y2⟩ := cells3 Y.out; have zY := lt_of_blk Y.out
          go_wp2_with fail
          refine ((K6 _).out).mono ?_; rintro e w8 ⟨rfl, hb⟩
          have hx := Lib.hid (blk_below (b := w2.heap.size) hb (by first | omega | (simp; done) | (simp; omega)) (by first | exact X.out | exact blk_old X.out | exact blk_old (blk_old X.out) | exact blk_old (blk_old (blk_old X.out))))
          clear X X0 X1 X2 zX; have X := hx; clear hx
          have hx := Lib.hid (blk_below (b := (w2.heap.size+1)) hb (by first | omega | (simp; done) | (simp; omega)) (by first | exact Y.out | exact blk_old Y.out | exact blk_old (blk_old Y.out) | exact blk_old (blk_old (blk_old Y.out))))
          clear Y Y0 Y1 Y2 zY; have Y := hx; clear hx
          have Z := Lib.hid (blk_below (b := w7.heap.size) hb (by first | omega | (simp; done) | (simp; omega)) (by first | exact blk_new rfl | exact blk_old (blk_new rfl) | exact blk_new (by simp) | exact blk_old (blk_new (by simp)) | exact blk_old (blk_old (blk_new rfl))))
          have hx := Lib.hid (by first | exact HB.out.trans (hb.mono HB.out.size) | exact (HB.out.alloc HB.out.size _).trans (hb.mono (by have := HB.out.size; simp; omega)) | exact ((HB.out.alloc HB.out.size _).alloc (by have := HB.out.size; simp; omega) _).trans (hb.mono (by have := HB.out.size; simp; omega)) : Below w.heap.size w w8); clear HB hb; have HB := hx; clear hx
          obtain ⟨X0, X1, X2⟩ := cells3 X.out; have zX := lt_of_blk X.out
          obtain ⟨Y0, Y1, Y2⟩ := cells3 Y.out; have zY := lt_of_blk Y.out
          obtain ⟨Z0, Z1, Z2⟩ := cells3 Z.out; have zZ := lt_of_blk Z.out
          go_wp2_with fail
          go_ret
          exact ⟨by simp [HP.out], HB.out⟩
        · have K5 := KQ (by omega)
          go_wp2_with fail
          refine (K5 _).out.mono ?_; rintro e w7 ⟨⟨qy, qm, qd, rfl, hq, hqn⟩, hb⟩
          have HA := Lib.hid (age_prev HV.out HV'.out hq (by rw [hqn, HN.out]) p0)
          have HQ := Lib.hid hq; clear hq
          have hx := Lib.hid (blk_below hb zX X.out); clear X X0 X1 X2 zX; have X := hx; clear hx
          have hx := Lib.hid (HB.out.trans (hb.mono HB.out.size)); clear HB hb; have HB := hx; clear hx
          obtain ⟨X0, X1, X2⟩ := cells3 X.out; have zX := lt_of_blk X.out
          clear hqn K5 Y Y0 Y1 Y2
          have hag : ageV y m d qy qm qd = if v % 100 - 1 < 0 then .tuple #[.int .i64 0, .int .i64 2] else .tuple #[.int .i64 (v % 100 - 1), .int .i64 0] := by
            rw [ageV, if_pos ⟨HV.out, HQ.out⟩, HA.out]
          by_cases hp : v % 100 = 0
          · have hp8 : ((v % 100 : Int) == 0) = true := by simp [hp]
            rw [if_pos (by omega)] at hag
            have K6 := fun w => Lib.hid (age_any y m d qy qm qd w); simp only [hag] at K6
            clear hag
            have HP := Lib.hid hp; clear hp
            go_wp2_with fail
            refine ((K6 _).out).mono ?_; rintro e w8 ⟨rfl, hb⟩
            have hx := Lib.hid (blk_below (b := w2.heap.size) hb (by first | omega | (simp; done) | (simp; omega)) (by first | exact X.out | exact blk_old X.out | exact blk_old (blk_old X.out) | exact blk_old (blk_old (blk_old X.out))))
            clear X X0 X1 X2 zX; have X := hx; clear hx
            have Z := Lib.hid (blk_below (b := w7.heap.size) hb (by first | omega | (simp; done) | (simp; omega)) (by first | exact blk_new rfl | exact blk_old (blk_new rfl) | exact blk_new (by simp) | exact blk_old (blk_new (by simp)) | exact blk_old (blk_old (blk_new rfl))))
            have hx := Lib.hid (by first | exact HB.out.trans (hb.mono HB.out.size) | exact (HB.out.alloc HB.out.size _).trans (hb.mono (by have := HB.out.size; simp; omega)) | exact ((HB.out.alloc HB.out.size _).alloc (by have := HB.out.size; simp; omega) _).trans (hb.mono (by have := HB.out.size; simp; omega)) : Below w.heap.size w w8); clear HB hb; have HB := hx; clear hx
            obtain ⟨X0, X1, X2⟩ := cells3 X.out; have zX := lt_of_blk X.out
            obtain ⟨Z0, Z1, Z2⟩ := cells3 Z.out; have zZ := lt_of_blk Z.out
            go_wp2_with fail
            go_ret
            exact ⟨by simp [HP.out], HB.out⟩
          · have hp8 : ((v % 100 : Int) == 0) = false := by simp [hp]
            rw [if_neg (by omega)] at hag
            have K6 := fun w => Lib.hid (age_any y m d qy qm qd w); simp only [hag] at K6
            clear hag
            have HP := Lib.hid hp; clear hp
            go_wp2_with fail
            refine ((K6 _).out).mono ?_; rintro e w8 ⟨rfl, hb⟩
            have hx := Lib.hid (blk_below (b := w2.heap.size) hb (by first | omega | (simp; done) | (simp; omega)) (by first | exact X.out | exact blk_old X.out | exact blk_old (blk_old X.out) | exact blk_old (blk_old (blk_old X.out))))
            clear X X0 X1 X2 zX; have X := hx; clear hx
            have Z := Lib.hid (blk_below (b := w7.heap.size) hb (by first | omega | (simp; done) | (simp; omega)) (by first | exact blk_new rfl | exact blk_old (blk_new rfl) | exact blk_new (by simp) | exact blk_old (blk_new (by simp)) | exact blk_old (blk_old (blk_new rfl))))
            have hx := Lib.hid (by first | exact HB.out.trans (hb.mono HB.out.size) | exact (HB.out.alloc HB.out.size _).trans (hb.mono (by have := HB.out.size; simp; omega)) | exact ((HB.out.alloc HB.out.size _).alloc (by have := HB.out.size; simp; omega) _).trans (hb.mono (by have := HB.out.size; simp; omega)) : Below w.heap.size w w8); clear HB hb; have HB := hx; clear hx
            obtain ⟨X0, X1, X2⟩ := cells3 X.out; have zX := lt_of_blk X.out
            obtain ⟨Z0, Z1, Z2⟩ := cells3 Z.out; have zZ := lt_of_blk Z.out
            go_wp2_with fail
            go_ret
            exact ⟨by simp, HB.out⟩
  · have hd : decide (n ≤ 400) = false := by simpa using hn
    clear hr hn
    go_enter Try.func7, Try.ntmps7
    go_wp2_with fail
    refine (awake_any _).mono ?_; rintro e w1 ⟨rfl, hb1⟩
    go_wp2_with fail
    refine (few_any a n cap _).mono ?_; rintro e w' ⟨rfl, rfl⟩
    go_wp2_with fail
    refine (awake_any _).mono ?_; rintro e w2 ⟨rfl, hb2⟩
    go_wp2_with fail
    go_ret
    exact ⟨rfl, hb1.trans (hb2.mono hb1.size)⟩
end Go.Proofs.Ytbibdpoempjcnaa
