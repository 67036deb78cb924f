/- The law DateExact, walked. -/
import Derived.Test.YtbibdpoempjcnaaLib2
import Derived.Test.YtbibdpoempjcnaaRefDateB
import Derived.Test.YtbibdpoempjcnaaMakeB
import Derived.Test.YtbibdpoempjcnaaDateAwake
import Derived.Test.YtbibdpoempjcnaaMakeP
set_option linter.unusedSimpArgs false
set_option linter.unusedVariables false
namespace Go.Proofs.Ytbibdpoempjcnaa
open Go.RowKit Cal
set_option maxHeartbeats 400000 in
theorem short_one (b : Nat) (s : ByteArray) (cap : Nat) (w : World) (hc : w.cell? ⟨b, 0, none⟩ = some (.string s)) :
    Calls Try.prog 22 #[.slice (some ⟨b, 0, none⟩) 1 cap] w fun e w' => e = .returned (.bool (decide (s.size ≤ 200))) ∧ w = w' := by
  by_cases hs : s.size ≤ 200
  · go_enter Try.func22, Try.ntmps22
    go_wp2
    go_loop [3] (fun i => ∃ k : Nat, k ≤ 1 ∧ i = .int .i64 k) (fun i => 1 - (intOf i).toNat)
    case atStart => exact ⟨0, by omega, rfl⟩
    case round =>
      obtain ⟨k, hk, rfl⟩ := hrel
      have : k = 0 ∨ k = 1 := by omega
      rcases this with rfl | rfl
      · go_wp2
        go_round
        case rel => exact ⟨1, by omega, rfl⟩
        case measure => simp [intOf]
      · go_wp2
        go_ret
        exact ⟨by simp [hs], rfl⟩
  · go_enter Try.func22, Try.ntmps22
    go_wp2
    go_loop [3] (fun i => i = .int .i64 0) (fun i => 1 - (intOf i).toNat)
    case atStart => rfl
    case round =>
      subst hrel
      go_wp2
      go_ret
      exact ⟨by simp [hs], rfl⟩
theorem ageV_tuple (y m d y' m' d' : Int) : ∃ n e : Int, ageV y m d y' m' d' = .tuple #[.int .i64 n, .int .i64 e] := by
  unfold ageV; split
  · split <;> exact ⟨_, _, rfl⟩
  · exact ⟨_, _, rfl⟩
theorem swV_tuple (y m d : Int) : ∃ (a b c : Int) (q : Bool), swV y m d = .tuple #[.agg #[.int .i64 a, .int .i64 b, .int .i64 c], .bool q] := by
  unfold swV; split <;> exact ⟨_, _, _, _, rfl⟩
abbrev dC (y m d : Int) : Obj := .cells #[.int .i64 y, .int .i64 m, .int .i64 d] 28 (0, 0)
set_option maxRecDepth 100000 in
set_option maxHeartbeats 8000000 in
theorem exact_walk (a : Option Addr) (n cap : Nat) (zs : List Int) (ry rm rd ay am ad : Int) (s : ByteArray) (v : Int) (w : World) (hr : IsRow .i64 w a n cap zs) (hv : -9223372036854775808 ≤ v ∧ v ≤ 9223372036854775807) (hs : s.size ≤ 200) (hn : n ≤ 400) :
    Calls Try.prog 8 #[.slice a n cap, .agg #[.int .i64 ry, .int .i64 rm, .int .i64 rd], .agg #[.int .i64 ay, .int .i64 am, .int .i64 ad], .string s, .int .i64 v] w fun e w' => e = .returned (.bool true) ∧ Below w.heap.size w w' := by
  have hd : decide (n ≤ 400) = true := by simpa using hn
  have HR := Lib.hid hr; clear hr
  have HB := Lib.hid (Below.refl w.heap.size w)
  have HS := Lib.hid hs; clear hs
  go_enter Try.func8, Try.ntmps8
  go_wp2_with fail
  refine (awake_any _).mono ?_; rintro e w1 ⟨rfl, hb⟩
  have X := Lib.hid (blk_below (b := w.heap.size) hb (by first | omega | (simp; done) | (simp; omega)) (by first | exact blk_new rfl | exact blk_old (blk_new rfl) | exact blk_new (by simp) | exact blk_old (blk_new (by simp)) | exact blk_old (blk_old (blk_new rfl))))
  have Y := Lib.hid (blk_below (b := (w.heap.size+1)) hb (by first | omega | (simp; done) | (simp; omega)) (by first | exact blk_new rfl | exact blk_old (blk_new rfl) | exact blk_new (by simp) | exact blk_old (blk_new (by simp)) | exact blk_old (blk_old (blk_new rfl))))
  have hx := Lib.hid (by first | exact HB.out.trans (hb.mono HB.out.size) | exact (HB.out.alloc HB.out.size _).trans (hb.mono (by have := HB.out.size; first | omega | (simp; done) | (simp; omega))) | exact ((HB.out.alloc HB.out.size _).alloc (by have := HB.out.size; first | omega | (simp; done) | (simp; omega)) _).trans (hb.mono (by have := HB.out.size; first | omega | (simp; done) | (simp; omega))) : Below w.heap.size w w1); clear HB hb; have HB := hx; clear hx
  obtain ⟨X0, X1, X2⟩ := cells3 X.out; have zX := lt_of_blk X.out
  obtain ⟨Y0, Y1, Y2⟩ := cells3 Y.out; have zY := lt_of_blk Y.out
  go_wp2_with fail
  refine (few_any a n cap _).mono ?_; rintro e w' ⟨rfl, rfl⟩
  go_wp2_with fail
  refine (short_one _ s _ _ (by simp)).mono ?_; rintro e w' ⟨rfl, rfl⟩
  have hs := HS.out
  go_wp2_with fail
  refine (new_any a n cap _).mono ?_; rintro e w' ⟨rfl, rfl⟩
  clear hs
  have hdk : DeckAt _ (w1.heap.size + 1) := (show ((w1.alloc (.cells #[.string s] 9)).heap.size = w1.heap.size + 1) by simp) ▸ deck_law (w1 := w1.alloc (.cells #[.string s] 9)) (cap := cap) hn HR.out (HB.out.alloc HB.out.size _)
  have Hdk := Lib.hid hdk; clear hdk
  go_wp2_with fail
  refine (date_any (w1.heap.size + 1) _ (by simpa using Hdk.out)).mono ?_
  rintro e w2 ⟨y, m, d, rfl, bd, mv⟩
  have MV := Lib.hid mv; clear mv
  have hx := Lib.hid (MV.out.blk (by omega) (blk_old (blk_old X.out))); clear X X0 X1 X2; have X := hx; clear hx
  have hy := Lib.hid (MV.out.blk (by omega) (blk_old (blk_old Y.out))); clear Y Y0 Y1 Y2; have Y := hy; clear hy
  have z1 := HB.out.size
  have HB2 := Lib.hid (MV.out.base ((HB.out.alloc z1 _).alloc (by simp; omega) _) (by omega)); clear HB
  go_wp2_with fail
  refine (date_any (w1.heap.size + 1) _ MV.out.deck).mono ?_
  rintro e w3 ⟨y', m', d', rfl, bd', mv⟩
  have MV3 := Lib.hid mv; clear mv
  have hx := Lib.hid (MV3.out.blk (by omega) X.out); clear X; have X := hx; clear hx
  have hy := Lib.hid (MV3.out.blk (by omega) Y.out); clear Y; have Y := hy; clear hy
  have HB := Lib.hid (HB2.out.trans ⟨MV3.out.grown.os, MV3.out.grown.tape, MV3.out.grown.output, MV3.out.grown.size, fun k hk => MV3.out.grown.block k (by have := MV3.out.lt; omega) (by simp; omega)⟩); clear HB2
  have DK := Lib.hid MV3.out.deck; have zD := DK.out.lt; clear MV MV3
  have z3 := HB.out.size
  have zX3 := lt_of_blk X.out; have zY3 := lt_of_blk Y.out
  obtain ⟨X0, X1, X2⟩ := cells3 X.out
  obtain ⟨Y0, Y1, Y2⟩ := cells3 Y.out
  go_wp2_with fail
  refine wp_world (fun wS hS => ?_)
  have zS : wS.heap.size = w3.heap.size + 3 := by rw [hS]; simp
  have XS := Lib.hid (show wS.heap[w.heap.size]? = some (dC ry rm rd) by rw [hS]; exact blk_old (blk_old (blk_old X.out)))
  have YS := Lib.hid (show wS.heap[w.heap.size + 1]? = some (dC ay am ad) by rw [hS]; exact blk_old (blk_old (blk_old Y.out)))
  have AS := Lib.hid (show wS.heap[w3.heap.size]? = some (dC y m d) by rw [hS]; exact blk_old (blk_old (blk_new rfl)))
  have BS := Lib.hid (show wS.heap[w3.heap.size + 1]? = some (dC y' m' d') by rw [hS]; exact blk_old (blk_new (by simp)))
  have PS := Lib.hid (show wS.heap[w3.heap.size + 1 + 1]? = some (.cells #[.int .i64 ry, .int .i64 rm, .int .i64 rd, .int .i64 y, .int .i64 m, .int .i64 d] 28 (0, 0)) by rw [hS]; exact blk_new (by simp))
  have HBS := Lib.hid (show Below w.heap.size w wS by rw [hS]; exact ((HB.out.alloc z3 _).alloc (by simp; omega) _).alloc (by simp; omega) _)
  have DKS := Lib.hid (show DeckAt wS (w1.heap.size + 1) by rw [hS]; exact DK.out.below ((((Below.refl _ _).alloc (Nat.le_refl _) _).alloc (by simp) _).alloc (by simp; omega) _))
  clear hS X X0 X1 X2 Y Y0 Y1 Y2 HB DK zX zY zX3 zY3 Hdk
  go_loopw [75] (fun t wr => ∃ k : Nat, k ≤ 2 ∧ t = .int .i64 k ∧ Below wS.heap.size wS wr) (fun t _ => 2 - (intOf t).toNat)
  case atStart => exact ⟨0, by omega, rfl, Below.refl _ _⟩
  case round =>
    obtain ⟨k, hk, rfl, hbr⟩ := hrel
    by_cases hlt : k < 2
    · obtain ⟨py, pm, pd, e0, e1, e2⟩ := row_three [ry, rm, rd, y, m, d] rfl (blk_below hbr (by omega) PS.out) k (by simp; omega)
      obtain ⟨Y0, Y1, Y2⟩ := cells3 (blk_below hbr (by omega) YS.out)
      obtain ⟨A0, A1, A2⟩ := cells3 (blk_below hbr (by omega) AS.out)
      obtain ⟨B0, B1, B2⟩ := cells3 (blk_below hbr (by omega) BS.out)
      have zr := hbr.size
      have hk2 : decide ((k : Int) < 2) = true := by simp; omega
      have y1 : w.heap.size + 1 < wr.heap.size := by omega
      have y2 : w3.heap.size < wr.heap.size := by omega
      have y3 : w3.heap.size + 1 < wr.heap.size := by omega
      have R1 := Lib.hid hbr; clear hbr
      go_wp2_with fail
      refine wp_world (fun wT hT => ?_)
      have zT : wT.heap.size = wr.heap.size + 2 := by rw [hT]; simp
      have ET := Lib.hid (show wT.heap[wr.heap.size]? = some (dC py pm pd) by rw [hT]; exact blk_old (blk_new rfl))
      have QT := Lib.hid (show wT.heap[wr.heap.size + 1]? = some (.cells #[.int .i64 ay, .int .i64 am, .int .i64 ad, .int .i64 y', .int .i64 m', .int .i64 d', .int .i64 y, .int .i64 m, .int .i64 d] 28 (0, 0)) by rw [hT]; exact blk_new (by simp))
      have RT := Lib.hid (show Below wS.heap.size wS wT by rw [hT]; exact (R1.out.alloc zr _).alloc (by simp; omega) _)
      clear hT e0 e1 e2 Y0 Y1 Y2 A0 A1 A2 B0 B1 B2 y1 y2 y3 R1
      obtain ⟨wu, rfl⟩ : ∃ wu : World, wu = wr := ⟨_, rfl⟩
      go_loopw [84] (fun t wr => ∃ j : Nat, j ≤ 3 ∧ t = .int .i64 j ∧ Below wT.heap.size wT wr) (fun t _ => 3 - (intOf t).toNat)
      case atStart => exact ⟨0, by omega, rfl, Below.refl _ _⟩
      case round =>
        obtain ⟨j, hj, rfl, hbu⟩ := hrel
        by_cases hjl : j < 3
        · obtain ⟨qy, qm, qd, e0, e1, e2⟩ := row_three [ay, am, ad, y', m', d', y, m, d] rfl (blk_below hbu (by omega) QT.out) j (by simp; omega)
          have X := Lib.hid (blk_below hbu (by omega) ET.out)
          obtain ⟨X0, X1, X2⟩ := cells3 X.out; have zX := lt_of_blk X.out
          have HB := Lib.hid hbu; clear hbu
          obtain ⟨an, ae, hage⟩ := ageV_tuple py pm pd qy qm qd
          have K1 := fun w => Lib.hid (age_any py pm pd qy qm qd w); simp only [hage] at K1
          have K2 := fun w => Lib.hid (rage_any py pm pd qy qm qd w); simp only [hage] at K2
          clear hage
          go_wp2_with fail
          refine ((K1 _).out).mono ?_; rintro e w4 ⟨rfl, hb⟩
          have hx := Lib.hid (blk_below (b := wu.heap.size) hb (by first | omega | (simp; done) | (simp; omega)) (by first | exact X.out | exact blk_old X.out | exact blk_old (blk_old X.out) | exact blk_old (blk_old (blk_old X.out))))
          clear X X0 X1 X2 zX; have X := hx; clear hx
          have Q := Lib.hid (blk_below (b := wr.heap.size) hb (by first | omega | (simp; done) | (simp; omega)) (by first | exact blk_new rfl | exact blk_old (blk_new rfl) | exact blk_new (by simp) | exact blk_old (blk_new (by simp)) | exact blk_old (blk_old (blk_new rfl))))
          have hx := Lib.hid (by first | exact HB.out.trans (hb.mono HB.out.size) | exact (HB.out.alloc HB.out.size _).trans (hb.mono (by have := HB.out.size; first | omega | (simp; done) | (simp; omega))) | exact ((HB.out.alloc HB.out.size _).alloc (by have := HB.out.size; first | omega | (simp; done) | (simp; omega)) _).trans (hb.mono (by have := HB.out.size; first | omega | (simp; done) | (simp; omega))) : Below wT.heap.size wT w4); clear HB hb; have HB := hx; clear hx
          obtain ⟨X0, X1, X2⟩ := cells3 X.out; have zX := lt_of_blk X.out
          obtain ⟨Q0, Q1, Q2⟩ := cells3 Q.out; have zQ := lt_of_blk Q.out
          go_wp2_with fail
          refine ((K2 _).out).mono ?_; rintro e w5 ⟨rfl, hb⟩
          have hx := Lib.hid (blk_below (b := wu.heap.size) hb (by first | omega | (simp; done) | (simp; omega)) (by first | exact X.out | exact blk_old X.out | exact blk_old (blk_old X.out) | exact blk_old (blk_old (blk_old X.out))))
          clear X X0 X1 X2 zX; have X := hx; clear hx
          have hx := Lib.hid (blk_below (b := wr.heap.size) hb (by first | omega | (simp; done) | (simp; omega)) (by first | exact Q.out | exact blk_old Q.out | exact blk_old (blk_old Q.out) | exact blk_old (blk_old (blk_old Q.out))))
          clear Q Q0 Q1 Q2 zQ; have Q := hx; clear hx
          have hx := Lib.hid (by first | exact HB.out.trans (hb.mono HB.out.size) | exact (HB.out.alloc HB.out.size _).trans (hb.mono (by have := HB.out.size; first | omega | (simp; done) | (simp; omega))) | exact ((HB.out.alloc HB.out.size _).alloc (by have := HB.out.size; first | omega | (simp; done) | (simp; omega)) _).trans (hb.mono (by have := HB.out.size; first | omega | (simp; done) | (simp; omega))) : Below wT.heap.size wT w5); clear HB hb; have HB := hx; clear hx
          obtain ⟨X0, X1, X2⟩ := cells3 X.out; have zX := lt_of_blk X.out
          obtain ⟨Q0, Q1, Q2⟩ := cells3 Q.out; have zQ := lt_of_blk Q.out
          go_wp2_with fail
          go_roundw
          case rel => exact ⟨j + 1, by omega, by go_num, HB.out⟩
          case measure => simp [intOf]; omega
        · have X := Lib.hid (blk_below hbu (by omega) ET.out)
          obtain ⟨X0, X1, X2⟩ := cells3 X.out; have zX := lt_of_blk X.out
          have HB := Lib.hid (RT.out.trans (hbu.mono RT.out.size)); clear hbu
          obtain ⟨sa, sb, sc, sq, hsw⟩ := swV_tuple py pm pd
          have K5 := fun w => Lib.hid (swapped_any py pm pd w); simp only [hsw] at K5
          have K6 := fun w => Lib.hid (rswapped_any py pm pd w); simp only [hsw] at K6
          clear hsw
          go_wp2_with fail
          refine (format_any py pm pd _).mono ?_; rintro e w4 ⟨rfl, hb⟩
          have hx := Lib.hid (blk_below (b := wu.heap.size) hb (by first | omega | (simp; done) | (simp; omega)) (by first | exact X.out | exact blk_old X.out | exact blk_old (blk_old X.out) | exact blk_old (blk_old (blk_old X.out))))
          clear X X0 X1 X2 zX; have X := hx; clear hx
          have hx := Lib.hid (by first | exact HB.out.trans (hb.mono HB.out.size) | exact (HB.out.alloc HB.out.size _).trans (hb.mono (by have := HB.out.size; first | omega | (simp; done) | (simp; omega))) | exact ((HB.out.alloc HB.out.size _).alloc (by have := HB.out.size; first | omega | (simp; done) | (simp; omega)) _).trans (hb.mono (by have := HB.out.size; first | omega | (simp; done) | (simp; omega))) : Below wS.heap.size wS w4); clear HB hb; have HB := hx; clear hx
          obtain ⟨X0, X1, X2⟩ := cells3 X.out; have zX := lt_of_blk X.out
          go_wp2_with fail
          refine (rformat_any py pm pd _).mono ?_; rintro e w5 ⟨rfl, hb⟩
          have hx := Lib.hid (blk_below (b := wu.heap.size) hb (by first | omega | (simp; done) | (simp; omega)) (by first | exact X.out | exact blk_old X.out | exact blk_old (blk_old X.out) | exact blk_old (blk_old (blk_old X.out))))
          clear X X0 X1 X2 zX; have X := hx; clear hx
          have hx := Lib.hid (by first | exact HB.out.trans (hb.mono HB.out.size) | exact (HB.out.alloc HB.out.size _).trans (hb.mono (by have := HB.out.size; first | omega | (simp; done) | (simp; omega))) | exact ((HB.out.alloc HB.out.size _).alloc (by have := HB.out.size; first | omega | (simp; done) | (simp; omega)) _).trans (hb.mono (by have := HB.out.size; first | omega | (simp; done) | (simp; omega))) : Below wS.heap.size wS w5); clear HB hb; have HB := hx; clear hx
          obtain ⟨X0, X1, X2⟩ := cells3 X.out; have zX := lt_of_blk X.out
          go_wp2_with fail
          refine (day_any py pm pd _).mono ?_; rintro e w6 ⟨rfl, hb⟩
          have hx := Lib.hid (blk_below (b := wu.heap.size) hb (by first | omega | (simp; done) | (simp; omega)) (by first | exact X.out | exact blk_old X.out | exact blk_old (blk_old X.out) | exact blk_old (blk_old (blk_old X.out))))
          clear X X0 X1 X2 zX; have X := hx; clear hx
          have hx := Lib.hid (by first | exact HB.out.trans (hb.mono HB.out.size) | exact (HB.out.alloc HB.out.size _).trans (hb.mono (by have := HB.out.size; first | omega | (simp; done) | (simp; omega))) | exact ((HB.out.alloc HB.out.size _).alloc (by have := HB.out.size; first | omega | (simp; done) | (simp; omega)) _).trans (hb.mono (by have := HB.out.size; first | omega | (simp; done) | (simp; omega))) : Below wS.heap.size wS w6); clear HB hb; have HB := hx; clear hx
          obtain ⟨X0, X1, X2⟩ := cells3 X.out; have zX := lt_of_blk X.out
          go_wp2_with fail
          refine (rday_any py pm pd _).mono ?_; rintro e w7 ⟨rfl, hb⟩
          have hx := Lib.hid (blk_below (b := wu.heap.size) hb (by first | omega | (simp; done) | (simp; omega)) (by first | exact X.out | exact blk_old X.out | exact blk_old (blk_old X.out) | exact blk_old (blk_old (blk_old X.out))))
          clear X X0 X1 X2 zX; have X := hx; clear hx
          have hx := Lib.hid (by first | exact HB.out.trans (hb.mono HB.out.size) | exact (HB.out.alloc HB.out.size _).trans (hb.mono (by have := HB.out.size; first | omega | (simp; done) | (simp; omega))) | exact ((HB.out.alloc HB.out.size _).alloc (by have := HB.out.size; first | omega | (simp; done) | (simp; omega)) _).trans (hb.mono (by have := HB.out.size; first | omega | (simp; done) | (simp; omega))) : Below wS.heap.size wS w7); clear HB hb; have HB := hx; clear hx
          obtain ⟨X0, X1, X2⟩ := cells3 X.out; have zX := lt_of_blk X.out
          go_wp2_with fail
          refine ((K5 _).out).mono ?_; rintro e w8 ⟨rfl, hb⟩
          have hx := Lib.hid (blk_below (b := wu.heap.size) hb (by first | omega | (simp; done) | (simp; omega)) (by first | exact X.out | exact blk_old X.out | exact blk_old (blk_old X.out) | exact blk_old (blk_old (blk_old X.out))))
          clear X X0 X1 X2 zX; have X := hx; clear hx
          have hx := Lib.hid (by first | exact HB.out.trans (hb.mono HB.out.size) | exact (HB.out.alloc HB.out.size _).trans (hb.mono (by have := HB.out.size; first | omega | (simp; done) | (simp; omega))) | exact ((HB.out.alloc HB.out.size _).alloc (by have := HB.out.size; first | omega | (simp; done) | (simp; omega)) _).trans (hb.mono (by have := HB.out.size; first | omega | (simp; done) | (simp; omega))) : Below wS.heap.size wS w8); clear HB hb; have HB := hx; clear hx
          obtain ⟨X0, X1, X2⟩ := cells3 X.out; have zX := lt_of_blk X.out
          go_wp2_with fail
          refine ((K6 _).out).mono ?_; rintro e w9 ⟨rfl, hb⟩
          have hx := Lib.hid (blk_below (b := wu.heap.size) hb (by first | omega | (simp; done) | (simp; omega)) (by first | exact X.out | exact blk_old X.out | exact blk_old (blk_old X.out) | exact blk_old (blk_old (blk_old X.out))))
          clear X X0 X1 X2 zX; have X := hx; clear hx
          have Q := Lib.hid (blk_below (b := w8.heap.size) hb (by first | omega | (simp; done) | (simp; omega)) (by first | exact blk_new rfl | exact blk_old (blk_new rfl) | exact blk_new (by simp) | exact blk_old (blk_new (by simp)) | exact blk_old (blk_old (blk_new rfl))))
          have hx := Lib.hid (by first | exact HB.out.trans (hb.mono HB.out.size) | exact (HB.out.alloc HB.out.size _).trans (hb.mono (by have := HB.out.size; first | omega | (simp; done) | (simp; omega))) | exact ((HB.out.alloc HB.out.size _).alloc (by have := HB.out.size; first | omega | (simp; done) | (simp; omega)) _).trans (hb.mono (by have := HB.out.size; first | omega | (simp; done) | (simp; omega))) : Below wS.heap.size wS w9); clear HB hb; have HB := hx; clear hx
          obtain ⟨X0, X1, X2⟩ := cells3 X.out; have zX := lt_of_blk X.out
          obtain ⟨Q0, Q1, Q2⟩ := cells3 Q.out; have zQ := lt_of_blk Q.out
          have HK := Lib.hid (show ((k : Int) + 1 = ((k + 1 : Nat) : Int)) by omega)
          go_wp2_with fail
          refine wp_world (fun wV hV => ?_)
          have XV := Lib.hid (show wV.heap[wu.heap.size]? = some (dC py pm pd) by rw [hV]; exact blk_old X.out)
          have QV := Lib.hid (show wV.heap[w8.heap.size]? = some (dC sa sb sc) by rw [hV]; exact blk_old Q.out)
          have ZV := Lib.hid (show wV.heap[w9.heap.size]? = some (dC sa sb sc) by rw [hV]; exact blk_new rfl)
          have HV := Lib.hid (show Below wS.heap.size wS wV by rw [hV]; exact HB.out.alloc HB.out.size _)
          clear hV X X0 X1 X2 zX Q Q0 Q1 Q2 zQ HB
          obtain ⟨X0, X1, X2⟩ := cells3 XV.out; have zXV := lt_of_blk XV.out
          obtain ⟨Q0, Q1, Q2⟩ := cells3 QV.out; have zQV := lt_of_blk QV.out
          obtain ⟨Z0, Z1, Z2⟩ := cells3 ZV.out; have zZV := lt_of_blk ZV.out
          go_region_held3 (fun w' => w'.cell? ⟨wu.heap.size, 0, none⟩ = some (.int .i64 py) ∧ w'.cell? ⟨wu.heap.size, 1, none⟩ = some (.int .i64 pm) ∧ w'.cell? ⟨wu.heap.size, 2, none⟩ = some (.int .i64 pd) ∧ w'.cell? ⟨w8.heap.size, 0, none⟩ = some (.int .i64 sa) ∧ w'.cell? ⟨w8.heap.size, 1, none⟩ = some (.int .i64 sb) ∧ w'.cell? ⟨w8.heap.size, 2, none⟩ = some (.int .i64 sc) ∧ w'.cell? ⟨w9.heap.size, 0, none⟩ = some (.int .i64 sa) ∧ w'.cell? ⟨w9.heap.size, 1, none⟩ = some (.int .i64 sb) ∧ w'.cell? ⟨w9.heap.size, 2, none⟩ = some (.int .i64 sc)) (first | exact ⟨X0, X1, X2, Q0, Q1, Q2, Z0, Z1, Z2⟩ | exact ⟨X0b, X1b, X2b, Q0b, Q1b, Q2b, Z0b, Z1b, Z2b⟩ | exact ⟨X0a, X1a, X2a, Q0a, Q1a, Q2a, Z0a, Z1a, Z2a⟩)
            (first
             | (go_at_call 15; refine (valid_any _ _ _ _).mono ?_; rintro e w10 ⟨rfl, hb10⟩; have X0a := (hb10.cell (p := ⟨wu.heap.size, 0, none⟩) zXV).trans X0; have X1a := (hb10.cell (p := ⟨wu.heap.size, 1, none⟩) zXV).trans X1; have X2a := (hb10.cell (p := ⟨wu.heap.size, 2, none⟩) zXV).trans X2; have Q0a := (hb10.cell (p := ⟨w8.heap.size, 0, none⟩) zQV).trans Q0; have Q1a := (hb10.cell (p := ⟨w8.heap.size, 1, none⟩) zQV).trans Q1; have Q2a := (hb10.cell (p := ⟨w8.heap.size, 2, none⟩) zQV).trans Q2; have Z0a := (hb10.cell (p := ⟨w9.heap.size, 0, none⟩) zZV).trans Z0; have Z1a := (hb10.cell (p := ⟨w9.heap.size, 1, none⟩) zZV).trans Z1; have Z2a := (hb10.cell (p := ⟨w9.heap.size, 2, none⟩) zZV).trans Z2;  have zX10 : wu.heap.size < w10.heap.size := Nat.lt_of_lt_of_le zXV hb10.size; have zQ10 : w8.heap.size < w10.heap.size := Nat.lt_of_lt_of_le zQV hb10.size; have zZ10 : w9.heap.size < w10.heap.size := Nat.lt_of_lt_of_le zZV hb10.size; have H10 := Lib.hid (HV.out.drew.trans (hb10.mono HV.out.size)))
             | (go_at_call 27; refine (rvalid_any _ _ _ _).mono ?_; rintro e w11 ⟨rfl, hb11⟩; have X0b := (hb11.cell (p := ⟨wu.heap.size, 0, none⟩) zX10).trans X0a; have X1b := (hb11.cell (p := ⟨wu.heap.size, 1, none⟩) zX10).trans X1a; have X2b := (hb11.cell (p := ⟨wu.heap.size, 2, none⟩) zX10).trans X2a; have Q0b := (hb11.cell (p := ⟨w8.heap.size, 0, none⟩) zQ10).trans Q0a; have Q1b := (hb11.cell (p := ⟨w8.heap.size, 1, none⟩) zQ10).trans Q1a; have Q2b := (hb11.cell (p := ⟨w8.heap.size, 2, none⟩) zQ10).trans Q2a; have Z0b := (hb11.cell (p := ⟨w9.heap.size, 0, none⟩) zZ10).trans Z0a; have Z1b := (hb11.cell (p := ⟨w9.heap.size, 1, none⟩) zZ10).trans Z1a; have Z2b := (hb11.cell (p := ⟨w9.heap.size, 2, none⟩) zZ10).trans Z2a;  have H11 := Lib.hid (H10.out.trans (hb11.mono H10.out.size))))
          go_wp2_with fail
          go_roundw
          case rel => exact ⟨k + 1, by omega, by go_num, H11.out⟩
          case measure => simp [intOf]; omega
    · have HB := Lib.hid (HBS.out.trans (hbr.mono HBS.out.size))
      have AR := Lib.hid (blk_below hbr (by omega) AS.out)
      have DR := Lib.hid (DKS.out.below hbr)
      obtain ⟨A0, A1, A2⟩ := cells3 AR.out; have zA := lt_of_blk AR.out
      have hb400 : ¬ ((k : Int) < 2) := by omega
      clear hbr PS BS YS XS AS DKS HBS
      go_wp2_with fail
      refine wp_region_noPanic ?_
      refine wp_region_held_drew (S := (fun w' => w'.cell? ⟨w3.heap.size, 0, none⟩ = some (.int .i64 y) ∧ w'.cell? ⟨w3.heap.size, 1, none⟩ = some (.int .i64 m) ∧ w'.cell? ⟨w3.heap.size, 2, none⟩ = some (.int .i64 d))) (by kernel_rfl) (⟨by simpa using A0, by simpa using A1, by simpa using A2⟩) (fun hHeld => ?_)
      refine wpAnyH_take (i := 0) (v := ?_) rfl (by kernel_rfl) (by kernel_rfl) (by kernel_rfl) (fun _ _ _ h => h) (Or.inl ⟨by rfl, ?_⟩) (by assumption) ?_
      rotate_left 1
      · (intro wS hSw; (try dsimp only at hSw); go_simp; try with_reducible rfl)
      try simp only [List.getElem_toArray, List.getElem_cons_zero, List.getElem_cons_succ, Act.put, List.setIfInBounds_toArray, List.set_cons_zero, List.set_cons_succ]
      refine wpAnyH_take (i := 1) (v := ?_) rfl (by kernel_rfl) (by kernel_rfl) (by kernel_rfl) (fun _ _ _ h => h) (Or.inl ⟨by rfl, ?_⟩) (by assumption) ?_
      rotate_left 1
      · (intro wS hSw; (try dsimp only at hSw); go_simp; try with_reducible rfl)
      try simp only [List.getElem_toArray, List.getElem_cons_zero, List.getElem_cons_succ, Act.put, List.setIfInBounds_toArray, List.set_cons_zero, List.set_cons_succ]
      refine wpAnyH_ready (rs := [2]) (by kernel_rfl) (by simp) ?_
      refine AllReadyH.cons rfl (fun K hK => ?_) AllReadyH.nil
      go_simp
      refine (next_any (w1.heap.size + 1) _ _ (DR.out.below (Below.refl _ _).drew) (by omega) (by omega)).mono ?_; rintro e w4 ⟨f, rfl, f0, f1, mv⟩; have M4 := Lib.hid ((Moved.start DR.out).drew.trans mv); have A4 := Lib.hid (mv.blk (by omega) AR.out); clear mv A0 A1 A2; obtain ⟨A0, A1, A2⟩ := cells3 A4.out
      refine hK.out _ _ (⟨A0, A1, A2⟩) (fun hHeld => ?_)
      clear hK K
      try simp only [List.getElem_toArray, List.getElem_cons_zero, List.getElem_cons_succ, Act.put, List.setIfInBounds_toArray, List.set_cons_zero, List.set_cons_succ]
      refine wpAnyH_ready (rs := [3]) (by kernel_rfl) (by simp) ?_
      refine AllReadyH.cons rfl (fun K hK => ?_) AllReadyH.nil
      go_simp
      refine (written_any y m d f _ bd ⟨f0, by omega⟩).mono ?_; rintro e w5 ⟨rfl, hb⟩; have M5 := Lib.hid (M4.out.below hb); have A5 := Lib.hid (blk_below hb (lt_of_blk A4.out) A4.out); clear A0 A1 A2; obtain ⟨A0, A1, A2⟩ := cells3 A5.out; clear hb
      refine hK.out _ _ (⟨A0, A1, A2⟩) (fun hHeld => ?_)
      clear hK K
      try simp only [List.getElem_toArray, List.getElem_cons_zero, List.getElem_cons_succ, Act.put, List.setIfInBounds_toArray, List.set_cons_zero, List.set_cons_succ]
      refine wpAnyH_take (i := 4) (v := ?_) rfl (by kernel_rfl) (by kernel_rfl) (by kernel_rfl) (fun _ _ _ h => h) (Or.inl ⟨by rfl, ?_⟩) (by assumption) ?_
      rotate_left 1
      · (intro wS hSw; (try dsimp only at hSw); go_simp; try with_reducible rfl)
      try simp only [List.getElem_toArray, List.getElem_cons_zero, List.getElem_cons_succ, Act.put, List.setIfInBounds_toArray, List.set_cons_zero, List.set_cons_succ]
      refine wpAnyH_done (by kernel_rfl) ?_ _
      refine NoPanic.normal ?_
      have hwl := written_len y m d f
      generalize writtenL y m d f = L at *
      clear A0 A1 A2 A5 A4 M4 AR zA
      go_wp2_with fail
      go_region_held3 (fun _ => True) (trivial)
        (first
         | (go_at_call 29; refine (mod_some v 11 _ hv.1 hv.2 (by omega) (by omega)).mono ?_; rintro e w' ⟨r, rfl, hr11, rfl⟩; have hr10 : (r : Int) ≤ 10 := (by omega); have hr0 : (0 : Int) ≤ r := (by omega))
         | (go_at_call 30; refine (pick_any (w1.heap.size + 1) _ _ 6 6 ((M5.out.drew.alloc _).deck) (by omega) (by omega) (by have := M5.out.deck.lt; simp; omega) _ _ (blk_new rfl) (by intro i hi; have : i = 0 ∨ i = 1 ∨ i = 2 ∨ i = 3 ∨ i = 4 ∨ i = 5 := (by omega); rcases this with rfl | rfl | rfl | rfl | rfl | rfl <;> exact ⟨_, rfl⟩)).mono ?_; rintro e w6 ⟨ps, rfl, mv⟩))
      all_goals
        have M6 := Lib.hid ((M5.out.drew.alloc _).trans mv); clear mv
        have HB6 := Lib.hid (M6.out.base HB.out (by omega))
        clear M5
        go_wp2_with fail
        refine wp_world (fun wT hT => ?_)
        have HT := Lib.hid (show Below w.heap.size w wT by rw [hT]; exact HB6.out.alloc HB6.out.size _)
        have DT := Lib.hid (show DeckAt wT (w1.heap.size + 1) by rw [hT]; exact (M6.out.alloc _).deck)
        have ST := Lib.hid (show ∀ wr, Below wT.heap.size wT wr → ∀ k, k < 5 → ∃ s : ByteArray, wr.cell? ⟨w6.heap.size, k, none⟩ = some (.string s) from fun wr hb k hk => row_str [s, ⟨L.toArray⟩, _, _, ps] rfl (blk_below hb (by rw [hT]; simp) (by rw [hT]; exact blk_new rfl)) k hk)
        clear hT M6 HB6
        go_loopw [192] (fun t wr => ∃ k : Nat, k ≤ 5 ∧ t = .int .i64 k ∧ Below wT.heap.size wT wr) (fun t _ => 5 - (intOf t).toNat)
        case atStart => exact ⟨0, by omega, rfl, Below.refl _ _⟩
        case round =>
          obtain ⟨j, hj, rfl, hbr⟩ := hrel
          by_cases hjl : j < 5
          · obtain ⟨str, hstr⟩ := ST.out wr hbr j hjl
            have HB := Lib.hid hbr; clear hbr
            obtain ⟨pa, pb, pc, pe, hp⟩ := parseV_tuple str
            obtain ⟨qa, qb, qc, qe, hq⟩ := readV_tuple str
            have K1 := fun w => Lib.hid (parse_any str w); simp only [hp] at K1
            have K2 := fun w => Lib.hid (rparse_any str w); simp only [hp] at K2
            have K3 : ∀ w, Hid (Calls Try.prog 18 #[.string str] w fun e w' => e = .returned (readV str) ∧ Below w.heap.size w w') := fun w => read_any str w
            have K4 : ∀ w, Hid (Calls Try.prog 32 #[.string str] w fun e w' => e = .returned (readV str) ∧ Below w.heap.size w w') := fun w => rread_any str w
            simp only [hq] at K3 K4
            clear hp hq
            go_wp2_with fail
            refine ((K1 _).out).mono ?_; rintro e w7 ⟨rfl, hb⟩
            have hx := Lib.hid (by first | exact HB.out.trans (hb.mono HB.out.size) | exact (HB.out.alloc HB.out.size _).trans (hb.mono (by have := HB.out.size; first | omega | (simp; done) | (simp; omega))) | exact ((HB.out.alloc HB.out.size _).alloc (by have := HB.out.size; first | omega | (simp; done) | (simp; omega)) _).trans (hb.mono (by have := HB.out.size; first | omega | (simp; done) | (simp; omega))) : Below wT.heap.size wT w7); clear HB hb; have HB := hx; clear hx
            go_wp2_with fail
            refine ((K2 _).out).mono ?_; rintro e w8 ⟨rfl, hb⟩
            have X := Lib.hid (blk_below (b := w7.heap.size) hb (by first | omega | (simp; done) | (simp; omega)) (by first | exact blk_new rfl | exact blk_old (blk_new rfl) | exact blk_new (by simp) | exact blk_old (blk_new (by simp)) | exact blk_old (blk_old (blk_new rfl))))
            have hx := Lib.hid (by first | exact HB.out.trans (hb.mono HB.out.size) | exact (HB.out.alloc HB.out.size _).trans (hb.mono (by have := HB.out.size; first | omega | (simp; done) | (simp; omega))) | exact ((HB.out.alloc HB.out.size _).alloc (by have := HB.out.size; first | omega | (simp; done) | (simp; omega)) _).trans (hb.mono (by have := HB.out.size; first | omega | (simp; done) | (simp; omega))) : Below wT.heap.size wT w8); clear HB hb; have HB := hx; clear hx
            obtain ⟨X0, X1, X2⟩ := cells3 X.out; have zX := lt_of_blk X.out
            go_wp2_with fail
            refine ((K3 _).out).mono ?_; rintro e w9 ⟨rfl, hb⟩
            have hx := Lib.hid (blk_below (b := w7.heap.size) hb (by first | omega | (simp; done) | (simp; omega)) (by first | exact X.out | exact blk_old X.out | exact blk_old (blk_old X.out) | exact blk_old (blk_old (blk_old X.out))))
            clear X X0 X1 X2 zX; have X := hx; clear hx
            have Y := Lib.hid (blk_below (b := w8.heap.size) hb (by first | omega | (simp; done) | (simp; omega)) (by first | exact blk_new rfl | exact blk_old (blk_new rfl) | exact blk_new (by simp) | exact blk_old (blk_new (by simp)) | exact blk_old (blk_old (blk_new rfl))))
            have hx := Lib.hid (by first | exact HB.out.trans (hb.mono HB.out.size) | exact (HB.out.alloc HB.out.size _).trans (hb.mono (by have := HB.out.size; first | omega | (simp; done) | (simp; omega))) | exact ((HB.out.alloc HB.out.size _).alloc (by have := HB.out.size; first | omega | (simp; done) | (simp; omega)) _).trans (hb.mono (by have := HB.out.size; first | omega | (simp; done) | (simp; omega))) : Below wT.heap.size wT w9); clear HB hb; have HB := hx; clear hx
            obtain ⟨X0, X1, X2⟩ := cells3 X.out; have zX := lt_of_blk X.out
            obtain ⟨Y0, Y1, Y2⟩ := cells3 Y.out; have zY := lt_of_blk Y.out
            go_wp2_with fail
            refine ((K4 _).out).mono ?_; rintro e w10 ⟨rfl, hb⟩
            have hx := Lib.hid (blk_below (b := w7.heap.size) hb (by first | omega | (simp; done) | (simp; omega)) (by first | exact X.out | exact blk_old X.out | exact blk_old (blk_old X.out) | exact blk_old (blk_old (blk_old X.out))))
            clear X X0 X1 X2 zX; have X := hx; clear hx
            have hx := Lib.hid (blk_below (b := w8.heap.size) hb (by first | omega | (simp; done) | (simp; omega)) (by first | exact Y.out | exact blk_old Y.out | exact blk_old (blk_old Y.out) | exact blk_old (blk_old (blk_old Y.out))))
            clear Y Y0 Y1 Y2 zY; have Y := hx; clear hx
            have Z := Lib.hid (blk_below (b := w9.heap.size) hb (by first | omega | (simp; done) | (simp; omega)) (by first | exact blk_new rfl | exact blk_old (blk_new rfl) | exact blk_new (by simp) | exact blk_old (blk_new (by simp)) | exact blk_old (blk_old (blk_new rfl))))
            have hx := Lib.hid (by first | exact HB.out.trans (hb.mono HB.out.size) | exact (HB.out.alloc HB.out.size _).trans (hb.mono (by have := HB.out.size; first | omega | (simp; done) | (simp; omega))) | exact ((HB.out.alloc HB.out.size _).alloc (by have := HB.out.size; first | omega | (simp; done) | (simp; omega)) _).trans (hb.mono (by have := HB.out.size; first | omega | (simp; done) | (simp; omega))) : Below wT.heap.size wT w10); clear HB hb; have HB := hx; clear hx
            obtain ⟨X0, X1, X2⟩ := cells3 X.out; have zX := lt_of_blk X.out
            obtain ⟨Y0, Y1, Y2⟩ := cells3 Y.out; have zY := lt_of_blk Y.out
            obtain ⟨Z0, Z1, Z2⟩ := cells3 Z.out; have zZ := lt_of_blk Z.out
            go_wp2_with fail
            go_roundw
            case rel => exact ⟨j + 1, by omega, by go_num, HB.out.alloc HB.out.size _⟩
            case measure => simp [intOf]; omega
          · have HB := Lib.hid (HT.out.trans (hbr.mono HT.out.size))
            have DR := Lib.hid (DT.out.below hbr)
            clear hbr DT HT
            go_wp2_with fail
            refine (next_any (w1.heap.size + 1) _ _ DR.out (by omega) (by omega)).mono ?_
            rintro e w7 ⟨q, rfl, q0, q1, mv⟩
            have HB7 := Lib.hid (mv.base HB.out (by omega)); clear HB mv DR
            go_wp2_with fail
            refine wp_world (fun wV hV => ?_)
            have HV := Lib.hid (show Below w.heap.size w wV by rw [hV]; exact HB7.out.alloc HB7.out.size _)
            have SV := Lib.hid (show ∀ wr, Below wV.heap.size wV wr → ∀ k, k < 2 → ∃ x : Int, wr.cell? ⟨w7.heap.size, k, none⟩ = some (.int .i64 x) ∧ x ≤ 9223372036854775807 from fun wr hb k hk => ⟨_, row_int [v, q - 20000] rfl (blk_below hb (by rw [hV]; simp) (by rw [hV]; exact blk_new rfl)) k hk, by
              have : k = 0 ∨ k = 1 := by omega
              rcases this with rfl | rfl
              · exact hv.2
              · show q - 20000 ≤ _; omega⟩)
            clear hV HB7
            go_loopw [241] (fun t wr => ∃ k : Nat, k ≤ 2 ∧ t = .int .i64 k ∧ Below wV.heap.size wV wr) (fun t _ => 2 - (intOf t).toNat)
            case atStart => exact ⟨0, by omega, rfl, Below.refl _ _⟩
            case round =>
              obtain ⟨i, hi, rfl, hbr⟩ := hrel
              by_cases hil : i < 2
              · obtain ⟨num, hnum, hmax⟩ := SV.out wr hbr i hil
                have HB := Lib.hid hbr; clear hbr
                have K1 := fun w => Lib.hid (from_any num w hmax)
                have K2 := fun w => Lib.hid (rfrom_any num w hmax)
                clear hmax
                go_wp2_with fail
                refine (K1 _).out.mono ?_; rintro e w8 ⟨⟨a1, b1, c1, x1, rfl, hf1⟩, hb⟩
                have hx := Lib.hid (HB.out.trans (hb.mono HB.out.size)); clear HB hb; have HB := hx; clear hx
                go_wp2_with fail
                refine (K2 _).out.mono ?_; rintro e w9 ⟨⟨a2, b2, c2, x2, rfl, hf2⟩, hb⟩
                obtain ⟨e1, e2, e3, e4⟩ := from_same hf1 hf2
                subst e1; subst e2; subst e3; subst e4
                have X := Lib.hid (blk_below (b := w8.heap.size) hb (by simp) (blk_new rfl))
                have hx := Lib.hid ((HB.out.alloc HB.out.size _).trans (hb.mono (by have := HB.out.size; simp; omega))); clear HB hb; have HB := hx; clear hx
                obtain ⟨X0, X1, X2⟩ := cells3 X.out; have zX := lt_of_blk X.out
                clear hf1 hf2 K1 K2
                go_wp2_with fail
                go_roundw
                case rel => exact ⟨i + 1, by omega, by go_num, HB.out.alloc HB.out.size _⟩
                case measure => simp [intOf]; omega
              · have HB := Lib.hid (HV.out.trans (hbr.mono HV.out.size)); clear hbr
                go_wp2_with fail
                go_ret
                exact ⟨rfl, HB.out⟩
set_option maxRecDepth 100000 in
set_option maxHeartbeats 4000000 in
theorem exact_few (a : Option Addr) (n cap : Nat) (ry rm rd ay am ad : Int) (s : ByteArray) (v : Int) (w : World) (hn : ¬ n ≤ 400) :
    Calls Try.prog 8 #[.slice a n cap, .agg #[.int .i64 ry, .int .i64 rm, .int .i64 rd], .agg #[.int .i64 ay, .int .i64 am, .int .i64 ad], .string s, .int .i64 v] w fun e w' => e = .returned (.bool true) ∧ Below w.heap.size w w' := by
  have hd : decide (n ≤ 400) = false := by simpa using hn
  have HB := Lib.hid (Below.refl w.heap.size w)
  clear hn
  go_enter Try.func8, Try.ntmps8
  go_wp2_with fail
  refine (awake_any _).mono ?_; rintro e w1 ⟨rfl, hb⟩
  have X := Lib.hid (blk_below (b := w.heap.size) hb (by first | omega | (simp; done) | (simp; omega)) (by first | exact blk_new rfl | exact blk_old (blk_new rfl) | exact blk_new (by simp) | exact blk_old (blk_new (by simp)) | exact blk_old (blk_old (blk_new rfl))))
  have Y := Lib.hid (blk_below (b := (w.heap.size+1)) hb (by first | omega | (simp; done) | (simp; omega)) (by first | exact blk_new rfl | exact blk_old (blk_new rfl) | exact blk_new (by simp) | exact blk_old (blk_new (by simp)) | exact blk_old (blk_old (blk_new rfl))))
  have hx := Lib.hid (by first | exact HB.out.trans (hb.mono HB.out.size) | exact (HB.out.alloc HB.out.size _).trans (hb.mono (by have := HB.out.size; first | omega | (simp; done) | (simp; omega))) | exact ((HB.out.alloc HB.out.size _).alloc (by have := HB.out.size; first | omega | (simp; done) | (simp; omega)) _).trans (hb.mono (by have := HB.out.size; first | omega | (simp; done) | (simp; omega))) : Below w.heap.size w w1); clear HB hb; have HB := hx; clear hx
  obtain ⟨X0, X1, X2⟩ := cells3 X.out; have zX := lt_of_blk X.out
  obtain ⟨Y0, Y1, Y2⟩ := cells3 Y.out; have zY := lt_of_blk Y.out
  go_wp2_with fail
  refine (few_any a n cap _).mono ?_; rintro e w' ⟨rfl, rfl⟩
  go_wp2_with fail
  refine (awake_any _).mono ?_; rintro e w2 ⟨rfl, hb⟩
  have hx := Lib.hid (blk_below (b := w.heap.size) hb (by first | omega | (simp; done) | (simp; omega)) (by first | exact X.out | exact blk_old X.out | exact blk_old (blk_old X.out) | exact blk_old (blk_old (blk_old X.out))))
  clear X X0 X1 X2 zX; have X := hx; clear hx
  have hx := Lib.hid (blk_below (b := (w.heap.size+1)) hb (by first | omega | (simp; done) | (simp; omega)) (by first | exact Y.out | exact blk_old Y.out | exact blk_old (blk_old Y.out) | exact blk_old (blk_old (blk_old Y.out))))
  clear Y Y0 Y1 Y2 zY; have Y := hx; clear hx
  have hx := Lib.hid (by first | exact HB.out.trans (hb.mono HB.out.size) | exact (HB.out.alloc HB.out.size _).trans (hb.mono (by have := HB.out.size; first | omega | (simp; done) | (simp; omega))) | exact ((HB.out.alloc HB.out.size _).alloc (by have := HB.out.size; first | omega | (simp; done) | (simp; omega)) _).trans (hb.mono (by have := HB.out.size; first | omega | (simp; done) | (simp; omega))) : Below w.heap.size w w2); clear HB hb; have HB := hx; clear hx
  obtain ⟨X0, X1, X2⟩ := cells3 X.out; have zX := lt_of_blk X.out
  obtain ⟨Y0, Y1, Y2⟩ := cells3 Y.out; have zY := lt_of_blk Y.out
  go_wp2_with fail
  go_ret
  exact ⟨rfl, HB.out⟩
set_option maxRecDepth 100000 in
set_option maxHeartbeats 4000000 in
theorem exact_short (a : Option Addr) (n cap : Nat) (ry rm rd ay am ad : Int) (s : ByteArray) (v : Int) (w : World) (hn : n ≤ 400) (hs : ¬ s.size ≤ 200) :
    Calls Try.prog 8 #[.slice a n cap, .agg #[.int .i64 ry, .int .i64 rm, .int .i64 rd], .agg #[.int .i64 ay, .int .i64 am, .int .i64 ad], .string s, .int .i64 v] w fun e w' => e = .returned (.bool true) ∧ Below w.heap.size w w' := by
  have hd : decide (n ≤ 400) = true := by simpa using hn
  have hs : decide (s.size ≤ 200) = false := by simpa using hs
  have HB := Lib.hid (Below.refl w.heap.size w)
  clear hn
  go_enter Try.func8, Try.ntmps8
  go_wp2_with fail
  refine (awake_any _).mono ?_; rintro e w1 ⟨rfl, hb⟩
  have X := Lib.hid (blk_below (b := w.heap.size) hb (by first | omega | (simp; done) | (simp; omega)) (by first | exact blk_new rfl | exact blk_old (blk_new rfl) | exact blk_new (by simp) | exact blk_old (blk_new (by simp)) | exact blk_old (blk_old (blk_new rfl))))
  have Y := Lib.hid (blk_below (b := (w.heap.size+1)) hb (by first | omega | (simp; done) | (simp; omega)) (by first | exact blk_new rfl | exact blk_old (blk_new rfl) | exact blk_new (by simp) | exact blk_old (blk_new (by simp)) | exact blk_old (blk_old (blk_new rfl))))
  have hx := Lib.hid (by first | exact HB.out.trans (hb.mono HB.out.size) | exact (HB.out.alloc HB.out.size _).trans (hb.mono (by have := HB.out.size; first | omega | (simp; done) | (simp; omega))) | exact ((HB.out.alloc HB.out.size _).alloc (by have := HB.out.size; first | omega | (simp; done) | (simp; omega)) _).trans (hb.mono (by have := HB.out.size; first | omega | (simp; done) | (simp; omega))) : Below w.heap.size w w1); clear HB hb; have HB := hx; clear hx
  obtain ⟨X0, X1, X2⟩ := cells3 X.out; have zX := lt_of_blk X.out
  obtain ⟨Y0, Y1, Y2⟩ := cells3 Y.out; have zY := lt_of_blk Y.out
  go_wp2_with fail
  refine (few_any a n cap _).mono ?_; rintro e w' ⟨rfl, rfl⟩
  go_wp2_with fail
  refine (short_one _ s _ _ (by simp)).mono ?_; rintro e w' ⟨rfl, rfl⟩
  go_wp2_with fail
  refine (awake_any _).mono ?_; rintro e w2 ⟨rfl, hb⟩
  have hx := Lib.hid (blk_below (b := w.heap.size) hb (by first | omega | (simp; done) | (simp; omega)) (by first | exact X.out | exact blk_old X.out | exact blk_old (blk_old X.out) | exact blk_old (blk_old (blk_old X.out))))
  clear X X0 X1 X2 zX; have X := hx; clear hx
  have hx := Lib.hid (blk_below (b := (w.heap.size+1)) hb (by first | omega | (simp; done) | (simp; omega)) (by first | exact Y.out | exact blk_old Y.out | exact blk_old (blk_old Y.out) | exact blk_old (blk_old (blk_old Y.out))))
  clear Y Y0 Y1 Y2 zY; have Y := hx; clear hx
  have hx := Lib.hid (by first | exact HB.out.trans (hb.mono HB.out.size) | exact (HB.out.alloc HB.out.size _).trans (hb.mono (by have := HB.out.size; first | omega | (simp; done) | (simp; omega))) | exact ((HB.out.alloc HB.out.size _).alloc (by have := HB.out.size; first | omega | (simp; done) | (simp; omega)) _).trans (hb.mono (by have := HB.out.size; first | omega | (simp; done) | (simp; omega))) : Below w.heap.size w w2); clear HB hb; have HB := hx; clear hx
  obtain ⟨X0, X1, X2⟩ := cells3 X.out; have zX := lt_of_blk X.out
  obtain ⟨Y0, Y1, Y2⟩ := cells3 Y.out; have zY := lt_of_blk Y.out
  go_wp2_with fail
  go_ret
  exact ⟨rfl, HB.out⟩
theorem exact_all (a : Option Addr) (n cap : Nat) (zs : List Int) (ry rm rd ay am ad : Int) (s : ByteArray) (v : Int) (w : World) (hr : IsRow .i64 w a n cap zs) (hv : -9223372036854775808 ≤ v ∧ v ≤ 9223372036854775807) :
    Calls Try.prog 8 #[.slice a n cap, .agg #[.int .i64 ry, .int .i64 rm, .int .i64 rd], .agg #[.int .i64 ay, .int .i64 am, .int .i64 ad], .string s, .int .i64 v] w fun e w' => e = .returned (.bool true) ∧ Below w.heap.size w w' := by
  by_cases hn : n ≤ 400
  · by_cases hs : s.size ≤ 200
    · exact exact_walk a n cap zs ry rm rd ay am ad s v w hr hv hs hn
    · exact exact_short a n cap ry rm rd ay am ad s v w hn hs
  · exact exact_few a n cap ry rm rd ay am ad s v w hn
end Go.Proofs.Ytbibdpoempjcnaa
