/- admission.Enter: the greater numbers of a register and of exposures. -/
import Derived.Test.YtohglcbakepejaaAdmC
import Derived.Test.YtohglcbakepejaaMakeA
set_option linter.unusedSimpArgs false
set_option linter.unusedVariables false
namespace Go.Proofs.Ytohglcbakepejaa
open Go.RowKit
set_option maxHeartbeats 400000 in
theorem exposure_any (k a b c d : Int) (w : World) :
    Calls Try.prog 20 #[.int .i64 k, .agg #[.int .i64 a, .int .i64 b, .int .i64 c, .int .i64 d]] w fun e w' => e = .returned (.agg #[.int .i64 k, .int .i64 a, .int .i64 b, .int .i64 c, .int .i64 d]) ∧ Below w.heap.size w w' := by
  go_enter Try.func20, Try.ntmps20
  go_wp2
  exact bodyPost_row1 rfl rfl (blk_new (by simp)) Try.underlying35 rfl rfl ⟨rfl, ((Below.refl _ _).alloc (Nat.le_refl _) _).alloc (by simp) _⟩
theorem infoEx : (Try.prog.info? 35).map (fun i => (i.zero, i.size, i.bytes)) = some (some (.agg #[.int .i64 0, .int .i64 0, .int .i64 0, .int .i64 0, .int .i64 0]), 5, 40) := by kernel_rfl
/-- the four numbers, the first j of them the greater ones -/
def nst (x y : Ex) : Nat → Array Value
  | 0 => #[.int .i64 x.u, .int .i64 x.h, .int .i64 x.c, .int .i64 x.i]
  | 1 => #[.int .i64 (max x.u y.u), .int .i64 x.h, .int .i64 x.c, .int .i64 x.i]
  | 2 => #[.int .i64 (max x.u y.u), .int .i64 (max x.h y.h), .int .i64 x.c, .int .i64 x.i]
  | 3 => #[.int .i64 (max x.u y.u), .int .i64 (max x.h y.h), .int .i64 (max x.c y.c), .int .i64 x.i]
  | _ => #[.int .i64 (max x.u y.u), .int .i64 (max x.h y.h), .int .i64 (max x.c y.c), .int .i64 (max x.i y.i)]
theorem cells4 {w : World} {b : Nat} {x0 x1 x2 x3 : Value} {t : TypeId} {fr : Nat × Nat} (h : w.heap[b]? = some (.cells #[x0, x1, x2, x3] t fr)) :
    w.cell? ⟨b, 0, none⟩ = some x0 ∧ w.cell? ⟨b, 1, none⟩ = some x1 ∧ w.cell? ⟨b, 2, none⟩ = some x2 ∧ w.cell? ⟨b, 3, none⟩ = some x3 := by
  refine ⟨?_, ?_, ?_, ?_⟩ <;> (rw [cell_of_row _ _ _ _ _ _ h]; rfl)
theorem free4 {w : World} {b : Nat} {cs : Array Value} {t : TypeId} (h : w.heap[b]? = some (.cells cs t (0, 0))) :
    w.frozen? ⟨b, 0, none⟩ = false ∧ w.frozen? ⟨b, 1, none⟩ = false ∧ w.frozen? ⟨b, 2, none⟩ = false ∧ w.frozen? ⟨b, 3, none⟩ = false := ⟨frozen_of_row _ _ _ _ _ h, frozen_of_row _ _ _ _ _ h, frozen_of_row _ _ _ _ _ h, frozen_of_row _ _ _ _ _ h⟩
theorem mx_if (a b : Int) : (if a < b then b else a) = max a b := by rw [Int.max_def]; split <;> split <;> omega
def EnterOk (r : List Ex) (w : World) (e : Ending) (w' : World) : Prop := (∃ v, e = .returned (.tuple #[v, .int .i64 0]) ∧ ExRow w' (fun b => w.heap.size ≤ b) v r) ∧ Below w.heap.size w w'
set_option maxHeartbeats 4000000 in
theorem enter_nil (ua va : Option Addr) (uc vc : Nat) (a l : List Ex) (w : World) (hu : ExRow w (All w) (.slice ua a.length uc) a) (hl : ExRow w (All w) (.slice va l.length vc) l) (hc : check2 l l = 0) (na : a.length ≤ 1000000) (nl : l.length ≤ 1000000) (h0 : a.length = 0) :
    Calls Try.prog 12 #[.slice ua a.length uc, .slice va l.length vc] w (EnterOk (maxAll 0 l l) w) := by
  have KC := fun w h1 h2 => Lib.hid (check2_any (.slice va l.length vc) (.slice va l.length vc) l l w h1 h2 (by omega) nl)
  obtain ⟨hl1, hl2, hl3⟩ := check2_len hc
  rw [hc] at KC
  have HLEN := Lib.hid hl1
  have e1a : l.length ≤ l.length := by omega
  have e1b : l.length ≤ l.length := by omega
  have l5 : l.length ≤ 5 := by omega
  have hz : ((a.length : Int) == 0) = true := by simp [h0]
  clear hl1 hl2 hl3 hc h0
  have HU := Lib.hid hu; clear hu
  have HL := Lib.hid hl; clear hl
  have HB := Lib.hid (Below.refl w.heap.size w)
  go_enter Try.func12, Try.ntmps12
  go_wp2_with fail
  refine ((KC _ HL.out HL.out).out).mono ?_; rintro e w0 ⟨rfl, hb⟩
  have hx := Lib.hid (by first | exact HB.out.trans (hb.mono HB.out.size) | exact (HB.out.alloc HB.out.size _).trans (hb.mono (by have := HB.out.size; first | omega | (simp; done) | (simp; omega))) | exact ((HB.out.alloc HB.out.size _).alloc (by have := HB.out.size; first | omega | (simp; done) | (simp; omega)) _).trans (hb.mono (by have := HB.out.size; first | omega | (simp; done) | (simp; omega))) : Below w.heap.size w w0); clear HB hb; have HB := hx; clear hx
  go_wp2_with fail
  go_loopw [7, 25] (fun out i wr => ∃ k : Nat, k ≤ l.length ∧ i = .int .i64 k ∧ wr.ownsRow w.heap.size 35 5 out k (exFlat ((maxAll 0 l l).take k)) ∧ Below w.heap.size w wr) (fun _ i _ => l.length - (intOf i).toNat)
  case atStart => exact ⟨0, by omega, rfl, World.ownsRow_nil _ _ _ _, HB.out⟩
  case round =>
    obtain ⟨k, hk, rfl, hown, hb⟩ := hrel
    clear HB
    by_cases hlt : k < l.length
    · have hltb : k < l.length := by omega
      have hcap : (k : Int) < (l.length : Int) := by omega
      obtain ⟨bl, ol, rfl, hbw, c0, c1, c2, c3, c4⟩ := HL.out.get k hlt
      generalize hx : l[k] = x at *
      have d0 := (hb.cell (p := ⟨bl, ol + k * 5, none⟩) hbw).trans c0
      have d1 := (hb.cell (p := ⟨bl, ol + k * 5 + 1, none⟩) hbw).trans c1
      have d2 := (hb.cell (p := ⟨bl, ol + k * 5 + 2, none⟩) hbw).trans c2
      have d3 := (hb.cell (p := ⟨bl, ol + k * 5 + 3, none⟩) hbw).trans c3
      have d4 := (hb.cell (p := ⟨bl, ol + k * 5 + 4, none⟩) hbw).trans c4
      have HX := Lib.hid hx; clear hx
      have HOWN := Lib.hid hown; clear hown
      have hz' := hb.size
      have HB := Lib.hid hb; clear hb
      go_wp2_with fail
      refine (numbers_any x _).mono ?_; rintro e w1 ⟨rfl, hb⟩
      have HB1 := Lib.hid ((HB.out.alloc HB.out.size _).trans (hb.mono (by have := HB.out.size; simp; omega)))
      have OW1 := Lib.hid ((HOWN.out.alloc (.cells #[.int .i64 x.f, .int .i64 x.u, .int .i64 x.h, .int .i64 x.c, .int .i64 x.i] 35)).kept (row := none) ⟨hb.os, hb.tape, hb.output, hb.size, fun k hk _ => hb.block k hk⟩ (by simp [Value.ownBlock]; exact Classical.em _))
      clear hb HOWN HB d0 d1 d2 d3 d4
      have g0 := (HB1.out.cell (p := ⟨bl, ol + k * 5, none⟩) hbw).trans c0
      have g1 := (HB1.out.cell (p := ⟨bl, ol + k * 5 + 1, none⟩) hbw).trans c1
      have g2 := (HB1.out.cell (p := ⟨bl, ol + k * 5 + 2, none⟩) hbw).trans c2
      have g3 := (HB1.out.cell (p := ⟨bl, ol + k * 5 + 3, none⟩) hbw).trans c3
      have g4 := (HB1.out.cell (p := ⟨bl, ol + k * 5 + 4, none⟩) hbw).trans c4
      have zz := HB1.out.size
      have hb1 : bl < w1.heap.size := Nat.lt_of_lt_of_le hbw zz
      go_wp2_with fail
      refine (numbers_any x _).mono ?_; rintro e w2 ⟨rfl, hb⟩
      have N2 := Lib.hid (blk_below (b := w1.heap.size) hb (by simp) (blk_new rfl))
      have HB2 := Lib.hid ((HB1.out.alloc HB1.out.size _).trans (hb.mono (by have := HB1.out.size; simp; omega)))
      have OUTLT := Lib.hid (fun k hk => (OW1.out.lt k hk).2)
      have OW2 := Lib.hid ((OW1.out.alloc (.cells #[.int .i64 x.u, .int .i64 x.h, .int .i64 x.c, .int .i64 x.i] 43)).kept (row := none) ⟨hb.os, hb.tape, hb.output, hb.size, fun k hk _ => hb.block k hk⟩ (by simp [Value.ownBlock]; exact Classical.em _))
      clear hb HB1 OW1 g0 g1 g2 g3 g4 c0 c1 c2 c3 c4
      go_wp2_with fail
      have i0 := fun cs v hv w => @idx4 0 cs v (by decide) (by decide) hv w
      have i1 := fun cs v hv w => @idx4 1 cs v (by decide) (by decide) hv w
      have i2 := fun cs v hv w => @idx4 2 cs v (by decide) (by decide) hv w
      have i3 := fun cs v hv w => @idx4 3 cs v (by decide) (by decide) hv w
      obtain ⟨wu, rfl⟩ : ∃ wu : World, wu = wr := ⟨_, rfl⟩
      go_loopw [37] (fun i wr => ∃ j : Nat, j ≤ 4 ∧ i = .int .i64 j ∧ wr.heap[w1.heap.size]? = some (.cells (nst x x j) 43 (0, 0)) ∧ w2.grownBy wr (some w1.heap.size)) (fun i _ => 4 - (intOf i).toNat)
      case atStart => exact ⟨0, by omega, rfl, N2.out, grown_refl _ _⟩
      case round =>
        obtain ⟨j, hj, rfl, hN, hgr⟩ := hrel
        have HN := Lib.hid hN; clear hN
        have HG := Lib.hid hgr; clear hgr
        have : j = 0 ∨ j = 1 ∨ j = 2 ∨ j = 3 ∨ j = 4 := by omega
        rcases this with rfl | rfl | rfl | rfl | rfl
        all_goals
          simp only [nst] at HN
          obtain ⟨n0, n1, n2, n3⟩ := cells4 HN.out
          obtain ⟨p0, p1, p2, p3⟩ := free4 HN.out
          go_wp2_with fail
        · go_roundw
          case rel => exact ⟨1, by omega, rfl, (blk_set HN.out).trans (by simp [nst, mx_if]), grown_set HG.out⟩
          case measure => simp [intOf]
        · go_roundw
          case rel => exact ⟨2, by omega, rfl, (blk_set HN.out).trans (by simp [nst, mx_if]), grown_set HG.out⟩
          case measure => simp [intOf]
        · go_roundw
          case rel => exact ⟨3, by omega, rfl, (blk_set HN.out).trans (by simp [nst, mx_if]), grown_set HG.out⟩
          case measure => simp [intOf]
        · go_roundw
          case rel => exact ⟨4, by omega, rfl, (blk_set HN.out).trans (by simp [nst, mx_if]), grown_set HG.out⟩
          case measure => simp [intOf]
        · refine (exposure_any _ _ _ _ _ _).mono ?_; rintro e w3 ⟨rfl, hb⟩
          have hg3 := grown_trans HG.out (grown_below hb)
          have OW3 := Lib.hid (OW2.out.kept hg3 (by
            right; intro he; have := OUTLT.out _ he; omega))
          have HB3 := Lib.hid (HB2.out.trans (show Below w.heap.size w2 w3 from ⟨hg3.os, hg3.tape, hg3.output, hg3.size, fun k hk => hg3.block k (by have := HB2.out.size; omega) (by simp; omega)⟩))
          clear hb hg3 n0 n1 n2 n3 p0 p1 p2 p3 i0 i1 i2 i3 HN HG
          go_wp2_with (at_builtin; refine wpList_append_new rfl _ _ 28 rfl w.heap.size 35 5 40 _ Try.underlying28 infoEx rfl (by decide) (by decide) _ _ _ rfl OW3.out _ 1 rfl rfl (by simp [Value.oneCell']) (by omega) HB3.out.size ?_; intro v4 w4 ho4 hw4)
          go_roundw
          case rel =>
            refine ⟨k + 1, by omega, by go_num, ?_, hw4 _ HB3.out⟩
            have hm : k < (maxAll 0 l l).length := by rw [maxAll_len l 0 l (show l.length = l.length by first | rfl | exact HLEN.out).symm]; exact hlt
            rw [List.take_succ_eq_append_getElem hm, maxAll_get l 0 l (show l.length = l.length by first | rfl | exact HLEN.out).symm k hlt hltb hm]
            rw [HX.out]
            have e2 : ∀ (A : List Ex) (z : Ex), exFlat (A ++ [z]) = exFlat A ++ z.cells := fun A z => by simp [exFlat]
            rw [e2]
            simpa [Ex.cells, Ex.max2] using ho4
          case measure => simp [intOf]; omega
    · have HB := Lib.hid hb; clear hb
      have HOWN := Lib.hid hown; clear hown
      go_wp2_with fail
      go_ret2
      have hown := HOWN.out
      obtain rfl : k = l.length := by omega
      have hm : (maxAll 0 l l).length = l.length := maxAll_len l 0 l (show l.length = l.length by first | rfl | exact HLEN.out).symm
      rw [List.take_of_length_le (by omega)] at hown
      exact ⟨⟨_, rfl, by unfold ExRow; rw [hm]; exact Row.owns hown fun b hb _ => hb⟩, HB.out⟩
set_option maxHeartbeats 4000000 in
theorem enter_reg (ua va : Option Addr) (uc vc : Nat) (a l : List Ex) (w : World) (hu : ExRow w (All w) (.slice ua a.length uc) a) (hl : ExRow w (All w) (.slice va l.length vc) l) (hc : check2 a l = 0) (na : a.length ≤ 1000000) (nl : l.length ≤ 1000000) (h0 : a.length ≠ 0) :
    Calls Try.prog 12 #[.slice ua a.length uc, .slice va l.length vc] w (EnterOk (maxAll 0 l a) w) := by
  have KC := fun w h1 h2 => Lib.hid (check2_any (.slice ua a.length uc) (.slice va l.length vc) a l w h1 h2 (by omega) nl)
  obtain ⟨hl1, hl2, hl3⟩ := check2_len hc
  rw [hc] at KC
  have HLEN := Lib.hid hl1
  have e1a : a.length ≤ l.length := by omega
  have e1b : l.length ≤ a.length := by omega
  have l5 : l.length ≤ 5 := by omega
  have hz : ((a.length : Int) == 0) = false := by exact beq_eq_false_iff_ne.2 (by omega)
  clear hl1 hl2 hl3 hc h0
  have HU := Lib.hid hu; clear hu
  have HL := Lib.hid hl; clear hl
  have HB := Lib.hid (Below.refl w.heap.size w)
  go_enter Try.func12, Try.ntmps12
  go_wp2_with fail
  refine ((KC _ HU.out HL.out).out).mono ?_; rintro e w0 ⟨rfl, hb⟩
  have hx := Lib.hid (by first | exact HB.out.trans (hb.mono HB.out.size) | exact (HB.out.alloc HB.out.size _).trans (hb.mono (by have := HB.out.size; first | omega | (simp; done) | (simp; omega))) | exact ((HB.out.alloc HB.out.size _).alloc (by have := HB.out.size; first | omega | (simp; done) | (simp; omega)) _).trans (hb.mono (by have := HB.out.size; first | omega | (simp; done) | (simp; omega))) : Below w.heap.size w w0); clear HB hb; have HB := hx; clear hx
  go_wp2_with fail
  go_loopw [7, 25] (fun out i wr => ∃ k : Nat, k ≤ l.length ∧ i = .int .i64 k ∧ wr.ownsRow w.heap.size 35 5 out k (exFlat ((maxAll 0 l a).take k)) ∧ Below w.heap.size w wr) (fun _ i _ => l.length - (intOf i).toNat)
  case atStart => exact ⟨0, by omega, rfl, World.ownsRow_nil _ _ _ _, HB.out⟩
  case round =>
    obtain ⟨k, hk, rfl, hown, hb⟩ := hrel
    clear HB
    by_cases hlt : k < l.length
    · have hltb : k < a.length := by omega
      have hcap : (k : Int) < (a.length : Int) := by omega
      obtain ⟨bl, ol, rfl, hbw, c0, c1, c2, c3, c4⟩ := HL.out.get k hlt
      obtain ⟨bb, ob, rfl, hbb, e0, e1, e2, e3, e4⟩ := HU.out.get k hltb
      generalize hy : a[k] = y at *
      have HY := Lib.hid hy; clear hy
      generalize hx : l[k] = x at *
      have d0 := (hb.cell (p := ⟨bl, ol + k * 5, none⟩) hbw).trans c0
      have d1 := (hb.cell (p := ⟨bl, ol + k * 5 + 1, none⟩) hbw).trans c1
      have d2 := (hb.cell (p := ⟨bl, ol + k * 5 + 2, none⟩) hbw).trans c2
      have d3 := (hb.cell (p := ⟨bl, ol + k * 5 + 3, none⟩) hbw).trans c3
      have d4 := (hb.cell (p := ⟨bl, ol + k * 5 + 4, none⟩) hbw).trans c4
      clear c0 c1 c2 c3 c4
      have HX := Lib.hid hx; clear hx
      have HOWN := Lib.hid hown; clear hown
      have hz' := hb.size
      have HB := Lib.hid hb; clear hb
      go_wp2_with fail
      refine (numbers_any x _).mono ?_; rintro e w1 ⟨rfl, hb⟩
      have HB1 := Lib.hid ((HB.out.alloc HB.out.size _).trans (hb.mono (by have := HB.out.size; simp; omega)))
      have OW1 := Lib.hid ((HOWN.out.alloc (.cells #[.int .i64 x.f, .int .i64 x.u, .int .i64 x.h, .int .i64 x.c, .int .i64 x.i] 35)).kept (row := none) ⟨hb.os, hb.tape, hb.output, hb.size, fun k hk _ => hb.block k hk⟩ (by simp [Value.ownBlock]; exact Classical.em _))
      clear hb HOWN HB d0 d1 d2 d3 d4
      have g0 := (HB1.out.cell (p := ⟨bb, ob + k * 5, none⟩) hbb).trans e0
      have g1 := (HB1.out.cell (p := ⟨bb, ob + k * 5 + 1, none⟩) hbb).trans e1
      have g2 := (HB1.out.cell (p := ⟨bb, ob + k * 5 + 2, none⟩) hbb).trans e2
      have g3 := (HB1.out.cell (p := ⟨bb, ob + k * 5 + 3, none⟩) hbb).trans e3
      have g4 := (HB1.out.cell (p := ⟨bb, ob + k * 5 + 4, none⟩) hbb).trans e4
      have zz := HB1.out.size
      have hb1 : bb < w1.heap.size := Nat.lt_of_lt_of_le hbb zz
      go_wp2_with fail
      refine (numbers_any y _).mono ?_; rintro e w2 ⟨rfl, hb⟩
      have N2 := Lib.hid (blk_below (b := w1.heap.size) hb (by simp) (blk_new rfl))
      have HB2 := Lib.hid ((HB1.out.alloc HB1.out.size _).trans (hb.mono (by have := HB1.out.size; simp; omega)))
      have OUTLT := Lib.hid (fun k hk => (OW1.out.lt k hk).2)
      have OW2 := Lib.hid ((OW1.out.alloc (.cells #[.int .i64 x.u, .int .i64 x.h, .int .i64 x.c, .int .i64 x.i] 43)).kept (row := none) ⟨hb.os, hb.tape, hb.output, hb.size, fun k hk _ => hb.block k hk⟩ (by simp [Value.ownBlock]; exact Classical.em _))
      clear hb HB1 OW1 g0 g1 g2 g3 g4
      go_wp2_with fail
      have i0 := fun cs v hv w => @idx4 0 cs v (by decide) (by decide) hv w
      have i1 := fun cs v hv w => @idx4 1 cs v (by decide) (by decide) hv w
      have i2 := fun cs v hv w => @idx4 2 cs v (by decide) (by decide) hv w
      have i3 := fun cs v hv w => @idx4 3 cs v (by decide) (by decide) hv w
      obtain ⟨wu, rfl⟩ : ∃ wu : World, wu = wr := ⟨_, rfl⟩
      go_loopw [37] (fun i wr => ∃ j : Nat, j ≤ 4 ∧ i = .int .i64 j ∧ wr.heap[w1.heap.size]? = some (.cells (nst x y j) 43 (0, 0)) ∧ w2.grownBy wr (some w1.heap.size)) (fun i _ => 4 - (intOf i).toNat)
      case atStart => exact ⟨0, by omega, rfl, N2.out, grown_refl _ _⟩
      case round =>
        obtain ⟨j, hj, rfl, hN, hgr⟩ := hrel
        have HN := Lib.hid hN; clear hN
        have HG := Lib.hid hgr; clear hgr
        have : j = 0 ∨ j = 1 ∨ j = 2 ∨ j = 3 ∨ j = 4 := by omega
        rcases this with rfl | rfl | rfl | rfl | rfl
        all_goals
          simp only [nst] at HN
          obtain ⟨n0, n1, n2, n3⟩ := cells4 HN.out
          obtain ⟨p0, p1, p2, p3⟩ := free4 HN.out
          go_wp2_with fail
        · go_roundw
          case rel => exact ⟨1, by omega, rfl, (blk_set HN.out).trans (by simp [nst, mx_if]), grown_set HG.out⟩
          case measure => simp [intOf]
        · go_roundw
          case rel => exact ⟨2, by omega, rfl, (blk_set HN.out).trans (by simp [nst, mx_if]), grown_set HG.out⟩
          case measure => simp [intOf]
        · go_roundw
          case rel => exact ⟨3, by omega, rfl, (blk_set HN.out).trans (by simp [nst, mx_if]), grown_set HG.out⟩
          case measure => simp [intOf]
        · go_roundw
          case rel => exact ⟨4, by omega, rfl, (blk_set HN.out).trans (by simp [nst, mx_if]), grown_set HG.out⟩
          case measure => simp [intOf]
        · refine (exposure_any _ _ _ _ _ _).mono ?_; rintro e w3 ⟨rfl, hb⟩
          have hg3 := grown_trans HG.out (grown_below hb)
          have OW3 := Lib.hid (OW2.out.kept hg3 (by
            right; intro he; have := OUTLT.out _ he; omega))
          have HB3 := Lib.hid (HB2.out.trans (show Below w.heap.size w2 w3 from ⟨hg3.os, hg3.tape, hg3.output, hg3.size, fun k hk => hg3.block k (by have := HB2.out.size; omega) (by simp; omega)⟩))
          clear hb hg3 n0 n1 n2 n3 p0 p1 p2 p3 i0 i1 i2 i3 HN HG
          go_wp2_with (at_builtin; refine wpList_append_new rfl _ _ 28 rfl w.heap.size 35 5 40 _ Try.underlying28 infoEx rfl (by decide) (by decide) _ _ _ rfl OW3.out _ 1 rfl rfl (by simp [Value.oneCell']) (by omega) HB3.out.size ?_; intro v4 w4 ho4 hw4)
          go_roundw
          case rel =>
            refine ⟨k + 1, by omega, by go_num, ?_, hw4 _ HB3.out⟩
            have hm : k < (maxAll 0 l a).length := by rw [maxAll_len l 0 a (show a.length = l.length by first | rfl | exact HLEN.out).symm]; exact hlt
            rw [List.take_succ_eq_append_getElem hm, maxAll_get l 0 a (show a.length = l.length by first | rfl | exact HLEN.out).symm k hlt hltb hm]
            rw [HX.out, HY.out]
            have e2 : ∀ (A : List Ex) (z : Ex), exFlat (A ++ [z]) = exFlat A ++ z.cells := fun A z => by simp [exFlat]
            rw [e2]
            simpa [Ex.cells, Ex.max2] using ho4
          case measure => simp [intOf]; omega
    · have HB := Lib.hid hb; clear hb
      have HOWN := Lib.hid hown; clear hown
      go_wp2_with fail
      go_ret2
      have hown := HOWN.out
      obtain rfl : k = l.length := by omega
      have hm : (maxAll 0 l a).length = l.length := maxAll_len l 0 a (show a.length = l.length by first | rfl | exact HLEN.out).symm
      rw [List.take_of_length_le (by omega)] at hown
      exact ⟨⟨_, rfl, by unfold ExRow; rw [hm]; exact Row.owns hown fun b hb _ => hb⟩, HB.out⟩
/-- what Enter answers when the check fails: the code and no list -/
def EnterBad (c : Int) (w : World) (e : Ending) (w' : World) : Prop := e = .returned (.tuple #[.slice none 0 0, .int .i64 c]) ∧ Below w.heap.size w w'
set_option maxHeartbeats 1000000 in
theorem enter_bad (u v : Value) (a l : List Ex) (w : World) (hu : ExRow w (All w) u a) (hl : ExRow w (All w) v l) (hc : enterE a l ≠ 0) (na : a.length ≤ 1000000) (nl : l.length ≤ 1000000) :
    Calls Try.prog 12 #[u, v] w (EnterBad (enterE a l) w) := by
  obtain ⟨ua, uc, rfl⟩ := hu.val
  obtain ⟨va, vc, rfl⟩ := hl.val
  have HB := Lib.hid (Below.refl w.heap.size w)
  by_cases h0 : a.length = 0
  · have KC := fun w h1 h2 => Lib.hid (check2_any (.slice va l.length vc) (.slice va l.length vc) l l w h1 h2 nl nl)
    have e1 : enterE a l = check2 l l := by unfold enterE regE; rw [if_pos h0]
    rw [e1] at hc ⊢
    have hz : ((a.length : Int) == 0) = true := by simp [h0]
    have HL := Lib.hid hl; clear hl hu h0 e1
    generalize check2 l l = c at *
    have h2' : ((c : Int) == 0) = false := by simpa using hc
    have h2'' : ((c : Int) != 0) = true := by simpa using hc
    clear hc
    go_enter Try.func12, Try.ntmps12
    go_wp2_with fail
    refine ((KC _ HL.out HL.out).out).mono ?_; rintro e w1 ⟨rfl, hb⟩
    have hx := Lib.hid (by first | exact HB.out.trans (hb.mono HB.out.size) | exact (HB.out.alloc HB.out.size _).trans (hb.mono (by have := HB.out.size; first | omega | (simp; done) | (simp; omega))) | exact ((HB.out.alloc HB.out.size _).alloc (by have := HB.out.size; first | omega | (simp; done) | (simp; omega)) _).trans (hb.mono (by have := HB.out.size; first | omega | (simp; done) | (simp; omega))) : Below w.heap.size w w1); clear HB hb; have HB := hx; clear hx
    go_wp2_with fail
    go_ret2
    exact ⟨rfl, HB.out⟩
  · have KC := fun w h1 h2 => Lib.hid (check2_any (.slice ua a.length uc) (.slice va l.length vc) a l w h1 h2 na nl)
    have e1 : enterE a l = check2 a l := by unfold enterE regE; rw [if_neg h0]
    rw [e1] at hc ⊢
    have hz : ((a.length : Int) == 0) = false := beq_eq_false_iff_ne.2 (by omega)
    have HL := Lib.hid hl; have HU := Lib.hid hu; clear hl hu h0 e1
    generalize check2 a l = c at *
    have h2' : ((c : Int) == 0) = false := by simpa using hc
    have h2'' : ((c : Int) != 0) = true := by simpa using hc
    clear hc
    go_enter Try.func12, Try.ntmps12
    go_wp2_with fail
    refine ((KC _ HU.out HL.out).out).mono ?_; rintro e w1 ⟨rfl, hb⟩
    have hx := Lib.hid (by first | exact HB.out.trans (hb.mono HB.out.size) | exact (HB.out.alloc HB.out.size _).trans (hb.mono (by have := HB.out.size; first | omega | (simp; done) | (simp; omega))) | exact ((HB.out.alloc HB.out.size _).alloc (by have := HB.out.size; first | omega | (simp; done) | (simp; omega)) _).trans (hb.mono (by have := HB.out.size; first | omega | (simp; done) | (simp; omega))) : Below w.heap.size w w1); clear HB hb; have HB := hx; clear hx
    go_wp2_with fail
    go_ret2
    exact ⟨rfl, HB.out⟩
theorem enter_good (u v : Value) (a l : List Ex) (w : World) (hu : ExRow w (All w) u a) (hl : ExRow w (All w) v l) (hc : enterE a l = 0) (na : a.length ≤ 1000000) (nl : l.length ≤ 1000000) :
    Calls Try.prog 12 #[u, v] w (EnterOk (maxAll 0 l (regE a l)) w) := by
  obtain ⟨ua, uc, rfl⟩ := hu.val
  obtain ⟨va, vc, rfl⟩ := hl.val
  by_cases h0 : a.length = 0
  · have e1 : regE a l = l := by unfold regE; rw [if_pos h0]
    unfold enterE at hc
    rw [e1] at hc ⊢
    exact enter_nil ua va uc vc a l w hu hl hc na nl h0
  · have e1 : regE a l = a := by unfold regE; rw [if_neg h0]
    unfold enterE at hc
    rw [e1] at hc ⊢
    exact enter_reg ua va uc vc a l w hu hl hc na nl h0
end Go.Proofs.Ytohglcbakepejaa
