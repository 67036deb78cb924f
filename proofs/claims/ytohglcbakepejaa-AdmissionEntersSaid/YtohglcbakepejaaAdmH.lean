/- the reference's Enter, on valid exposures of one length. -/
import Derived.Test.YtohglcbakepejaaAdmF
import Derived.Deep.RegionHeld3
set_option linter.unusedSimpArgs false
set_option linter.unusedVariables false
namespace Go.Proofs.Ytohglcbakepejaa
open Go.RowKit
theorem k_world {α : Type} {K : α → World → Prop} {a : α} {w : World} (h : ∀ wS, wS = w → K a wS) : K a w := h w rfl
set_option maxHeartbeats 4000000 in
theorem refEnter_any (u v : Value) (a l : List Ex) (w : World) (hu : ExRow w (All w) u a) (hl : ExRow w (All w) v l) (hca : chkE a = 0) (hcl : chkE l = 0) (hlen : a.length = l.length) :
    Calls Try.prog 10 #[u, v] w (EnterOk (maxAll 0 a l) w) := by
  have KA := fun w h => Lib.hid (refCheck_any u a w h hca)
  have KL := fun w h => Lib.hid (refCheck_any v l w h hcl)
  obtain ⟨⟨h1, h5⟩, _⟩ := chk_ok hca
  obtain ⟨ua, uc, rfl⟩ := hu.val
  obtain ⟨va, vc, rfl⟩ := hl.val
  have HU := Lib.hid hu; clear hu
  have HL := Lib.hid hl; clear hl
  have HLEN := Lib.hid hlen
  have t1 : decide ((0 : Int) < (a.length : Int)) = true := by simp; omega
  have t2 : ((a.length : Int) == 0) = false := beq_eq_false_iff_ne.2 (by omega)
  have t3 : ((a.length : Int) != (l.length : Int)) = false := by simp [hlen]
  have t4 : ((a.length : Int) == (l.length : Int)) = true := by simp [hlen]
  have q1 : a.length ≤ l.length := by omega
  have q2 : l.length ≤ a.length := by omega
  clear hlen hca hcl
  have HB := Lib.hid (Below.refl w.heap.size w)
  go_enter Try.func10, Try.ntmps10
  go_wp2_with fail
  refine ((KA _ HU.out).out).mono ?_; rintro e w0 ⟨rfl, hb⟩
  have hx := Lib.hid (by first | exact HB.out.trans (hb.mono HB.out.size) | exact (HB.out.alloc HB.out.size _).trans (hb.mono (by have := HB.out.size; first | omega | (simp; done) | (simp; omega))) | exact ((HB.out.alloc HB.out.size _).alloc (by have := HB.out.size; first | omega | (simp; done) | (simp; omega)) _).trans (hb.mono (by have := HB.out.size; first | omega | (simp; done) | (simp; omega))) : Below w.heap.size w w0); clear HB hb; have HB := hx; clear hx
  go_wp2_with fail
  refine ((KL _ (HL.out.below HB.out)).out).mono ?_; rintro e w1 ⟨rfl, hb⟩
  have hx := Lib.hid (by first | exact HB.out.trans (hb.mono HB.out.size) | exact (HB.out.alloc HB.out.size _).trans (hb.mono (by have := HB.out.size; first | omega | (simp; done) | (simp; omega))) | exact ((HB.out.alloc HB.out.size _).alloc (by have := HB.out.size; first | omega | (simp; done) | (simp; omega)) _).trans (hb.mono (by have := HB.out.size; first | omega | (simp; done) | (simp; omega))) : Below w.heap.size w w1); clear HB hb; have HB := hx; clear hx
  go_wp2_with fail
  go_loopw [8, 9] (fun out i wr => ∃ k : Nat, k ≤ l.length ∧ i = .int .i64 k ∧ wr.ownsRow w.heap.size 35 5 out k (exFlat ((maxAll 0 a l).take k)) ∧ Below w.heap.size w wr) (fun _ i _ => l.length - (intOf i).toNat)
  case atStart => exact ⟨0, by omega, rfl, World.ownsRow_nil _ _ _ _, HB.out⟩
  case round =>
    obtain ⟨k, hk, rfl, hown, hb⟩ := hrel
    clear HB KA KL t1 t2 t3 t4
    by_cases hlt : k < l.length
    · have hlta : k < a.length := by omega
      have hcap : (k : Int) < (a.length : Int) := by omega
      obtain ⟨bl, ol, rfl, hbl, c0, c1, c2, c3, c4⟩ := HU.out.get k hlta
      obtain ⟨bb, ob, rfl, hbb, e0, e1, e2, e3, e4⟩ := HL.out.get k hlt
      generalize hx : a[k] = x at *
      generalize hy : l[k] = y at *
      have HX := Lib.hid hx; have HY := Lib.hid hy; clear hx hy
      obtain ⟨xf, xu, xh, xc, xi⟩ := x
      obtain ⟨yf, yu, yh, yc, yi⟩ := y
      dsimp only at *
      have d0 := (hb.cell (p := ⟨bl, ol + k * 5, none⟩) hbl).trans c0
      have d1 := (hb.cell (p := ⟨bl, ol + k * 5 + 1, none⟩) hbl).trans c1
      have d2 := (hb.cell (p := ⟨bl, ol + k * 5 + 2, none⟩) hbl).trans c2
      have d3 := (hb.cell (p := ⟨bl, ol + k * 5 + 3, none⟩) hbl).trans c3
      have d4 := (hb.cell (p := ⟨bl, ol + k * 5 + 4, none⟩) hbl).trans c4
      have g0 := (hb.cell (p := ⟨bb, ob + k * 5, none⟩) hbb).trans e0
      have g1 := (hb.cell (p := ⟨bb, ob + k * 5 + 1, none⟩) hbb).trans e1
      have g2 := (hb.cell (p := ⟨bb, ob + k * 5 + 2, none⟩) hbb).trans e2
      have g3 := (hb.cell (p := ⟨bb, ob + k * 5 + 3, none⟩) hbb).trans e3
      have g4 := (hb.cell (p := ⟨bb, ob + k * 5 + 4, none⟩) hbb).trans e4
      clear c0 c1 c2 c3 c4 e0 e1 e2 e3 e4
      have HB := Lib.hid hb; clear hb
      have HOWN := Lib.hid hown; clear hown
      go_wp2_with fail
      have nd := World.new_ne _ _ d0
      have ng := World.new_ne _ _ g0
      dsimp only at nd ng
      go_region_held3 (fun w' => w'.cell? ⟨bl, ol + k * 5, none⟩ = some (.int .i64 xf) ∧ w'.cell? ⟨bl, ol + k * 5 + 1, none⟩ = some (.int .i64 xu) ∧ w'.cell? ⟨bl, ol + k * 5 + 2, none⟩ = some (.int .i64 xh) ∧ w'.cell? ⟨bl, ol + k * 5 + 3, none⟩ = some (.int .i64 xc) ∧ w'.cell? ⟨bl, ol + k * 5 + 4, none⟩ = some (.int .i64 xi) ∧ w'.cell? ⟨bb, ob + k * 5, none⟩ = some (.int .i64 yf) ∧ w'.cell? ⟨bb, ob + k * 5 + 1, none⟩ = some (.int .i64 yu) ∧ w'.cell? ⟨bb, ob + k * 5 + 2, none⟩ = some (.int .i64 yh) ∧ w'.cell? ⟨bb, ob + k * 5 + 3, none⟩ = some (.int .i64 yc) ∧ w'.cell? ⟨bb, ob + k * 5 + 4, none⟩ = some (.int .i64 yi)) (go_keep) (fail)
      all_goals clear d0 d1 d2 d3 d4 g0 g1 g2 g3 g4 nd ng
      · refine k_world (fun wV hV => ?_)
        have BX : wV.heap[wr.heap.size]? = some (.cells #[.int .i64 xf, .int .i64 xu, .int .i64 xh, .int .i64 xc, .int .i64 xi] 35 (0, 0)) := by rw [hV]; first | exact blk_new (by simp) | exact blk_old (blk_new rfl)
        have BY : wV.heap[wr.heap.size + 1]? = some (.cells #[.int .i64 yf, .int .i64 yu, .int .i64 yh, .int .i64 yc, .int .i64 yi] 35 (0, 0)) := by rw [hV]; first | exact blk_new (by simp) | exact blk_old (blk_new rfl)
        have OWV := Lib.hid (show wV.ownsRow w.heap.size 35 5 u8 k (exFlat ((maxAll 0 a l).take k)) by rw [hV]; exact ((HOWN.out.alloc _).alloc _).drew)
        have HBV := Lib.hid (show Below w.heap.size w wV by rw [hV]; exact ((HB.out.alloc HB.out.size _).alloc (by have := HB.out.size; simp; omega) _).drew)
        have x0 : wV.cell? ⟨wr.heap.size, 0, none⟩ = some (.int .i64 xf) := (cell_of_row _ _ _ _ _ _ BX).trans rfl
        have y0 : wV.cell? ⟨wr.heap.size + 1, 0, none⟩ = some (.int .i64 yf) := (cell_of_row _ _ _ _ _ _ BY).trans rfl
        have x1 : wV.cell? ⟨wr.heap.size, 1, none⟩ = some (.int .i64 xu) := (cell_of_row _ _ _ _ _ _ BX).trans rfl
        have y1 : wV.cell? ⟨wr.heap.size + 1, 1, none⟩ = some (.int .i64 yu) := (cell_of_row _ _ _ _ _ _ BY).trans rfl
        have x2 : wV.cell? ⟨wr.heap.size, 2, none⟩ = some (.int .i64 xh) := (cell_of_row _ _ _ _ _ _ BX).trans rfl
        have y2 : wV.cell? ⟨wr.heap.size + 1, 2, none⟩ = some (.int .i64 yh) := (cell_of_row _ _ _ _ _ _ BY).trans rfl
        have x3 : wV.cell? ⟨wr.heap.size, 3, none⟩ = some (.int .i64 xc) := (cell_of_row _ _ _ _ _ _ BX).trans rfl
        have y3 : wV.cell? ⟨wr.heap.size + 1, 3, none⟩ = some (.int .i64 yc) := (cell_of_row _ _ _ _ _ _ BY).trans rfl
        have x4 : wV.cell? ⟨wr.heap.size, 4, none⟩ = some (.int .i64 xi) := (cell_of_row _ _ _ _ _ _ BX).trans rfl
        have y4 : wV.cell? ⟨wr.heap.size + 1, 4, none⟩ = some (.int .i64 yi) := (cell_of_row _ _ _ _ _ _ BY).trans rfl
        clear hV BX BY HOWN HB
        go_wp2_with (at_builtin; refine wpList_append_new rfl _ _ 28 rfl w.heap.size 35 5 40 _ Try.underlying28 infoEx rfl (by decide) (by decide) _ _ _ rfl OWV.out _ 1 rfl rfl (by simp [Value.oneCell']) (by omega) HBV.out.size ?_; intro v5 w5 ho5 hw5)
        go_roundw
        case rel =>
          refine ⟨k + 1, by omega, by go_num, ?_, hw5 _ HBV.out⟩
          have hm : k < (maxAll 0 a l).length := by rw [maxAll_len a 0 l HLEN.out]; exact hlta
          rw [List.take_succ_eq_append_getElem hm, maxAll_get a 0 l HLEN.out k hlta hlt hm]
          rw [HX.out, HY.out]
          have e2 : ∀ (A : List Ex) (z : Ex), exFlat (A ++ [z]) = exFlat A ++ z.cells := fun A z => by simp [exFlat]
          rw [e2]
          simpa [Ex.cells, Ex.max2, mx_if] using ho5
        case measure => simp [intOf]; omega
      · refine k_world (fun wV hV => ?_)
        have BX : wV.heap[wr.heap.size + 1]? = some (.cells #[.int .i64 xf, .int .i64 xu, .int .i64 xh, .int .i64 xc, .int .i64 xi] 35 (0, 0)) := by rw [hV]; first | exact blk_new (by simp) | exact blk_old (blk_new rfl)
        have BY : wV.heap[wr.heap.size]? = some (.cells #[.int .i64 yf, .int .i64 yu, .int .i64 yh, .int .i64 yc, .int .i64 yi] 35 (0, 0)) := by rw [hV]; first | exact blk_new (by simp) | exact blk_old (blk_new rfl)
        have OWV := Lib.hid (show wV.ownsRow w.heap.size 35 5 u8 k (exFlat ((maxAll 0 a l).take k)) by rw [hV]; exact ((HOWN.out.alloc _).alloc _).drew)
        have HBV := Lib.hid (show Below w.heap.size w wV by rw [hV]; exact ((HB.out.alloc HB.out.size _).alloc (by have := HB.out.size; simp; omega) _).drew)
        have x0 : wV.cell? ⟨wr.heap.size + 1, 0, none⟩ = some (.int .i64 xf) := (cell_of_row _ _ _ _ _ _ BX).trans rfl
        have y0 : wV.cell? ⟨wr.heap.size, 0, none⟩ = some (.int .i64 yf) := (cell_of_row _ _ _ _ _ _ BY).trans rfl
        have x1 : wV.cell? ⟨wr.heap.size + 1, 1, none⟩ = some (.int .i64 xu) := (cell_of_row _ _ _ _ _ _ BX).trans rfl
        have y1 : wV.cell? ⟨wr.heap.size, 1, none⟩ = some (.int .i64 yu) := (cell_of_row _ _ _ _ _ _ BY).trans rfl
        have x2 : wV.cell? ⟨wr.heap.size + 1, 2, none⟩ = some (.int .i64 xh) := (cell_of_row _ _ _ _ _ _ BX).trans rfl
        have y2 : wV.cell? ⟨wr.heap.size, 2, none⟩ = some (.int .i64 yh) := (cell_of_row _ _ _ _ _ _ BY).trans rfl
        have x3 : wV.cell? ⟨wr.heap.size + 1, 3, none⟩ = some (.int .i64 xc) := (cell_of_row _ _ _ _ _ _ BX).trans rfl
        have y3 : wV.cell? ⟨wr.heap.size, 3, none⟩ = some (.int .i64 yc) := (cell_of_row _ _ _ _ _ _ BY).trans rfl
        have x4 : wV.cell? ⟨wr.heap.size + 1, 4, none⟩ = some (.int .i64 xi) := (cell_of_row _ _ _ _ _ _ BX).trans rfl
        have y4 : wV.cell? ⟨wr.heap.size, 4, none⟩ = some (.int .i64 yi) := (cell_of_row _ _ _ _ _ _ BY).trans rfl
        clear hV BX BY HOWN HB
        go_wp2_with (at_builtin; refine wpList_append_new rfl _ _ 28 rfl w.heap.size 35 5 40 _ Try.underlying28 infoEx rfl (by decide) (by decide) _ _ _ rfl OWV.out _ 1 rfl rfl (by simp [Value.oneCell']) (by omega) HBV.out.size ?_; intro v5 w5 ho5 hw5)
        go_roundw
        case rel =>
          refine ⟨k + 1, by omega, by go_num, ?_, hw5 _ HBV.out⟩
          have hm : k < (maxAll 0 a l).length := by rw [maxAll_len a 0 l HLEN.out]; exact hlta
          rw [List.take_succ_eq_append_getElem hm, maxAll_get a 0 l HLEN.out k hlta hlt hm]
          rw [HX.out, HY.out]
          have e2 : ∀ (A : List Ex) (z : Ex), exFlat (A ++ [z]) = exFlat A ++ z.cells := fun A z => by simp [exFlat]
          rw [e2]
          simpa [Ex.cells, Ex.max2, mx_if] using ho5
        case measure => simp [intOf]; omega
    · go_wp2_with fail
      go_ret2
      obtain rfl : k = l.length := by omega
      have hm : (maxAll 0 a l).length = l.length := by rw [maxAll_len _ _ _ HLEN.out, HLEN.out]
      rw [List.take_of_length_le (by omega)] at hown
      exact ⟨⟨_, rfl, by unfold ExRow; rw [hm]; exact Row.owns hown fun b hb _ => hb⟩, hb⟩
end Go.Proofs.Ytohglcbakepejaa
