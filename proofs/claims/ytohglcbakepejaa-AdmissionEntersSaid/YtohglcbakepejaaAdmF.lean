/- the reference's Check, on valid exposures. -/
import Derived.Test.YtohglcbakepejaaAdmD
set_option linter.unusedSimpArgs false
set_option linter.unusedVariables false
namespace Go.Proofs.Ytohglcbakepejaa
open Go.RowKit
theorem chk_ok {l : List Ex} (h : chkE l = 0) : (1 ≤ l.length ∧ l.length ≤ 5) ∧ ∀ j, (hj : j < l.length) → (l[j]).ok (j : Int) := by
  unfold chkE at h
  split at h
  · rename_i h1
    split at h
    · rename_i h2
      refine ⟨h1, fun j hj => ?_⟩
      have := (okAll_iff l 0).1 h2 j hj
      rwa [Nat.zero_add] at this
    · cases h
  · cases h
set_option maxHeartbeats 4000000 in
theorem refCheck_any (v : Value) (l : List Ex) (w : World) (hl : ExRow w (All w) v l) (hc : chkE l = 0) :
    Calls Try.prog 17 #[v] w fun e w' => e = .returned (.int .i64 0) ∧ Below w.heap.size w w' := by
  obtain ⟨⟨h1, h5⟩, hok⟩ := chk_ok hc
  clear hc
  obtain ⟨ua, uc, rfl⟩ := hl.val
  have HL := Lib.hid hl; clear hl
  have HOK := Lib.hid hok; clear hok
  have g1 : ((l.length : Int) < 1) = False := by simp; omega
  have g2 : (5 < (l.length : Int)) = False := by simp; omega
  go_enter Try.func17, Try.ntmps17
  go_wp2_with fail
  clear g1 g2
  go_loopw [3] (fun i wr => ∃ k : Nat, k ≤ l.length ∧ i = .int .i64 k ∧ Below w.heap.size w wr) (fun i _ => l.length - (intOf i).toNat)
  case atStart => exact ⟨0, by omega, rfl, Below.refl _ _⟩
  case round =>
    obtain ⟨k, hk, rfl, hb⟩ := hrel
    by_cases hlt : k < l.length
    · obtain ⟨b, off, rfl, hbw, c0, c1, c2, c3, c4⟩ := HL.out.get k hlt
      have hokk := HOK.out k hlt
      have d0 := (hb.cell (p := ⟨b, off + k * 5, none⟩) hbw).trans c0
      have d1 := (hb.cell (p := ⟨b, off + k * 5 + 1, none⟩) hbw).trans c1
      have d2 := (hb.cell (p := ⟨b, off + k * 5 + 2, none⟩) hbw).trans c2
      have d3 := (hb.cell (p := ⟨b, off + k * 5 + 3, none⟩) hbw).trans c3
      have d4 := (hb.cell (p := ⟨b, off + k * 5 + 4, none⟩) hbw).trans c4
      clear c0 c1 c2 c3 c4
      have HB := Lib.hid hb; clear hb
      generalize l[k] = x at *
      obtain ⟨xf, xu, xh, xc, xi⟩ := x
      obtain ⟨e0, ⟨e1, e2⟩, ⟨e3, e4⟩, ⟨e5, e6⟩, ⟨e7, e8⟩⟩ := hokk
      dsimp only at *
      subst e0
      have t1 : (xu < 0) = False := by simp; omega
      have t2 : (64 < xu) = False := by simp; omega
      have t3 : (xh < 0) = False := by simp; omega
      have t4 : (64 < xh) = False := by simp; omega
      have t5 : (xc < 0) = False := by simp; omega
      have t6 : (512 < xc) = False := by simp; omega
      have t7 : (xi < 0) = False := by simp; omega
      have t8 : (1000 < xi) = False := by simp; omega
      clear e1 e2 e3 e4 e5 e6 e7 e8
      go_wp2_with fail
      go_roundw
      case rel => exact ⟨k + 1, by omega, by go_num, HB.out.alloc HB.out.size _⟩
      case measure => simp [intOf]; omega
    · go_wp2_with fail
      go_ret
      exact ⟨rfl, hb⟩
end Go.Proofs.Ytohglcbakepejaa
