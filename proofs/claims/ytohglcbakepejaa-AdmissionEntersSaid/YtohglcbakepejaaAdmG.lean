/- the reference's Same, on equal exposures. -/
import Derived.Test.YtohglcbakepejaaAdmF
set_option linter.unusedSimpArgs false
set_option linter.unusedVariables false
namespace Go.Proofs.Ytohglcbakepejaa
open Go.RowKit
set_option maxHeartbeats 4000000 in
theorem same_any (u v : Value) (l : List Ex) (w : World) (hu : ExRow w (All w) u l) (hv : ExRow w (All w) v l) (hn : l.length ≤ 1000) :
    Calls Try.prog 13 #[u, v] w fun e w' => e = .returned (.bool true) ∧ Below w.heap.size w w' := by
  obtain ⟨ua, uc, rfl⟩ := hu.val
  obtain ⟨va, vc, rfl⟩ := hv.val
  have HU := Lib.hid hu; clear hu
  have HV := Lib.hid hv; clear hv
  go_enter Try.func13, Try.ntmps13
  go_wp2_with fail
  go_loopw [5] (fun i wr => ∃ k : Nat, k ≤ l.length ∧ i = .int .i64 k ∧ Below w.heap.size w wr) (fun i _ => l.length - (intOf i).toNat)
  case atStart => exact ⟨0, by omega, rfl, Below.refl _ _⟩
  case round =>
    obtain ⟨k, hk, rfl, hb⟩ := hrel
    by_cases hlt : k < l.length
    · obtain ⟨bl, ol, rfl, hbl, c0, c1, c2, c3, c4⟩ := HU.out.get k hlt
      obtain ⟨bb, ob, rfl, hbb, e0, e1, e2, e3, e4⟩ := HV.out.get k hlt
      generalize l[k] = x at *
      obtain ⟨xf, xu, xh, xc, xi⟩ := x
      dsimp only at *
      have d0 := (hb.cell (p := ⟨bl, ol + k * 5, none⟩) hbl).trans c0
      have d1 := (hb.cell (p := ⟨bl, ol + k * 5 + 1, none⟩) hbl).trans c1
      have d2 := (hb.cell (p := ⟨bl, ol + k * 5 + 2, none⟩) hbl).trans c2
      have d3 := (hb.cell (p := ⟨bl, ol + k * 5 + 3, none⟩) hbl).trans c3
      have d4 := (hb.cell (p := ⟨bl, ol + k * 5 + 4, none⟩) hbl).trans c4
      have g0 := (hb.cell (p := ⟨bb, ob + k * 5, none⟩) hbb).trans e0
      have g1 := (hb.cell (p := ⟨bb, ob + k * 5 + 1, none⟩) hbb).trans e1
      have g2 := (hb.cell (p := ⟨bb, ob + k * 5 + 2, none⟩) hbb).trans e2
      have g3 := (hb.cell (p := ⟨bb, ob + k * 5 + 3, none⟩) hbb).trans e3
      have g4 := (hb.cell (p := ⟨bb, ob + k * 5 + 4, none⟩) hbb).trans e4
      clear c0 c1 c2 c3 c4 e0 e1 e2 e3 e4
      have HB := Lib.hid hb; clear hb
      go_wp2_with fail
      refine wp_region_noPanic ?_
      refine wp_region_held_drew (S := (fun w' => w'.cell? ⟨bl, ol + k * 5, none⟩ = some (.int .i64 xf) ∧ w'.cell? ⟨bl, ol + k * 5 + 1, none⟩ = some (.int .i64 xu) ∧ w'.cell? ⟨bl, ol + k * 5 + 2, none⟩ = some (.int .i64 xh) ∧ w'.cell? ⟨bl, ol + k * 5 + 3, none⟩ = some (.int .i64 xc) ∧ w'.cell? ⟨bl, ol + k * 5 + 4, none⟩ = some (.int .i64 xi) ∧ w'.cell? ⟨bb, ob + k * 5, none⟩ = some (.int .i64 xf) ∧ w'.cell? ⟨bb, ob + k * 5 + 1, none⟩ = some (.int .i64 xu) ∧ w'.cell? ⟨bb, ob + k * 5 + 2, none⟩ = some (.int .i64 xh) ∧ w'.cell? ⟨bb, ob + k * 5 + 3, none⟩ = some (.int .i64 xc) ∧ w'.cell? ⟨bb, ob + k * 5 + 4, none⟩ = some (.int .i64 xi))) (by kernel_rfl) (⟨d0, d1, d2, d3, d4, g0, g1, g2, g3, g4⟩) (fun hHeld => ?_)
      refine wpAnyH_take (i := 0) (v := ?_) rfl (by kernel_rfl) (by kernel_rfl) (by kernel_rfl) (fun _ _ _ h => h) (Or.inl ⟨by rfl, ?_⟩) (by assumption) ?_
      rotate_left 1
      · (intro wS hSw; (try dsimp only at hSw); go_simp; try with_reducible rfl)
      try simp only [List.getElem_toArray, List.getElem_cons_zero, List.getElem_cons_succ, Act.put, List.setIfInBounds_toArray, List.set_cons_zero, List.set_cons_succ]
      refine wpAnyH_take (i := 1) (v := ?_) rfl (by kernel_rfl) (by kernel_rfl) (by kernel_rfl) (fun _ _ _ h => h) (Or.inl ⟨by rfl, ?_⟩) (by assumption) ?_
      rotate_left 1
      · (intro wS hSw; (try dsimp only at hSw); go_simp; try with_reducible rfl)
      try simp only [List.getElem_toArray, List.getElem_cons_zero, List.getElem_cons_succ, Act.put, List.setIfInBounds_toArray, List.set_cons_zero, List.set_cons_succ]
      refine wpAnyH_take (i := 2) (v := ?_) rfl (by kernel_rfl) (by kernel_rfl) (by kernel_rfl) (fun _ _ _ h => h) (Or.inl ⟨by rfl, ?_⟩) (by assumption) ?_
      rotate_left 1
      · (intro wS hSw; (try dsimp only at hSw); go_simp; try with_reducible rfl)
      try simp only [List.getElem_toArray, List.getElem_cons_zero, List.getElem_cons_succ, Act.put, List.setIfInBounds_toArray, List.set_cons_zero, List.set_cons_succ]
      refine wpAnyH_take (i := 3) (v := ?_) rfl (by kernel_rfl) (by kernel_rfl) (by kernel_rfl) (fun _ _ _ h => h) (Or.inl ⟨by rfl, ?_⟩) (by assumption) ?_
      rotate_left 1
      · (intro wS hSw; (try dsimp only at hSw); go_simp; try with_reducible rfl)
      try simp only [List.getElem_toArray, List.getElem_cons_zero, List.getElem_cons_succ, Act.put, List.setIfInBounds_toArray, List.set_cons_zero, List.set_cons_succ]
      refine wpAnyH_take (i := 4) (v := ?_) rfl (by kernel_rfl) (by kernel_rfl) (by kernel_rfl) (fun _ _ _ h => h) (Or.inl ⟨by rfl, ?_⟩) (by assumption) ?_
      rotate_left 1
      · (intro wS hSw; (try dsimp only at hSw); go_simp; try with_reducible rfl)
      try simp only [List.getElem_toArray, List.getElem_cons_zero, List.getElem_cons_succ, Act.put, List.setIfInBounds_toArray, List.set_cons_zero, List.set_cons_succ]
      refine wpAnyH_take (i := 5) (v := ?_) rfl (by kernel_rfl) (by kernel_rfl) (by kernel_rfl) (fun _ _ _ h => h) (Or.inl ⟨by rfl, ?_⟩) (by assumption) ?_
      rotate_left 1
      · (intro wS hSw; (try dsimp only at hSw); go_simp; try with_reducible rfl)
      try simp only [List.getElem_toArray, List.getElem_cons_zero, List.getElem_cons_succ, Act.put, List.setIfInBounds_toArray, List.set_cons_zero, List.set_cons_succ]
      refine wpAnyH_take (i := 6) (v := ?_) rfl (by kernel_rfl) (by kernel_rfl) (by kernel_rfl) (fun _ _ _ h => h) (Or.inl ⟨by rfl, ?_⟩) (by assumption) ?_
      rotate_left 1
      · (intro wS hSw; (try dsimp only at hSw); go_simp; try with_reducible rfl)
      try simp only [List.getElem_toArray, List.getElem_cons_zero, List.getElem_cons_succ, Act.put, List.setIfInBounds_toArray, List.set_cons_zero, List.set_cons_succ]
      refine wpAnyH_take (i := 7) (v := ?_) rfl (by kernel_rfl) (by kernel_rfl) (by kernel_rfl) (fun _ _ _ h => h) (Or.inl ⟨by rfl, ?_⟩) (by assumption) ?_
      rotate_left 1
      · (intro wS hSw; (try dsimp only at hSw); go_simp; try with_reducible rfl)
      try simp only [List.getElem_toArray, List.getElem_cons_zero, List.getElem_cons_succ, Act.put, List.setIfInBounds_toArray, List.set_cons_zero, List.set_cons_succ]
      refine wpAnyH_take (i := 8) (v := ?_) rfl (by kernel_rfl) (by kernel_rfl) (by kernel_rfl) (fun _ _ _ h => h) (Or.inl ⟨by rfl, ?_⟩) (by assumption) ?_
      rotate_left 1
      · (intro wS hSw; (try dsimp only at hSw); go_simp; try with_reducible rfl)
      try simp only [List.getElem_toArray, List.getElem_cons_zero, List.getElem_cons_succ, Act.put, List.setIfInBounds_toArray, List.set_cons_zero, List.set_cons_succ]
      refine wpAnyH_done (by kernel_rfl) ?_ _
      refine NoPanic.normal ?_
      go_wp2_with fail
      go_roundw
      case rel => exact ⟨k + 1, by omega, by go_num, HB.out.drew⟩
      case measure => simp [intOf]; omega
    · go_wp2_with fail
      go_ret
      exact ⟨rfl, hb⟩
end Go.Proofs.Ytohglcbakepejaa
