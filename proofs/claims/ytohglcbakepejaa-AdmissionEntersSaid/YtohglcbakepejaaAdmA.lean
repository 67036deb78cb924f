/- admission: numbers, most, within. -/
import Derived.Test.YtohglcbakepejaaRead
import Derived.Test.YtohglcbakepejaaAdmPlain
import Derived.Deep.RegionHeld3
set_option linter.unusedSimpArgs false
set_option linter.unusedVariables false
namespace Go.Proofs.Ytohglcbakepejaa
open Go.RowKit
theorem sz3 : ∀ w, (Go.sizeOf 3).run Try.prog w = .ok 1 w := fun _ => by kernel_rfl
theorem idx4 {k : Int} {cs : Array Value} {v : Value} (h0 : 0 ≤ k) (h1 : k < 4) (hv : cs[k.toNat]? = some v) (w : World) :
    (Instr.index 43 (.agg cs) (.int .i64 k)).run Try.prog w = .ok v w :=
  run_index_arr Try.underlying43 (by kernel_rfl) sz3 h0 h1 hv w
set_option maxHeartbeats 400000 in
theorem numbers_any (x : Ex) (w : World) :
    Calls Try.prog 19 #[.agg #[.int .i64 x.f, .int .i64 x.u, .int .i64 x.h, .int .i64 x.c, .int .i64 x.i]] w fun e w' => e = .returned (.agg #[.int .i64 x.u, .int .i64 x.h, .int .i64 x.c, .int .i64 x.i]) ∧ Below w.heap.size w w' := by
  obtain ⟨f, u, h, c, i⟩ := x
  go_enter Try.func19, Try.ntmps19
  go_wp2
  exact bodyPost_row1 rfl rfl (blk_new (by simp)) Try.underlying43 rfl rfl ⟨rfl, ((Below.refl _ _).alloc (Nat.le_refl _) _).alloc (by simp) _⟩
set_option maxHeartbeats 400000 in
theorem most_any (w : World) :
    Calls Try.prog 22 #[] w fun e w' => e = .returned (.agg #[.int .i64 64, .int .i64 64, .int .i64 512, .int .i64 1000]) ∧ Below w.heap.size w w' := by
  go_enter Try.func22, Try.ntmps22
  go_wp2
  exact bodyPost_row1 rfl rfl (blk_new rfl) Try.underlying43 rfl rfl ⟨rfl, (Below.refl _ _).alloc (Nat.le_refl _) _⟩
def le4 (b0 b1 b2 b3 n0 n1 n2 n3 : Int) : Bool := decide (n0 ≤ b0 ∧ n1 ≤ b1 ∧ n2 ≤ b2 ∧ n3 ≤ b3)
set_option maxHeartbeats 1000000 in
theorem within4_any (b0 b1 b2 b3 n0 n1 n2 n3 : Int) (w : World) :
    Calls Try.prog 21 #[.agg #[.int .i64 b0, .int .i64 b1, .int .i64 b2, .int .i64 b3], .agg #[.int .i64 n0, .int .i64 n1, .int .i64 n2, .int .i64 n3]] w fun e w' => e = .returned (.bool (le4 b0 b1 b2 b3 n0 n1 n2 n3)) ∧ Below w.heap.size w w' := by
  have i0 := fun cs v hv w => @idx4 0 cs v (by decide) (by decide) hv w
  have i1 := fun cs v hv w => @idx4 1 cs v (by decide) (by decide) hv w
  have i2 := fun cs v hv w => @idx4 2 cs v (by decide) (by decide) hv w
  have i3 := fun cs v hv w => @idx4 3 cs v (by decide) (by decide) hv w
  go_enter Try.func21, Try.ntmps21
  go_wp2
  go_loop [8] (fun i => ∃ k : Nat, k ≤ 4 ∧ i = .int .i64 k ∧ (1 ≤ k → n0 ≤ b0) ∧ (2 ≤ k → n1 ≤ b1) ∧ (3 ≤ k → n2 ≤ b2) ∧ (4 ≤ k → n3 ≤ b3)) (fun i => 4 - (intOf i).toNat)
  case atStart => exact ⟨0, by omega, rfl, by omega, by omega, by omega, by omega⟩
  case round =>
    obtain ⟨k, hk, rfl, h1, h2, h3, h4⟩ := hrel
    have : k = 0 ∨ k = 1 ∨ k = 2 ∨ k = 3 ∨ k = 4 := by omega
    rcases this with rfl | rfl | rfl | rfl | rfl
    all_goals
      have H1 := Lib.hid h1; clear h1
      have H2 := Lib.hid h2; clear h2
      have H3 := Lib.hid h3; clear h3
      have H4 := Lib.hid h4; clear h4
      go_wp2
    all_goals have h1 := H1.out; have h2 := H2.out; have h3 := H3.out; have h4 := H4.out; clear H1 H2 H3 H4
    all_goals
      first
      | (go_ret
         exact ⟨ret_bool (by simp [le4]; omega), ((Below.refl _ _).alloc (Nat.le_refl _) _).alloc (by simp) _⟩)
      | (go_round
         case rel => first | exact ⟨1, by omega, rfl, by omega, by omega, by omega, by omega⟩ | exact ⟨2, by omega, rfl, by omega, by omega, by omega, by omega⟩ | exact ⟨3, by omega, rfl, by omega, by omega, by omega, by omega⟩ | exact ⟨4, by omega, rfl, by omega, by omega, by omega, by omega⟩
         case measure => simp [intOf])
end Go.Proofs.Ytohglcbakepejaa
