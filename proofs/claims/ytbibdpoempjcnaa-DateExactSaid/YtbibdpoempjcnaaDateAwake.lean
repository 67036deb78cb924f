/- The sanity check of layer 3 returns true. -/
import Derived.Test.YtbibdpoempjcnaaDateB
import Derived.Test.YtbibdpoempjcnaaDateC
import Derived.Test.YtbibdpoempjcnaaDateD
set_option linter.unusedSimpArgs false
set_option linter.unusedVariables false
namespace Go.Proofs.Ytbibdpoempjcnaa
open Go.RowKit Cal
theorem awk_parse : parseV ⟨#[48, 50, 47, 50, 57, 47, 50, 48, 48, 48]⟩ = .tuple #[.agg #[.int .i64 2000, .int .i64 2, .int .i64 29], .int .i64 0] := by kernel_rfl
theorem awk_day : (Value.tuple #[.int .i64 (pk (vldB 1801 1 1) (num 1801 1 1)), .int .i64 (cd (vldB 1801 1 1) 4)]) = .tuple #[.int .i64 365, .int .i64 0] := by kernel_rfl
theorem awk_fmt : (Value.tuple #[.string ⟨(fmtL 2000 2 29).toArray⟩, .int .i64 (cd (vldB 2000 2 29) 4)]) = .tuple #[.string ⟨#[50, 48, 48, 48, 48, 50, 50, 57]⟩, .int .i64 0] := by kernel_rfl
set_option maxHeartbeats 1000000 in
theorem awake_any (w : World) :
    Calls Try.prog 9 #[] w fun e w' => e = .returned (.bool true) ∧ Below w.heap.size w w' := by
  have K1 := fun w => Lib.hid (parse_any ⟨#[48, 50, 47, 50, 57, 47, 50, 48, 48, 48]⟩ w); simp only [awk_parse] at K1
  have K2 := fun w => Lib.hid (day_any 1801 1 1 w); simp only [awk_day] at K2
  have K3 := fun w => Lib.hid (format_any 2000 2 29 w); simp only [awk_fmt] at K3
  go_enter Try.func9, Try.ntmps9
  go_wp2_with fail
  refine (K1 _).out.mono ?_; rintro e w1 ⟨rfl, hb1⟩
  go_wp2_with fail
  refine (K2 _).out.mono ?_; rintro e w2 ⟨rfl, hb2⟩
  have g2 := Lib.hid (blk_below hb2 (by simp) (blk_new rfl))
  obtain ⟨c0, c1, c2⟩ := cells3 g2.out
  go_wp2_with fail
  refine (K3 _).out.mono ?_; rintro e w3 ⟨rfl, hb3⟩
  clear c0 c1 c2
  obtain ⟨c0, c1, c2⟩ := cells3 (blk_below hb3 (lt_of_blk g2.out) g2.out)
  go_wp2_with fail
  refine (valid_yes _ _ _ _ (by decide)).mono ?_; rintro e w4 ⟨rfl, hb4⟩
  go_wp2_with fail
  go_ret
  have z1 := hb1.size; have z2 := hb2.size; have z3 := hb3.size
  exact ⟨rfl, ((((hb1.alloc (by simpa using z1) _).trans (hb2.mono (by simp; omega))).trans (hb3.mono (by simp at z2; omega))).trans (hb4.mono (by simp at z2; omega)))⟩
end Go.Proofs.Ytbibdpoempjcnaa
