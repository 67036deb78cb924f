/- recordlinkmake: Pick, Mod of any number; what FromDay and its reference return, in one form. -/
import Derived.Test.YtbibdpoempjcnaaLib2
import Derived.Test.YtbibdpoempjcnaaRefDateB
import Derived.Test.YtbibdpoempjcnaaMakeB
set_option linter.unusedSimpArgs false
set_option linter.unusedVariables false
namespace Go.Proofs.Ytbibdpoempjcnaa
open Go.RowKit Cal
def PickPost (D : Nat) (w : World) (e : Ending) (w' : World) : Prop := ∃ s : ByteArray, e = .returned (.string s) ∧ Moved D w w'
set_option maxHeartbeats 400000 in
theorem pick_any (D : Nat) (w : World) (b n cap : Nat) (h : DeckAt w D) (hn : 1 ≤ n) (hn2 : n ≤ 1000) (hb : b ≠ D) (cs : Array Value) (t : TypeId) (hw : w.heap[b]? = some (.cells cs t (0, 0))) (hc : ∀ i, i < n → ∃ s : ByteArray, cs[i]? = some (.string s)) :
    Calls Try.prog 30 #[.pointer (some ⟨D, 0, none⟩), .slice (some ⟨b, 0, none⟩) n cap] w (PickPost D w) := by
  have HW := Lib.hid hw; clear hw
  have HC := Lib.hid hc; clear hc
  go_enter Try.func30, Try.ntmps30
  go_wp2_with fail
  refine (next_any D _ _ h (by omega) (by omega)).mono ?_
  rintro e w1 ⟨r, rfl, r0, r1, mv⟩
  have MV := Lib.hid mv; clear mv
  obtain ⟨r, rfl⟩ := Int.eq_ofNat_of_zero_le r0
  obtain ⟨s, hs⟩ := HC.out r (by omega)
  have hcell : w1.cell? ⟨b, r, none⟩ = some (.string s) := (cell_of_row _ _ _ _ _ _ (MV.out.blk hb HW.out)).trans hs
  clear hs
  go_wp2_with fail
  go_ret
  exact ⟨s, rfl, MV.out⟩
def ModPost (n : Int) (w : World) (e : Ending) (w' : World) : Prop := ∃ r : Nat, e = .returned (.int .i64 r) ∧ (r : Int) < n ∧ w = w'
set_option maxHeartbeats 400000 in
theorem mod_some (x n : Int) (w : World) (hx : -9223372036854775808 ≤ x) (hx2 : x ≤ 9223372036854775807) (hn : 1 ≤ n) (hn2 : n ≤ 1000000000) :
    Calls Try.prog 29 #[.int .i64 x, .int .i64 n] w (ModPost n w) := by
  have h1 : -n < x.tmod n ∧ x.tmod n < n := by
    have := Int.tmod_lt_of_pos x (show 0 < n by omega)
    have h2 := Int.lt_tmod_of_pos x (show 0 < n by omega)
    omega
  obtain ⟨h1, h2⟩ := h1
  have h3 : 0 ≤ x.tmod n + n := by omega
  have h4 : 0 ≤ (x.tmod n + n) % n := Int.emod_nonneg _ (by omega)
  have h5 : (x.tmod n + n) % n < n := Int.emod_lt_of_pos _ (by omega)
  have H4 := Lib.hid h4; clear h4
  have H5 := Lib.hid h5; clear h5
  have HX := Lib.hid hx; have HX2 := Lib.hid hx2
  have hw : wrap64 (x.tmod n) = x.tmod n := IntWalk.wrap64_in _ ⟨by omega, by omega⟩
  have hw2 : wrap64 (x.tmod n + n) = x.tmod n + n := IntWalk.wrap64_in _ ⟨by omega, by omega⟩
  clear hx hx2
  go_enter Try.func29, Try.ntmps29
  go_wp2
  go_ret
  exact ⟨((x.tmod n + n) % n).toNat, by rw [Int.toNat_of_nonneg H4.out]; simp, by rw [Int.toNat_of_nonneg H4.out]; exact H5.out, rfl⟩
/-- what FromDay returns: the date with the number, or the error -/
def IsFrom (n a b c e : Int) : Prop := (e = 0 ∧ vldB a b c = true ∧ num a b c = n) ∨ (e = 2 ∧ a = 0 ∧ b = 0 ∧ c = 0 ∧ (n < 0 ∨ 146097 ≤ n))
theorem from_same {n a b c e a' b' c' e' : Int} (h : IsFrom n a b c e) (h' : IsFrom n a' b' c' e') : a = a' ∧ b = b' ∧ c = c' ∧ e = e' := by
  rcases h with ⟨h1, h2, h3⟩ | ⟨h1, h2, h3, h4, h5⟩ <;> rcases h' with ⟨k1, k2, k3⟩ | ⟨k1, k2, k3, k4, k5⟩
  · have := (num_inj _ _ _ _ _ _ h2 k2).1 (by rw [h3, k3]); omega
  · have := num_bd _ _ _ h2; omega
  · have := num_bd _ _ _ k2; omega
  · omega
def FromAny (n : Int) (w : World) (e : Ending) (w' : World) : Prop := (∃ a b c x : Int, e = .returned (.tuple #[.agg #[.int .i64 a, .int .i64 b, .int .i64 c], .int .i64 x]) ∧ IsFrom n a b c x) ∧ Below w.heap.size w w'
theorem from_any (n : Int) (w : World) (hm : n ≤ 9223372036854775807) : Calls Try.prog 20 #[.int .i64 n] w (FromAny n w) := by
  by_cases h : n < 0
  · exact (from_neg n w h).mono fun e w' ⟨he, hb⟩ => ⟨⟨0, 0, 0, 2, he, .inr ⟨rfl, rfl, rfl, rfl, .inl h⟩⟩, hb⟩
  · by_cases h2 : 146097 ≤ n
    · exact (from_big n w h2 hm).mono fun e w' ⟨he, hb⟩ => ⟨⟨0, 0, 0, 2, he, .inr ⟨rfl, rfl, rfl, rfl, .inr h2⟩⟩, hb⟩
    · exact (from_in n w (by omega) (by omega)).mono fun e w' ⟨⟨y, m, d, he, hv, hn⟩, hb⟩ => ⟨⟨y, m, d, 0, he, .inl ⟨rfl, hv, hn⟩⟩, hb⟩
theorem rfrom_any (n : Int) (w : World) (hm : n ≤ 9223372036854775807) : Calls Try.prog 33 #[.int .i64 n] w (FromAny n w) := by
  by_cases h : n < 0
  · exact (rfrom_neg n w h).mono fun e w' ⟨he, hb⟩ => ⟨⟨0, 0, 0, 2, he, .inr ⟨rfl, rfl, rfl, rfl, .inl h⟩⟩, hb⟩
  · by_cases h2 : 146097 ≤ n
    · exact (rfrom_big n w h2 hm).mono fun e w' ⟨he, hb⟩ => ⟨⟨0, 0, 0, 2, he, .inr ⟨rfl, rfl, rfl, rfl, .inr h2⟩⟩, hb⟩
    · exact (rfrom_in n w (by omega) (by omega)).mono fun e w' ⟨⟨y, m, d, he, hv, hn⟩, hb⟩ => ⟨⟨y, m, d, 0, he, .inl ⟨rfl, hv, hn⟩⟩, hb⟩
theorem dateV_tuple (v : Bool) (y m d e : Int) : ∃ a b c x : Int, dateV v y m d e = .tuple #[.agg #[.int .i64 a, .int .i64 b, .int .i64 c], .int .i64 x] := ⟨_, _, _, _, rfl⟩
theorem parseV_tuple (s : ByteArray) : ∃ a b c x : Int, parseV s = .tuple #[.agg #[.int .i64 a, .int .i64 b, .int .i64 c], .int .i64 x] := by
  unfold parseV
  repeat' split
  all_goals exact dateV_tuple _ _ _ _ _
def readV (s : ByteArray) : Value := bif decide (s.size = 8) then dateL (s.data.toList.take 4) ((s.data.toList.drop 4).take 2) ((s.data.toList.drop 6).take 2) else dateV false 0 0 0 4
theorem readV_tuple (s : ByteArray) : ∃ a b c x : Int, readV s = .tuple #[.agg #[.int .i64 a, .int .i64 b, .int .i64 c], .int .i64 x] := by
  unfold readV
  cases decide (s.size = 8)
  · exact dateV_tuple _ _ _ _ _
  · exact dateV_tuple _ _ _ _ _
theorem written_len (y m d f : Int) : (writtenL y m d f).length = 10 := by
  unfold writtenL
  repeat' split
  all_goals simp [dg_len]
end Go.Proofs.Ytbibdpoempjcnaa
