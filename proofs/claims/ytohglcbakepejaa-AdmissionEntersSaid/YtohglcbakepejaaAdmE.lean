import Derived.Test.YtohglcbakepejaaAdmD
set_option linter.unusedSimpArgs false
set_option linter.unusedVariables false
namespace Go.Proofs.Ytohglcbakepejaa
open Go.RowKit
theorem Moved.own {D : Nat} {w w3 w4 : World} (h : Moved D w w3) (hb : Below w.heap.size w3 w4) : Moved D w w4 := by
  have := h.lt
  exact ⟨⟨hb.os.trans h.grown.os, hb.tape.trans h.grown.tape, hb.output.trans h.grown.output, Nat.le_trans h.grown.size hb.size, fun k hk hr => (hb.block k hk).trans (h.grown.block k hk hr)⟩,
    h.deck.same fun k hk => hb.block k (by omega), this⟩
/-- exposures as a deck deals them -/
def Ex.dealt (k : Int) (x : Ex) : Prop := x.f = k ∧ (0 ≤ x.u ∧ x.u ≤ 5) ∧ (0 ≤ x.h ∧ x.h ≤ 5) ∧ (0 ≤ x.c ∧ x.c ≤ 5) ∧ (0 ≤ x.i ∧ x.i ≤ 1000)
def Dealt (l : List Ex) : Prop := ∀ j, (h : j < l.length) → (l[j]).dealt (j : Int)
def ExposPost (D n : Nat) (w : World) (e : Ending) (w' : World) : Prop :=
  ∃ v l, e = .returned v ∧ ExRow w' (fun b => w.heap.size ≤ b) v l ∧ l.length = n ∧ Dealt l ∧ Moved D w w'
theorem Dealt.snoc {l : List Ex} {x : Ex} (h : Dealt l) (hx : x.dealt (l.length : Int)) : Dealt (l ++ [x]) := by
  intro j hj
  rcases Nat.lt_or_ge j l.length with h1 | h1
  · rw [List.getElem_append_left h1]; exact h j h1
  · obtain rfl : j = l.length := by simp at hj; omega
    simpa using hx
set_option maxHeartbeats 4000000 in
theorem expos_any (D n : Nat) (w : World) (h : DeckAt w D) (hn : n ≤ 1000) :
    Calls Try.prog 9 #[.pointer (some ⟨D, 0, none⟩), .int .i64 n] w (ExposPost D n w) := by
  have MV := Lib.hid (Moved.start h); clear h
  go_enter Try.func9, Try.ntmps9
  go_wp2_with fail
  go_loopw [5, 6] (fun out i wr => ∃ (k : Nat) (l : List Ex), k ≤ n ∧ i = .int .i64 k ∧ l.length = k ∧ wr.ownsRow w.heap.size 35 5 out k (exFlat l) ∧ Dealt l ∧ Moved D w wr) (fun _ i _ => n - (intOf i).toNat)
  case atStart => exact ⟨0, [], by omega, rfl, rfl, World.ownsRow_nil _ _ _ _, fun j h => by simp at h, MV.out⟩
  case round =>
    obtain ⟨k, l, hk, rfl, hl, hown, hd, mv⟩ := hrel
    have HLEN := Lib.hid hl; clear hl
    have HOWN := Lib.hid hown; clear hown
    have HD := Lib.hid hd; clear hd MV
    have MV := Lib.hid mv; clear mv
    by_cases hlt : k < n
    · go_wp2_with fail
      refine (next_any D _ _ MV.out.deck (by omega) (by omega)).mono ?_; rintro e w1 ⟨a, rfl, a0, a1, mv⟩
      have O1 := Lib.hid (HOWN.out.kept mv.grown (by right; intro he; have := HOWN.out.lt _ he; have := MV.out.lt; omega)); have M1 := Lib.hid (MV.out.trans mv); clear mv MV HOWN
      go_wp2_with fail
      refine (next_any D _ _ M1.out.deck (by omega) (by omega)).mono ?_; rintro e w2 ⟨b, rfl, b0, b1, mv⟩
      have O2 := Lib.hid (O1.out.kept mv.grown (by right; intro he; have := O1.out.lt _ he; have := M1.out.lt; omega)); have M2 := Lib.hid (M1.out.trans mv); clear mv M1 O1
      go_wp2_with fail
      refine (next_any D _ _ M2.out.deck (by omega) (by omega)).mono ?_; rintro e w3 ⟨c, rfl, c0, c1, mv⟩
      have O3 := Lib.hid (O2.out.kept mv.grown (by right; intro he; have := O2.out.lt _ he; have := M2.out.lt; omega)); have M3 := Lib.hid (M2.out.trans mv); clear mv M2 O2
      go_wp2_with fail
      refine (next_any D _ _ M3.out.deck (by omega) (by omega)).mono ?_; rintro e w4 ⟨d, rfl, d0, d1, mv⟩
      have O4 := Lib.hid (O3.out.kept mv.grown (by right; intro he; have := O3.out.lt _ he; have := M3.out.lt; omega)); have M4 := Lib.hid (M3.out.trans mv); clear mv M3 O3
      go_wp2_with (at_builtin; refine wpList_append_new rfl _ _ 28 rfl w.heap.size 35 5 40 _ Try.underlying28 infoEx rfl (by decide) (by decide) _ _ _ rfl O4.out _ 1 rfl rfl (by simp [Value.oneCell']) (by omega) M4.out.size ?_; intro v5 w5 ho5 hw5)
      go_roundw
      case rel =>
        refine ⟨k + 1, l ++ [⟨k, a, b, c, d⟩], by omega, by go_num, by simp [HLEN.out], ?_, HD.out.snoc ⟨by rw [HLEN.out], ⟨by show 0 ≤ a; omega, by show a ≤ 5; omega⟩, ⟨by show 0 ≤ b; omega, by show b ≤ 5; omega⟩, ⟨by show 0 ≤ c; omega, by show c ≤ 5; omega⟩, ⟨by show 0 ≤ d; omega, by show d ≤ 1000; omega⟩⟩, M4.out.own (hw5 _ (Below.refl _ _))⟩
        have e2 : exFlat (l ++ [⟨k, a, b, c, d⟩]) = exFlat l ++ Ex.cells ⟨k, a, b, c, d⟩ := by simp [exFlat]
        rw [e2]
        exact ho5
      case measure => simp [intOf]; omega
    · go_wp2_with fail
      go_ret
      obtain rfl : k = n := by omega
      exact ⟨_, l, rfl, by unfold ExRow; rw [HLEN.out]; exact Row.owns HOWN.out fun b hb _ => hb, HLEN.out, HD.out, MV.out⟩
end Go.Proofs.Ytohglcbakepejaa
