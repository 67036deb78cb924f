/- plain laws of exposures, and rows over a deck's moves. -/
import Derived.Test.YtohglcbakepejaaAdmE
import Derived.Test.YtohglcbakepejaaAdmF
set_option linter.unusedSimpArgs false
set_option linter.unusedVariables false
namespace Go.Proofs.Ytohglcbakepejaa
open Go.RowKit
theorem deck_law2 {w w1 : World} {a : Option Addr} {n cap : Nat} {zs : List Int} (hn : n ≤ 400) (hr : IsRow .i64 w a n cap zs) (hb : Below w.heap.size w w1) :
    DeckAt (w1.alloc (.cells #[.slice a n cap, .int .i64 0, .int .u64 11400714819323198485] 40)) w1.heap.size :=
  deck_new hn fun h0 => by
    obtain ⟨b, off, e1, e2, e3⟩ := hr.read h0
    exact ⟨b, off, e1, Nat.lt_of_lt_of_le e2 hb.size, fun i hi => by obtain ⟨x, hx⟩ := e3 i hi; exact ⟨x, (hb.cell (p := ⟨b, off + i, none⟩) e2).trans hx⟩⟩
theorem ExRow.all {w : World} {S : Nat → Prop} {v : Value} {l : List Ex} (h : ExRow w S v l) : ExRow w (All w) v l := Row.move h fun b hb _ => ⟨rfl, hb⟩
theorem ExRow.moved {D : Nat} {w w' : World} {v : Value} {l : List Ex} (h : ExRow w (fun b => D < b) v l) (m : Moved D w w') : ExRow w' (fun b => D < b) v l :=
  Row.move h fun b hb hD => ⟨m.grown.block b hb (by simp; omega), hD⟩
theorem ExRow.past {D : Nat} {w w' : World} {v : Value} {l : List Ex} (h : ExRow w' (fun b => w.heap.size ≤ b) v l) (m : Moved D w w') : ExRow w' (fun b => D < b) v l :=
  Row.move h fun b hb hD => ⟨rfl, Nat.lt_of_lt_of_le m.lt hD⟩
theorem expos_int (D : Nat) (w : World) (x : Int) (h : DeckAt w D) (h1 : 1 ≤ x) (h4 : x ≤ 4) :
    Calls Try.prog 9 #[.pointer (some ⟨D, 0, none⟩), .int .i64 x] w (ExposPost D x.toNat w) := by
  obtain ⟨n, rfl⟩ : ∃ n : Nat, x = (n : Int) := ⟨x.toNat, by omega⟩
  exact expos_any D n w h (by omega)
theorem chk_of {l : List Ex} (h1 : 1 ≤ l.length) (h5 : l.length ≤ 5) (h : ∀ j, (hj : j < l.length) → (l[j]).ok (j : Int)) : chkE l = 0 := by
  have : okAll 0 l := (okAll_iff l 0).2 fun j hj => by rw [Nat.zero_add]; exact h j hj
  unfold chkE; rw [if_pos ⟨h1, h5⟩, if_pos this]
theorem dealt_chk {l : List Ex} (h1 : 1 ≤ l.length) (h5 : l.length ≤ 5) (h : Dealt l) : chkE l = 0 := by
  refine chk_of h1 h5 fun j hj => ?_
  have := h j hj
  unfold Ex.dealt at this
  unfold Ex.ok Ex.inB
  omega
theorem chk_max {a b : List Ex} (ha : chkE a = 0) (hb : chkE b = 0) (hl : a.length = b.length) : chkE (maxAll 0 a b) = 0 := by
  obtain ⟨⟨a1, a5⟩, ha⟩ := chk_ok ha
  obtain ⟨_, hb⟩ := chk_ok hb
  have hm := maxAll_len a 0 b hl
  refine chk_of (by omega) (by omega) fun j hj => ?_
  rw [maxAll_get a 0 b hl j (by omega) (by omega) hj]
  have h1 := ha j (by omega); have h2 := hb j (by omega)
  unfold Ex.ok Ex.inB at *
  simp only [Ex.max2]
  omega
theorem le_left {a b : List Ex} (hl : a.length = b.length) : leAll a (maxAll 0 a b) := by
  rw [leAll_iff]; intro j hj hj'
  rw [maxAll_get a 0 b hl j (by omega) (by omega) hj']
  unfold Ex.le; simp only [Ex.max2]; omega
theorem le_right {a b : List Ex} (hl : a.length = b.length) : leAll b (maxAll 0 a b) := by
  have hm := maxAll_len a 0 b hl
  rw [leAll_iff]; intro j hj hj'
  rw [maxAll_get a 0 b hl j (by omega) (by omega) hj']
  unfold Ex.le; simp only [Ex.max2]; omega
theorem le_refl_all (a : List Ex) : leAll a a := by
  rw [leAll_iff]; intro j hj hj'; unfold Ex.le; omega
theorem le_trans_all {a b c : List Ex} (hl : a.length = b.length) (h1 : leAll a b) (h2 : leAll b c) : leAll a c := by
  rw [leAll_iff] at *; intro j hj hj'
  have := h1 j hj (by omega); have := h2 j (by omega) hj'
  unfold Ex.le at *; omega
theorem admit_le {b l : List Ex} (hb : chkE b = 0) (hl : chkE l = 0) (he : b.length = l.length) : decide (admitE b l = 0) = decide (leAll l b) := by
  have : check2 b l = 0 := by simp [check2, hb, hl, he]
  unfold admitE
  rw [if_neg (by simp [this])]
  by_cases h : leAll l b <;> simp [h]
end Go.Proofs.Ytohglcbakepejaa
