/- The deck of recordlinkmake: contracts of New, Word, Next, One, Few: whatever the list of at most 400 numbers, a number within its bounds is dealt, and the deck alone has changed. -/
import Derived.Test.YtohglcbakepejaaLib
set_option linter.unusedSimpArgs false
set_option linter.unusedVariables false
namespace Go.Proofs.Ytohglcbakepejaa
open Go.RowKit

theorem bits_u64_bd (op : BinOp) (x y : Int) : 0 ≤ bits op .u64 x y ∧ bits op .u64 x y < 18446744073709551616 := by
  have : ∃ e, bits op .u64 x y = IntKind.u64.wrap e := by unfold bits; exact ⟨_, rfl⟩
  obtain ⟨e, he⟩ := this
  rw [he]
  simp only [IntKind.wrap, IntKind.bits, IntKind.signed]
  simp
  omega

theorem grown_refl (w : World) (r : Option Nat) : w.grownBy w r := ⟨rfl, rfl, rfl, Nat.le_refl _, fun _ _ _ => rfl⟩
theorem grown_trans {w w1 w2 : World} {r : Option Nat} (h : w.grownBy w1 r) (h' : w1.grownBy w2 r) : w.grownBy w2 r :=
  ⟨h'.os.trans h.os, h'.tape.trans h.tape, h'.output.trans h.output, Nat.le_trans h.size h'.size, fun k hk hr => (h'.block k (Nat.lt_of_lt_of_le hk h.size) hr).trans (h.block k hk hr)⟩
theorem grown_drewN {w w1 : World} {r : Option Nat} (h : w.grownBy w1 r) (n : Nat) : w.grownBy (w1.drewN n) r := ⟨h.os, h.tape, h.output, h.size, h.block⟩
theorem grown_drew {w w1 : World} {r : Option Nat} (h : w.grownBy w1 r) : w.grownBy w1.drew r := ⟨h.os, h.tape, h.output, h.size, h.block⟩
theorem grown_set {w w1 : World} {D i : Nat} {v : Value} (h : w.grownBy w1 (some D)) : w.grownBy (w1.setCell ⟨D, i, none⟩ v) (some D) :=
  grown_trans h ⟨rfl, rfl, rfl, by simp [World.setCell], fun k hk hr => heap_setCell_other _ _ _ _ (fun e => hr (by rw [e]))⟩
theorem grown_below {w w1 : World} {r : Option Nat} (h : Below w.heap.size w w1) : w.grownBy w1 r := ⟨h.os, h.tape, h.output, h.size, fun k hk _ => h.block k hk⟩
theorem grown_alloc {w w1 : World} {r : Option Nat} (h : w.grownBy w1 r) (o : Obj) : w.grownBy (w1.alloc o) r := grown_trans h (grown_below ((Below.refl _ _).alloc (Nat.le_refl _) _))
theorem grown_blk {w w1 : World} {D k : Nat} {o : Obj} (h : w.grownBy w1 (some D)) (ho : w.heap[k]? = some o) (hk : k ≠ D) : w1.heap[k]? = some o := by
  have hlt : k < w.heap.size := by
    rcases Nat.lt_or_ge k w.heap.size with h' | h'
    · exact h'
    · simp [Array.getElem?_eq_none h'] at ho
  rw [h.block k hlt (by simpa using hk)]; exact ho

/-- a slice of ints that can be read, in a block below D -/
def ListAt (w : World) (D : Nat) (s : Value) (n : Nat) : Prop :=
  ∃ a cap, s = .slice a n cap ∧ n ≤ 400 ∧ (0 < n → ∃ b off, a = some ⟨b, off, none⟩ ∧ b < D ∧ ∀ i, i < n → ∃ x : Int, w.cell? ⟨b, off + i, none⟩ = some (.int .i64 x))
theorem ListAt.same {w w1 : World} {D n : Nat} {s : Value} (h : ListAt w D s n) (hg : ∀ k, k < D → w1.heap[k]? = w.heap[k]?) : ListAt w1 D s n := by
  obtain ⟨a, cap, h1, h2, h3⟩ := h
  refine ⟨a, cap, h1, h2, fun hn => ?_⟩
  obtain ⟨b, off, h4, h5, h7⟩ := h3 hn
  refine ⟨b, off, h4, h5, fun i hi => ?_⟩
  obtain ⟨x, hx⟩ := h7 i hi
  exact ⟨x, (World.cell?_of_block (w := w) (a := ⟨b, off + i, none⟩) (hg b h5)).trans hx⟩
/-- a deck lies in block D -/
def DeckAt (w : World) (D : Nat) : Prop :=
  ∃ (s : Value) (n : Nat) (t st : Int), w.heap[D]? = some (.cells #[s, .int .i64 t, .int .u64 st] 40 (0, 0)) ∧ ListAt w D s n ∧ 0 ≤ t ∧ t ≤ n
theorem DeckAt.lt {w : World} {D : Nat} (h : DeckAt w D) : D < w.heap.size := by
  obtain ⟨s, n, t, st, h, _⟩ := h
  exact (Array.getElem?_eq_some_iff.1 h).1
theorem DeckAt.same {w w1 : World} {D : Nat} (h : DeckAt w D) (hg : ∀ k, k ≤ D → w1.heap[k]? = w.heap[k]?) : DeckAt w1 D := by
  obtain ⟨s, n, t, st, h1, h2, h3⟩ := h
  exact ⟨s, n, t, st, (hg D (Nat.le_refl _)).trans h1, h2.same fun k hk => hg k (Nat.le_of_lt hk), h3⟩
/-- a deck is as it was behind whatever leaves all that was there as it was -/
theorem DeckAt.below {w w1 : World} {D : Nat} (h : DeckAt w D) (hb : Below w.heap.size w w1) : DeckAt w1 D := by
  have hlt := h.lt
  exact h.same fun k hk => hb.block k (by omega)
/-- w' is w, but for the deck in block D, which has moved on, and for new blocks -/
structure Moved (D : Nat) (w w' : World) : Prop where
  grown : w.grownBy w' (some D)
  deck : DeckAt w' D
  lt : D < w.heap.size
theorem Moved.start {D : Nat} {w : World} (h : DeckAt w D) : Moved D w w := ⟨grown_refl _ _, h, h.lt⟩
theorem Moved.trans {D : Nat} {w w1 w2 : World} (h : Moved D w w1) (h' : Moved D w1 w2) : Moved D w w2 := ⟨grown_trans h.grown h'.grown, h'.deck, h.lt⟩
theorem Moved.below {D : Nat} {w w1 w2 : World} (h : Moved D w w1) (hb : Below w1.heap.size w1 w2) : Moved D w w2 := ⟨grown_trans h.grown (grown_below hb), h.deck.below hb, h.lt⟩
theorem Moved.alloc {D : Nat} {w w1 : World} (h : Moved D w w1) (o : Obj) : Moved D w (w1.alloc o) := h.below ((Below.refl _ _).alloc (Nat.le_refl _) _)
theorem Moved.drew {D : Nat} {w w1 : World} (h : Moved D w w1) : Moved D w w1.drew := h.below (Below.refl _ _).drew
theorem Moved.drewN {D : Nat} {w w1 : World} (h : Moved D w w1) (n : Nat) : Moved D w (w1.drewN n) := h.below (below_drewN (Below.refl _ _) n)
theorem Moved.set {D : Nat} {w w1 : World} (h : Moved D w w1) {a : Addr} (ha : w.heap.size ≤ a.block) (v : Value) : Moved D w (w1.setCell a v) := by
  have := h.lt
  refine ⟨⟨h.grown.os, h.grown.tape, h.grown.output, by simpa [World.setCell] using h.grown.size, fun k hk hr => ?_⟩, h.deck.same fun k hk => heap_setCell_other _ _ _ _ (by omega), this⟩
  rw [heap_setCell_other _ _ _ _ (by omega)]; exact h.grown.block k hk hr
theorem Moved.blk {D k : Nat} {w w1 : World} {o : Obj} (h : Moved D w w1) (hk : k ≠ D) (ho : w.heap[k]? = some o) : w1.heap[k]? = some o := grown_blk h.grown ho hk
theorem Moved.size {D : Nat} {w w1 : World} (h : Moved D w w1) : w.heap.size ≤ w1.heap.size := h.grown.size
/-- as seen from before the deck was made -/
theorem Moved.base {D B : Nat} {w0 w w1 : World} (h : Moved D w w1) (hb : Below B w0 w) (hB : B ≤ D) : Below B w0 w1 :=
  hb.trans ⟨h.grown.os, h.grown.tape, h.grown.output, h.grown.size, fun k hk => h.grown.block k (by have := h.lt; omega) (by simp; omega)⟩
def WordPost (D : Nat) (w : World) (e : Ending) (w' : World) : Prop :=
  ∃ r : Int, e = .returned (.int .u64 r) ∧ 0 ≤ r ∧ r < 18446744073709551616 ∧ Moved D w w'
theorem word_done {D n : Nat} {w w' : World} {s : Value} {r t st : Int} (hL : ListAt w D s n) (hg : w.grownBy w' (some D)) (hD : w'.heap[D]? = some (.cells #[s, .int .i64 t, .int .u64 st] 40 (0, 0)))
    (hlt : D < w.heap.size) (h0 : 0 ≤ t) (h1 : t ≤ n) (hr : 0 ≤ r ∧ r < 18446744073709551616) : WordPost D w (.returned (.int .u64 r)) w' :=
  ⟨r, rfl, hr.1, hr.2, hg, ⟨s, n, t, st, hD, hL.same fun k hk => hg.block k (by omega) (by simp; omega), h0, h1⟩, hlt⟩
set_option maxHeartbeats 400000 in
theorem word_more (D : Nat) (w : World) (b off n cap : Nat) (t st x : Int) (hD : w.heap[D]? = some (.cells #[.slice (some ⟨b, off, none⟩) n cap, .int .i64 t, .int .u64 st] 40 (0, 0)))
    (hL : ListAt w D (.slice (some ⟨b, off, none⟩) n cap) n) (hn : n ≤ 400) (h0 : 0 ≤ t) (h1 : t < n) (hb : b < D) (hx : w.cell? ⟨b, off + t.toNat, none⟩ = some (.int .i64 x)) :
    Calls Try.prog 16 #[.pointer (some ⟨D, 0, none⟩)] w (WordPost D w) := by
  obtain ⟨p0, p1, p2⟩ := cells3 hD
  obtain ⟨f0, f1, f2⟩ := free3 hD
  obtain ⟨t, rfl⟩ := Int.eq_ofNat_of_zero_le h0
  rw [Int.toNat_natCast] at hx
  have hlt := lt_of_blk hD
  have HD := Lib.hid hD; clear hD
  go_enter Try.func16, Try.ntmps16
  go_wp2
  go_quiet (fail)
  go_wp2
  go_quiet (fail)
  go_wp2
  go_quiet (fail)
  go_wp2
  go_ret
  exact word_done hL (grown_drewN (grown_set (grown_set (grown_drewN (grown_refl w _) _))) _) (blk_set (blk_set HD.out)) hlt (by omega) (by omega) (bits_u64_bd _ _ _)
set_option maxHeartbeats 400000 in
theorem word_end (D : Nat) (w : World) (a : Option Addr) (n cap : Nat) (t st : Int) (hD : w.heap[D]? = some (.cells #[.slice a n cap, .int .i64 t, .int .u64 st] 40 (0, 0)))
    (hL : ListAt w D (.slice a n cap) n) (hn : n ≤ 400) (h0 : 0 ≤ t) (h1 : t = n) :
    Calls Try.prog 16 #[.pointer (some ⟨D, 0, none⟩)] w (WordPost D w) := by
  subst h1
  obtain ⟨p0, p1, p2⟩ := cells3 hD
  obtain ⟨f0, f1, f2⟩ := free3 hD
  have hlt := lt_of_blk hD
  have HD := Lib.hid hD; clear hD
  go_enter Try.func16, Try.ntmps16
  go_wp2
  go_quiet (fail)
  go_wp2
  go_quiet (fail)
  go_wp2
  go_ret
  exact word_done hL (grown_drewN (grown_set (grown_drewN (grown_refl w _) _)) _) (blk_set HD.out) hlt (by omega) (by omega) (bits_u64_bd _ _ _)
theorem word_any (D : Nat) (w : World) (h : DeckAt w D) :
    Calls Try.prog 16 #[.pointer (some ⟨D, 0, none⟩)] w (WordPost D w) := by
  obtain ⟨s, n, t, st, hD, hL, h0, h1⟩ := h
  have hL' := hL
  obtain ⟨a, cap, rfl, hn, h2⟩ := hL
  by_cases ht : t = n
  · exact word_end D w a n cap t st hD hL' hn h0 ht
  · have ht' : t < n := by clear h2 hL'; omega
    obtain ⟨b, off, rfl, hb, hc⟩ := h2 (by clear h2 hL'; omega)
    obtain ⟨x, hx⟩ := hc t.toNat (by clear hc h2 hL'; omega)
    exact word_more D w b off n cap t st x hD hL' hn h0 ht' hb hx

theorem next_val {r k : Int} (h0 : 0 ≤ r) (h1 : r < 18446744073709551616) (hk : 1 ≤ k) : 0 ≤ (wrap64 (r / 2)).tmod k ∧ (wrap64 (r / 2)).tmod k < k := by
  have e : wrap64 (r / 2) = r / 2 := IntWalk.wrap64_in (r / 2) (by constructor <;> omega)
  have h2 : 0 ≤ r / 2 := by omega
  rw [e, Int.tmod_eq_emod_of_nonneg h2]
  exact ⟨Int.emod_nonneg _ (by omega), Int.emod_lt_of_pos _ (by omega)⟩
def NextPost (D : Nat) (w : World) (k : Int) (e : Ending) (w' : World) : Prop :=
  ∃ r : Int, e = .returned (.int .i64 r) ∧ 0 ≤ r ∧ r < k ∧ Moved D w w'
set_option maxHeartbeats 400000 in
theorem next_any (D : Nat) (w : World) (k : Int) (h : DeckAt w D) (hk : 1 ≤ k) (hk2 : k ≤ 1000000000) :
    Calls Try.prog 8 #[.pointer (some ⟨D, 0, none⟩), .int .i64 k] w (NextPost D w k) := by
  go_enter Try.func8, Try.ntmps8
  go_wp2_with fail
  refine (word_any D _ h).mono ?_
  rintro e w1 ⟨r, rfl, h0, h1, h2⟩
  have H1 := Lib.hid h1; clear h1
  have H2 := Lib.hid h2; clear h2
  go_wp2_with fail
  go_ret
  have hv := next_val h0 H1.out hk
  exact ⟨_, rfl, hv.1, hv.2, H2.out⟩
set_option maxHeartbeats 400000 in
theorem few_any (a : Option Addr) (n cap : Nat) (w : World) :
    Calls Try.prog 6 #[.slice a n cap] w fun e w' => e = .returned (.bool (decide (n ≤ 400))) ∧ w = w' := by
  go_enter Try.func6, Try.ntmps6
  go_wp2
  go_ret
  exact ⟨ret_bool (by simp; omega), rfl⟩
set_option maxHeartbeats 400000 in
theorem new_any (a : Option Addr) (n cap : Nat) (w : World) :
    Calls Try.prog 7 #[.slice a n cap] w fun e w' => e = .returned (.pointer (some ⟨w.heap.size, 0, none⟩)) ∧ w.alloc (.cells #[.slice a n cap, .int .i64 0, .int .u64 11400714819323198485] 40) = w' := by
  go_enter Try.func7, Try.ntmps7
  go_wp2
  go_ret
  exact ⟨rfl, rfl⟩
/-- a list that can be read, and no more than 400 numbers, makes a deck -/
theorem deck_new {w : World} {a : Option Addr} {n cap : Nat} (hn : n ≤ 400) (h : 0 < n → ∃ b off, a = some ⟨b, off, none⟩ ∧ b < w.heap.size ∧ ∀ i, i < n → ∃ x : Int, w.cell? ⟨b, off + i, none⟩ = some (.int .i64 x)) :
    DeckAt (w.alloc (.cells #[.slice a n cap, .int .i64 0, .int .u64 11400714819323198485] 40)) w.heap.size := by
  refine ⟨_, n, 0, _, blk_new rfl, ⟨a, cap, rfl, hn, fun h0 => ?_⟩, by omega, by omega⟩
  obtain ⟨b, off, h1, h2, h3⟩ := h h0
  refine ⟨b, off, h1, h2, fun i hi => ?_⟩
  obtain ⟨x, hx⟩ := h3 i hi
  exact ⟨x, (World.cell?_of_block (w := w) (a := ⟨b, off + i, none⟩) (((Below.refl _ _).alloc (Nat.le_refl _) _).block b h2)).trans hx⟩
end Go.Proofs.Ytohglcbakepejaa
