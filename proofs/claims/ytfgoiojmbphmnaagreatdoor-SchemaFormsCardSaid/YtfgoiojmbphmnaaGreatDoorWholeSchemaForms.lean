/-
  For every input the law SchemaForms returns true, and its arguments read afterwards as they read before; no condition.
-/
import Derived.Test.YtfgoiojmbphmnaaGreatDoorPartSchemaForms7
import Derived.Deep.AppendLies
import Derived.Deep.RegionLaw
import Derived.Deep.RegionHeld3
import Derived.Test.YtfgoiojmbphmnaaGreatDoorRows
import Derived.WalkKit
import Derived.ProofKit
import Derived.OpenShut
import Derived.ShutString
import Derived.ChangeOld
import Derived.Below
import Derived.Lib.SmallJoins
import Derived.Test.YtfgoiojmbphmnaaGreatDoorCards
import Derived.Test.YtfgoiojmbphmnaaGreatDoorTie
import Derived.LaidMore
import Derived.Lay
import Derived.SevenTiedAt
import Derived.Stop.Joined
section
/- recordlinkmake: Raw, Text: some text of bounded length. -/
set_option linter.unusedSimpArgs false
set_option linter.unusedVariables false
set_option maxRecDepth 100000
namespace Go.Proofs.YtfgoiojmbphmnaaGreatDoor
open Go.RowKit
attribute [local go_sem] toList_mk mk_size str_append
def codesD : List (List UInt8) := [[83, 87, 49, 32, 49, 65, 65], [56, 48, 48, 49], [56, 48, 32, 48, 50], [97, 45, 49]]
def addrsD : List (List UInt8) := [[49, 50, 32, 77, 97, 105, 110, 32, 83, 116, 46], [77, 97, 105, 110, 32, 83, 116, 32, 49, 50], [80, 97, 114, 107, 32, 82, 100, 32, 51, 98], [77, 97, 105, 110, 32, 83, 116, 114, 101, 101, 116], [48, 48, 55, 32, 80, 97, 114, 107, 32, 114, 100]]
def peopleD : List (List UInt8) := [[114, 111, 98, 101, 114, 116, 32, 115, 109, 105, 116, 104], [98, 111, 98, 32, 115, 109, 105, 116, 104], [114, 117, 112, 101, 114, 116], [97, 110, 110, 97, 32, 109, 105, 108, 108, 101, 114], [97, 110, 110], [111, 110, 101, 105, 108, 108], [109, 97, 114, 105, 97, 32, 118, 97, 110, 32, 115, 109, 105, 116, 104], [112, 101, 116, 101, 114]]
theorem pick_le {D N : Nat} {L : List (List UInt8)} {w w' : World} {e : Ending} (h : PickPost D L w e w') (hL : (L.all fun t => decide (t.length ≤ N)) = true) : SomeText D N w e w' := by
  obtain ⟨l, he, hl, hm⟩ := h
  exact ⟨l, he, by simpa using List.all_eq_true.1 hL l hl, hm⟩
theorem people_ok {x : List UInt8} (h : x ∈ peopleD) : (∀ b ∈ x, okB b = true) ∧ x.length ≤ 15 := by
  have : (peopleD.all fun t => t.all okB && decide (t.length ≤ 15)) = true := by decide
  have := List.all_eq_true.1 this x h
  rw [Bool.and_eq_true, List.all_eq_true, decide_eq_true_iff] at this
  exact this
theorem written_len (y m d f : Int) : (writtenL y m d f).length = 10 := by
  unfold writtenL
  split
  · simp [dg_len]
  · split <;> simp [dg_len]
set_option maxHeartbeats 4000000 in
theorem raw_deal (D : Nat) (k : Int) (w : World) (h : DeckAt w D) :
    Calls Tryz.prog 15 #[.pointer (some ⟨D, 0, none⟩), .int .i64 k] w (SomeText D 64 w) := by
  have M0 := Lib.hid (Moved.start h); clear h
  by_cases h2 : k = 2
  · subst h2
    go_enter Tryz.func15, Tryz.ntmps15
    go_wp2_with fail
    refine (one_any D _ 8 M0.out.deck (by omega) (by omega)).mono ?_
    rintro e w1 ⟨u, rfl, mv⟩
    have M1 := Lib.hid (M0.out.trans mv); clear mv
    cases u
    · go_wp2_with fail
      refine (next_any D _ 2 M1.out.deck (by omega) (by omega)).mono ?_
      rintro e w2 ⟨y, rfl, y0, y1, mv⟩
      have M2 := Lib.hid (M1.out.trans mv); clear mv
      go_wp2_with fail
      refine (next_any D _ 3 M2.out.deck (by omega) (by omega)).mono ?_
      rintro e w3 ⟨m, rfl, m0, m1, mv⟩
      have M3 := Lib.hid (M2.out.trans mv); clear mv
      go_wp2_with fail
      refine (next_any D _ 3 M3.out.deck (by omega) (by omega)).mono ?_
      rintro e w4 ⟨d, rfl, d0, d1, mv⟩
      have M4 := Lib.hid (M3.out.trans mv); clear mv
      go_wp2_with fail
      refine (next_any D _ 3 M4.out.deck (by omega) (by omega)).mono ?_
      rintro e w5 ⟨f, rfl, f0, f1, mv⟩
      have M5 := Lib.hid (M4.out.trans mv); clear mv
      go_wp2_with fail
      refine (written_any (1980 + y) (1 + m) (1 + d) f _ (by omega) (by omega)).mono ?_
      rintro e w6 ⟨rfl, hb⟩
      have M6 := Lib.hid (M5.out.below hb); clear hb
      go_wp2_with fail
      go_ret
      exact ⟨_, rfl, by rw [written_len]; omega, M6.out⟩
    · go_wp2_with fail
      go_ret
      exact ⟨[], rfl, by simp, M1.out⟩
  · have e2 : (k == 2) = false := by simpa using h2
    by_cases h3 : k = 3
    · subst h3
      clear h2 e2
      go_enter Tryz.func15, Tryz.ntmps15
      go_wp2_with fail
      refine (one_any D _ 8 M0.out.deck (by omega) (by omega)).mono ?_
      rintro e w1 ⟨u, rfl, mv⟩
      have M1 := Lib.hid (M0.out.trans mv); clear mv
      cases u
      · go_wp2_with fail
        refine (pick_new D _ w codesD 4 rfl (by omega) (by omega) M1.out).mono ?_
        intro e w2 hp
        obtain ⟨x, rfl, hx, mv⟩ := pick_le (N := 64) hp (by decide)
        have HX := Lib.hid hx; have M2 := Lib.hid mv
        clear hx mv hp
        go_wp2_with fail
        go_ret
        exact ⟨x, rfl, HX.out, M2.out⟩
      · go_wp2_with fail
        go_ret
        exact ⟨[], rfl, by simp, M1.out⟩
    · have e3 : (k == 3) = false := by simpa using h3
      by_cases h4 : k = 4
      · subst h4
        clear h2 e2 h3 e3
        go_enter Tryz.func15, Tryz.ntmps15
        go_wp2_with fail
        refine (one_any D _ 8 M0.out.deck (by omega) (by omega)).mono ?_
        rintro e w1 ⟨u, rfl, mv⟩
        have M1 := Lib.hid (M0.out.trans mv); clear mv
        cases u
        · go_wp2_with fail
          refine (pick_new D _ w addrsD 5 rfl (by omega) (by omega) M1.out).mono ?_
          intro e w2 hp
          obtain ⟨x, rfl, hx, mv⟩ := pick_le (N := 64) hp (by decide)
          have HX := Lib.hid hx; have M2 := Lib.hid mv
          clear hx mv hp
          go_wp2_with fail
          go_ret
          exact ⟨x, rfl, HX.out, M2.out⟩
        · go_wp2_with fail
          go_ret
          exact ⟨[], rfl, by simp, M1.out⟩
      · have e4 : (k == 4) = false := by simpa using h4
        clear h2 h3 h4
        go_enter Tryz.func15, Tryz.ntmps15
        go_wp2_with fail
        refine (one_any D _ 8 M0.out.deck (by omega) (by omega)).mono ?_
        rintro e w1 ⟨u, rfl, mv⟩
        have M1 := Lib.hid (M0.out.trans mv); clear mv
        cases u
        · go_wp2_with fail
          refine (pick_new D _ w peopleD 8 rfl (by omega) (by omega) M1.out).mono ?_
          rintro e w2 ⟨x, rfl, hx, mv⟩
          obtain ⟨p1, p2⟩ := people_ok hx
          have P1 := Lib.hid p1; have M2 := Lib.hid mv
          clear hx mv p1
          go_wp2_with fail
          refine (dress_any D ⟨x.toArray⟩ _ M2.out.deck (by simpa using P1.out) (by rw [mk_size]; omega)).mono ?_
          rintro e w3 ⟨o, rfl, ho, mv⟩
          have M3 := Lib.hid (M2.out.trans mv)
          have HO := Lib.hid (show o.length ≤ 64 by have := ho.len; simp at this; omega)
          clear mv ho
          go_wp2_with fail
          go_ret
          exact ⟨o, rfl, HO.out, M3.out⟩
        · go_wp2_with fail
          go_ret
          exact ⟨[], rfl, by simp, M1.out⟩
end Go.Proofs.YtfgoiojmbphmnaaGreatDoor
end
section
/- recordlinkmake: Text: some text of bounded length. -/
set_option linter.unusedSimpArgs false
set_option linter.unusedVariables false
set_option maxRecDepth 100000
namespace Go.Proofs.YtfgoiojmbphmnaaGreatDoor
open Go.RowKit
attribute [local go_sem] toList_mk mk_size str_append
def partA : List (List UInt8) := [[], [], [32], [45], [39]]
def partC : List (List UInt8) := [[32], [32], [46], [44, 32]]
def partB (a b : List UInt8) : List (List UInt8) := [a, b, [49, 50], [48, 48, 55], [51, 98], [77, 195, 188, 108, 108, 101, 114], [195, 134, 103, 105, 114], [195, 159], [79, 39, 78, 101, 105, 108, 108], [195, 151]]
def partD : List (List UInt8) := [[31], [127], [194, 160], [255], [10]]
theorem pick_partB {D : Nat} {a b : List UInt8} {w w' : World} {e : Ending} (h : PickPost D (partB a b) w e w') (ha : a.length ≤ 16) (hb : b.length ≤ 16) : SomeText D 16 w e w' := by
  obtain ⟨l, he, hl, hm⟩ := h
  refine ⟨l, he, ?_, hm⟩
  simp [partB] at hl
  rcases hl with rfl | rfl | rfl | rfl | rfl | rfl | rfl | rfl | rfl | rfl <;> simp_all
set_option maxHeartbeats 4000000 in
theorem text_deal (D : Nat) (w : World) (h : DeckAt w D) :
    Calls Tryz.prog 16 #[.pointer (some ⟨D, 0, none⟩)] w (SomeText D 200 w) := by
  have M0 := Lib.hid (Moved.start h); clear h
  go_enter Tryz.func16, Tryz.ntmps16
  go_wp2_with fail
  refine (next_any D _ 5 M0.out.deck (by omega) (by omega)).mono ?_
  rintro e w1 ⟨r, rfl, r0, r1, mv⟩
  obtain ⟨r, rfl⟩ := Int.eq_ofNat_of_zero_le r0
  have M1 := Lib.hid (M0.out.trans mv); clear mv
  go_wp2_with fail
  go_loopw [3, 4] (fun s i wr => ∃ (l : List UInt8) (k : Nat), s = strV l ∧ i = .int .i64 k ∧ l.length + 20 * k ≤ 80 ∧ Moved D w wr) (fun _ i _ => (intOf i).toNat)
  case atStart => exact ⟨[], r, rfl, rfl, by simp; omega, M1.out⟩
  case round =>
    obtain ⟨l, k, rfl, rfl, hlk, mv⟩ := hrel
    have MW := Lib.hid mv; clear mv M1
    by_cases hk : 0 < k
    · have hq : decide ((0 : Int) < k) = true := by simp; omega
      go_wp2_with fail
      refine (pick_new D _ w partA 5 rfl (by omega) (by omega) MW.out).mono ?_
      intro e w2 hp
      obtain ⟨x, rfl, hx, mv⟩ := pick_le (N := 1) hp (by decide)
      have M2 := Lib.hid mv; clear mv hp
      go_wp2_with fail
      refine (token_deal D _ M2.out.deck).mono ?_
      rintro e w3 ⟨a, rfl, ha, mv⟩
      have M3 := Lib.hid (M2.out.trans mv); clear mv
      go_wp2_with fail
      refine (token_deal D _ M3.out.deck).mono ?_
      rintro e w4 ⟨b, rfl, hb, mv⟩
      have M4 := Lib.hid (M3.out.trans mv); clear mv
      go_wp2_with fail
      refine (pick_new D _ w (partB a b) 10 rfl (by omega) (by omega) M4.out).mono ?_
      intro e w5 hp
      obtain ⟨y, rfl, hy, mv⟩ := pick_partB hp ha hb
      have M5 := Lib.hid mv; clear mv hp
      go_wp2_with fail
      refine (pick_new D _ w partC 4 rfl (by omega) (by omega) M5.out).mono ?_
      intro e w6 hp
      obtain ⟨z, rfl, hz, mv⟩ := pick_le (N := 2) hp (by decide)
      have M6 := Lib.hid mv; clear mv hp
      go_wp2_with fail
      go_roundw
      case rel => exact ⟨l ++ (x ++ y ++ z), k - 1, by simp, by congr 1; omega, by simp; omega, M6.out⟩
      case measure => simp [intOf]; omega
    · have hq : decide ((0 : Int) < k) = false := by simp; omega
      go_wp2_with fail
      refine (next_any D _ 12 MW.out.deck (by omega) (by omega)).mono ?_
      rintro e w2 ⟨q, rfl, q0, q1, mv⟩
      have M2 := Lib.hid (MW.out.trans mv); clear mv
      by_cases h0 : q = 0
      · subst h0
        go_wp2_with fail
        go_ret
        exact ⟨l ++ [195], rfl, by simp; omega, M2.out⟩
      · have e0 : (q == 0) = false := by simpa using h0
        by_cases h1 : q = 1
        · subst h1
          clear h0 e0
          go_wp2_with fail
          refine (pick_new D _ w partD 5 rfl (by omega) (by omega) M2.out).mono ?_
          intro e w3 hp
          obtain ⟨x, rfl, hx, mv⟩ := pick_le (N := 2) hp (by decide)
          have M3 := Lib.hid mv; clear mv hp
          go_wp2_with fail
          go_ret
          exact ⟨l ++ x, rfl, by simp; omega, M3.out⟩
        · have e1 : (q == 1) = false := by simpa using h1
          by_cases h2 : q = 2
          · subst h2
            clear h0 h1 e0 e1
            go_wp2_with fail
            go_loopw [3] (fun s wr => ∃ l : List UInt8, s = strV l ∧ l.length ≤ 90 ∧ wr = w2) (fun s _ => 100 - (match s with | .string b => b.size | _ => 0))
            case atStart => exact ⟨l, rfl, by omega, rfl⟩
            case round =>
              obtain ⟨m, rfl, hm, rfl⟩ := hrel
              by_cases hl : m.length < 64
              · have hq : decide ((m.length : Int) < 64) = true := by simp; omega
                go_wp2_with fail
                go_roundw
                case rel => exact ⟨m ++ [97], rfl, by simp; omega, by trivial⟩
                case measure => simp [mk_size]; omega
              · have hq : decide ((m.length : Int) < 64) = false := by simp; omega
                go_wp2_with fail
                go_ret
                exact ⟨m, rfl, by omega, M2.out⟩
          · have e2 : (q == 2) = false := by simpa using h2
            clear h0 h1 h2
            go_wp2_with fail
            go_ret
            exact ⟨l, rfl, by omega, M2.out⟩
end Go.Proofs.YtfgoiojmbphmnaaGreatDoor
end
section
/- recordlinkmake: Schema: some valid schema of one to four fields. -/
set_option linter.unusedSimpArgs false
set_option linter.unusedVariables false
set_option maxRecDepth 100000
namespace Go.Proofs.YtfgoiojmbphmnaaGreatDoor
open Go.RowKit
attribute [local go_sem] toList_mk mk_size str_append
theorem infoF : (Tryz.prog.info? 42).map (fun i => (i.zero, i.size, i.bytes)) = some (some (.agg #[.string ⟨#[]⟩, .int .i64 0]), 2, 24) := by kernel_rfl
/-- a schema that is dealt -/
structure SchemaD (s : SchemaL) : Prop where
  fields : FieldsD s.fields
  some : 1 ≤ s.fields.length
  rules : RulesD s.rules
theorem SchemaD.check {s : SchemaL} (h : SchemaD s) : checkS s = 0 := h.fields.check h.some h.rules.check
def nil4 : Array Value := #[.slice none 0 0, .slice none 0 0, .slice none 0 0, .slice none 0 0]
/-- while a schema is dealt: the result's block, the schema's, the names', the row of the fields -/
structure SMid (D : Nat) (w : World) (y : Nat) (vt vn vs : Value) (r : RulesL) (vf : Value) (F : List F2) (wr : World) : Prop where
  z : wr.heap[w.heap.size]? = some (.cells nil4 33 (0, 0))
  s : wr.heap[y]? = some (.cells #[vf, vt, vn, vs] 33 (0, 0))
  n : RowB wr (y + 1) namesD
  own : wr.ownsRow (y + 2) 42 2 vf F.length (F.flatMap encF)
  rules : RulesAt wr (fun b => w.heap.size < b ∧ b < y) vt vn vs r
  fields : FieldsD F
  moved : Moved D w wr
  lt : w.heap.size < y
theorem own_same {w w' : World} {B e size n : Nat} {v : Value} {xs : List Value} (h : w.ownsRow B e size v n xs) (hs : ∀ g, B ≤ g → g < w.heap.size → w'.heap[g]? = w.heap[g]?) : w'.ownsRow B e size v n xs := by
  refine ⟨h.1, ?_⟩
  rcases h.2 with h0 | ⟨g, cap, cur, hv, hg, hh, rest⟩
  · exact .inl h0
  · exact .inr ⟨g, cap, cur, hv, hg, (hs g hg (lt_of_blk hh)).trans hh, rest⟩
theorem own_slice {w : World} {B e size n : Nat} {v : Value} {xs : List Value} (h : w.ownsRow B e size v n xs) : ∃ a c, v = .slice a n c := by
  rcases h.2 with ⟨rfl, rfl⟩ | ⟨g, cap, cur, hv, _⟩
  · exact ⟨none, 0, rfl⟩
  · exact ⟨_, _, hv⟩
theorem own_far {w : World} {B e size n : Nat} {v : Value} {xs : List Value} (h : w.ownsRow B e size v n xs) {k : Nat} (hk : k < B) : some k ≠ v.ownBlock := by
  rcases h.2 with ⟨rfl, rfl⟩ | ⟨g, cap, cur, rfl, hg, _⟩
  · simp [Value.ownBlock]
  · simp [Value.ownBlock]; omega
theorem SMid.gone {D : Nat} {w : World} {y : Nat} {vt vn vs : Value} {r : RulesL} {vf : Value} {F : List F2} {wr wd : World} (h : SMid D w y vt vn vs r vf F wr) (hD : D < w.heap.size) (m : Moved D wr wd) : SMid D w y vt vn vs r vf F wd := by
  have hy := h.lt
  have hb : ∀ b, b < wr.heap.size → w.heap.size ≤ b → wd.heap[b]? = wr.heap[b]? := fun b hb hS => m.grown.block b hb (by simp; omega)
  refine ⟨m.blk (by omega) h.z, m.blk (by omega) h.s, m.blk (by omega) h.n, own_same h.own fun g h1 h2 => hb g h2 (by omega), ?_, h.fields, h.moved.trans m, h.lt⟩
  exact ⟨h.rules.1.move m.size fun b hb' hS => ⟨hb b hb' (by have := hS.1; omega), hS⟩, h.rules.2.1.move m.size fun b hb' hS => ⟨hb b hb' (by have := hS.1; omega), hS⟩, h.rules.2.2.move m.size fun b hb' hS => ⟨hb b hb' (by have := hS.1; omega), hS⟩⟩
theorem SMid.step {D : Nat} {w : World} {y : Nat} {vt vn vs : Value} {r : RulesL} {vf v : Value} {F : List F2} {x : F2} {wr wA w2 : World} (h : SMid D w y vt vn vs r vf F wr) (hD : D < w.heap.size) (hb : Below wr.heap.size wr wA) (hg : wA.grownBy w2 vf.ownBlock)
    (hown : w2.ownsRow (y + 2) 42 2 v (F.length + 1) (F.flatMap encF ++ encF x)) (hx : FieldsD (F ++ [x])) : SMid D w y vt vn vs r v (F ++ [x]) (w2.setCell ⟨y, 0, none⟩ v) := by
  have hy := h.lt
  have zn : y + 1 < wr.heap.size := lt_of_blk h.n
  have hz := hb.size; have hz2 := hg.size
  have k1 : ∀ k, k < y + 2 → w2.heap[k]? = wr.heap[k]? := fun k hk => (hg.block k (by omega) (own_far h.own hk)).trans (hb.block k (by omega))
  have k2 : ∀ k, k < y + 2 → k ≠ y → (w2.setCell ⟨y, 0, none⟩ v).heap[k]? = wr.heap[k]? := fun k hk hne => (heap_setCell_other _ _ _ _ hne).trans (k1 k hk)
  have hs : (w2.setCell ⟨y, 0, none⟩ v).heap.size = w2.heap.size := by simp [World.setCell]
  refine ⟨(k2 _ (by omega) (by omega)).trans h.z, blk_set (i := 0) (v := v) ((k1 y (by omega)).trans h.s), (k2 _ (by omega) (by omega)).trans h.n, ?_, ?_, hx, ?_, hy⟩
  · rw [List.length_append, List.flatMap_append, show [x].flatMap encF = encF x by simp]
    exact own_same hown fun g h1 h2 => heap_setCell_other _ _ _ _ (by simp; omega)
  · have mv : ∀ b, b < wr.heap.size → (w.heap.size < b ∧ b < y) → (w2.setCell ⟨y, 0, none⟩ v).heap[b]? = wr.heap[b]? ∧ (w.heap.size < b ∧ b < y) := fun b _ hS => ⟨k2 b (by omega) (by omega), hS⟩
    exact ⟨h.rules.1.move (by omega) mv, h.rules.2.1.move (by omega) mv, h.rules.2.2.move (by omega) mv⟩
  · have m := h.moved
    refine ⟨⟨hg.os.trans (hb.os.trans m.grown.os), hg.tape.trans (hb.tape.trans m.grown.tape), hg.output.trans (hb.output.trans m.grown.output), by have := m.size; omega, fun k hk hr => ?_⟩, m.deck.same fun k hk => k2 k (by omega) (by omega), m.lt⟩
    exact (k2 k (by omega) (by omega)).trans (m.grown.block k hk hr)
def SchemaPost (D : Nat) (w : World) (e : Ending) (w' : World) : Prop := ∃ vf vt vn vs s, e = .returned (.agg #[vf, vt, vn, vs]) ∧ SchemaAt w' (fun b => w.heap.size ≤ b) vf vt vn vs s ∧ SchemaD s ∧ Moved D w w'
end Go.Proofs.YtfgoiojmbphmnaaGreatDoor
end
section
/- recordlinkmake: Schema: the walk. -/
set_option linter.unusedSimpArgs false
set_option linter.unusedVariables false
set_option maxRecDepth 100000
namespace Go.Proofs.YtfgoiojmbphmnaaGreatDoor
open Go.RowKit
attribute [local go_sem] toList_mk mk_size str_append
def kindsD : List Int := [1, 1, 2, 4, 3]
theorem kindsD_bd (k : Nat) (hk : k < 5) : 1 ≤ kindsD.getD k 0 ∧ kindsD.getD k 0 ≤ 4 := by
  have : ∀ j : Fin 5, 1 ≤ kindsD.getD j 0 ∧ kindsD.getD j 0 ≤ 4 := by decide
  exact this ⟨k, hk⟩
theorem kinds_cell {w : World} {b : Nat} (h : w.heap[b]? = some (.cells (kindsD.map (Value.int .i64)).toArray 3 (0, 0))) (k : Nat) (hk : k < 5) : w.cell? ⟨b, k, none⟩ = some (.int .i64 (kindsD.getD k 0)) := by
  rw [cell_of_row _ _ _ _ _ _ h, List.getElem?_toArray, List.getElem?_map]
  have : k < kindsD.length := hk
  rw [List.getD, List.getElem?_eq_getElem this]; rfl
set_option maxHeartbeats 8000000 in
theorem schema_deal (D : Nat) (w : World) (h : DeckAt w D) :
    Calls Tryz.prog 11 #[.pointer (some ⟨D, 0, none⟩)] w (SchemaPost D w) := by
  have zD := h.lt
  have M0 := Lib.hid (Moved.start h); clear h
  go_enter Tryz.func11, Tryz.ntmps11
  go_wp2_with fail
  refine (rules_deal D _ (M0.out.alloc _).deck).mono ?_
  rintro e w1 ⟨vt, vn, vs, r, rfl, hr, hd, mv⟩
  obtain ⟨at', ct, rfl⟩ := hr.1.slice
  obtain ⟨an, cn, rfl⟩ := hr.2.1.slice
  obtain ⟨as', cs, rfl⟩ := hr.2.2.slice
  have zw : w.heap.size < w1.heap.size := by have := mv.size; simp at this; omega
  have X1 := Lib.hid (show w1.heap[w.heap.size]? = some (.cells nil4 33 (0, 0)) from mv.blk (by omega) (blk_new rfl))
  have M1 := Lib.hid ((M0.out.alloc _).trans mv)
  have HR := Lib.hid hr; have HRD := Lib.hid hd
  clear hr hd mv
  go_wp2_with fail
  have K0 := Lib.hid (show SMid D w w1.heap.size (.slice at' r.titles.length ct) (.slice an r.nicks.length cn) (.slice as' r.streets.length cs) r (.slice none 0 0) [] ((w1.alloc (.cells #[.slice none 0 0, .slice at' r.titles.length ct, .slice an r.nicks.length cn, .slice as' r.streets.length cs] 33)).alloc (.cells (namesD.flatMap encS).toArray 9)) from
    ⟨blk_old (blk_old X1.out), blk_old (blk_new rfl), blk_new (by simp), ⟨rfl, .inl ⟨rfl, rfl⟩⟩, by
      have hb : Below w1.heap.size w1 ((w1.alloc (.cells #[.slice none 0 0, .slice at' r.titles.length ct, .slice an r.nicks.length cn, .slice as' r.streets.length cs] 33)).alloc (.cells (namesD.flatMap encS).toArray 9)) := ((Below.refl _ _).alloc (Nat.le_refl _) _).alloc (by simp) _
      have mvv : ∀ b, b < w1.heap.size → (w.alloc (.cells nil4 33)).heap.size ≤ b → _ ∧ (w.heap.size < b ∧ b < w1.heap.size) := fun b h1 h2 => ⟨hb.block b h1, by simp at h2; omega, h1⟩
      exact ⟨HR.out.1.move hb.size mvv, HR.out.2.1.move hb.size mvv, HR.out.2.2.move hb.size mvv⟩, FieldsD.nil, (M1.out.alloc _).alloc _, zw⟩)
  refine (next_any D _ 4 K0.out.moved.deck (by omega) (by omega)).mono ?_
  rintro e w2 ⟨q, rfl, q0, q1, mv⟩
  obtain ⟨q, rfl⟩ := Int.eq_ofNat_of_zero_le q0
  have K1 := Lib.hid (K0.out.gone zD mv)
  clear mv K0 X1 M1 HR M0
  go_wp2_with fail
  go_loopw [6] (fun i wr => ∃ (k : Nat) (F : List F2) (vf : Value), i = .int .i64 k ∧ k ≤ 1 + q ∧ F.length = k ∧ SMid D w w1.heap.size (.slice at' r.titles.length ct) (.slice an r.nicks.length cn) (.slice as' r.streets.length cs) r vf F wr) (fun i _ => 1 + q - (intOf i).toNat)
  case atStart => exact ⟨0, [], _, rfl, by omega, rfl, K1.out⟩
  case round =>
    obtain ⟨k, F, vf, rfl, hk, hF, hm⟩ := hrel
    have HF := Lib.hid hF; have KM := Lib.hid hm
    clear hm hF K1
    by_cases hlt : k < 1 + q
    · have hq : decide ((k : Int) < 1 + q) = true := by simp; omega
      have hix : (k : Int) < 5 := by omega
      have hc : (wr.alloc (.cells #[.int .i64 1, .int .i64 1, .int .i64 2, .int .i64 4, .int .i64 3] 3)).cell? ⟨wr.heap.size, k, none⟩ = _ := kinds_cell (w := wr.alloc (.cells (kindsD.map (Value.int .i64)).toArray 3)) (b := wr.heap.size) (blk_new rfl) k (by omega)
      obtain ⟨kb1, kb2⟩ := kindsD_bd k (by omega)
      obtain ⟨kd, hkd⟩ : ∃ kd, kindsD.getD k 0 = kd := ⟨_, rfl⟩
      rw [hkd] at hc kb1 kb2
      clear hkd
      go_wp2_with fail
      refine (one_any D _ 4 (KM.out.moved.alloc _).deck (by omega) (by omega)).mono ?_
      rintro e w3 ⟨u, rfl, mv⟩
      have KN := Lib.hid (KM.out.gone zD (((Moved.start KM.out.moved.deck).alloc _).trans mv))
      clear hc mv
      go_upto_if 25 with (fail)
      go_cut [7] (fun s7 wx => ∃ kd : Int, s7 = .int .i64 kd ∧ 1 ≤ kd ∧ kd ≤ 4 ∧ SMid D w w1.heap.size (.slice at' r.titles.length ct) (.slice an r.nicks.length cn) (.slice as' r.streets.length cs) r vf F wx)
      case first =>
        cases u
        · go_wp2_with fail
          go_meet
          exact ⟨kd, rfl, kb1, kb2, KN.out⟩
        · go_wp2_with fail
          refine (next_any D _ 4 KN.out.moved.deck (by omega) (by omega)).mono ?_
          rintro e w4 ⟨p, rfl, p0, p1, mv⟩
          have KO := Lib.hid (KN.out.gone zD mv)
          clear mv
          go_wp2_with fail
          go_meet
          exact ⟨1 + p, rfl, by omega, by omega, KO.out⟩
      case rest =>
        obtain ⟨kx, rfl, kx1, kx2, hm⟩ := hcut
        have KX := Lib.hid hm
        clear hm KM KN kb1 kb2
        obtain ⟨av, cv, hav⟩ := own_slice KX.out.own
        rw [HF.out] at hav
        subst hav
        have cY := (cells4 KX.out.s).1
        have cN := KX.out.n.cell k (by show k < 5; omega)
        have zY := lt_of_blk KX.out.n
        have zY0 : w1.heap.size < wc.heap.size := by omega
        obtain ⟨nm, hnm⟩ : ∃ nm, namesD.getD k [] = nm := ⟨_, rfl⟩
        rw [hnm] at cN
        have HNM := Lib.hid hnm; clear hnm
        go_wp2_with fail
        have hown := own_below KX.out.own (((Below.refl _ _).alloc (Nat.le_refl _) (.cells #[strV nm, .int .i64 kx] 42)).drew)
        have hnews : ∀ j u, [strV nm, Value.int .i64 kx][j]? = some u → ((wc.alloc (.cells #[strV nm, .int .i64 kx] 42)).drew).cell? ((⟨wc.heap.size, 0, none⟩ : Addr).add j) = some u := fun j u hu => by
          rw [add_plain, World.cell?_drew, cell_of_row _ _ _ _ _ _ (heap_alloc_new wc _), Nat.zero_add]; simpa using hu
        have hone : ∀ u ∈ [strV nm, Value.int .i64 kx], u.oneCell' = true := by intro u hu; simp at hu; rcases hu with rfl | rfl <;> rfl
        obtain ⟨i0, hi, hz0, hz1, hz2⟩ := info_parts infoF
        have hbA := ((Below.refl _ wc).alloc (Nat.le_refl _) (.cells #[strV nm, .int .i64 kx] 42)).drew
        have HBA := Lib.hid hbA; have HOwn := Lib.hid hown; have HNews := Lib.hid hnews; have HOne := Lib.hid hone; have HI := Lib.hid hi; have HZ0 := Lib.hid hz0; have HZ1 := Lib.hid hz1; have HZ2 := Lib.hid hz2
        have fY := (frozen_of_row _ _ _ _ _ KX.out.s : wc.frozen? ⟨w1.heap.size, 0, none⟩ = false)
        clear hbA hown hnews hone hi hz0 hz1 hz2
        rw [HF.out] at HOwn
        go_region_law (((refine step_append_lies _ rfl (.tmp 30) (.tmp 37) 27 (by rfl) (w1.heap.size + 2) 42 i0 (.agg #[.string ⟨#[]⟩, .int .i64 0]) 2 24 Tryz.underlying27 HI.out HZ0.out HZ1.out HZ2.out rfl (by decide) (.slice av k cv) k (F.flatMap encF) (by rfl) HOwn.out ⟨wc.heap.size, 0, none⟩ 1 1 [strV nm, .int .i64 kx] (by rfl) rfl HNews.out HOne.out (by omega) (by unfold maxLen; omega) (by omega) (by simp; omega) (wc.heap.size + 1) (by simp) ?_); intro g cap w5 hown5 hg5 hat5 hlt5; have cY5 := (hg5.cell_far ⟨w1.heap.size, 0, none⟩ (by simp; omega) (own_far HOwn.out (by show w1.heap.size < _; omega))).trans ((HBA.out.cell (p := ⟨w1.heap.size, 0, none⟩) (by show w1.heap.size < _; omega)).trans cY); have fY5 := (hg5.frozen_far ⟨w1.heap.size, 0, none⟩ (by simp; omega) (own_far HOwn.out (by show w1.heap.size < _; omega))).trans ((HBA.out.frozen (p := ⟨w1.heap.size, 0, none⟩) (by show w1.heap.size < _; omega)).trans fY)))
        all_goals
          have hfd := KX.out.fields.snoc (by rw [HF.out]; omega) kx1 kx2
          rw [HF.out, HNM.out] at hfd
          have hown6 := hown5
          rw [show F.flatMap encF ++ [strV nm, .int .i64 kx] = F.flatMap encF ++ encF (nm, kx) from rfl, ← HF.out] at hown6
          have KS := Lib.hid (KX.out.step (x := (nm, kx)) zD HBA.out hg5 hown6 hfd)
          rw [HF.out] at KS
          clear hfd hown6 hown5 hg5 hat5 cY5 fY5
          go_wp2_with fail
          go_roundw
          case rel => exact ⟨k + 1, F ++ [(nm, kx)], _, by go_num, by omega, by rw [List.length_append, HF.out]; rfl, KS.out⟩
          case measure => simp [intOf]; omega
    · have hq : decide ((k : Int) < 1 + q) = false := by simp; omega
      obtain ⟨av, cv, hav⟩ := own_slice KM.out.own
      subst hav
      have HZ := Lib.hid KM.out.z
      have HM := Lib.hid KM.out.moved
      have HR := Lib.hid KM.out.rules
      have HO := Lib.hid KM.out.own
      have HFd := Lib.hid KM.out.fields
      obtain ⟨c0, c1, c2, c3⟩ := cells4 KM.out.s
      obtain ⟨d0, d1, d2, d3⟩ := cells4 KM.out.z
      have g0 := (frozen_of_row _ _ _ _ _ KM.out.z : wr.frozen? ⟨w.heap.size, 0, none⟩ = false)
      have g1 := (frozen_of_row _ _ _ _ _ KM.out.z : wr.frozen? ⟨w.heap.size, 1, none⟩ = false)
      have g2 := (frozen_of_row _ _ _ _ _ KM.out.z : wr.frozen? ⟨w.heap.size, 2, none⟩ = false)
      have g3 := (frozen_of_row _ _ _ _ _ KM.out.z : wr.frozen? ⟨w.heap.size, 3, none⟩ = false)
      have z0 := lt_of_blk KM.out.z
      have z1 := lt_of_blk KM.out.s
      clear KM
      go_wp2_with fail
      have hz := (blk_set (i := 3) (v := (.slice as' r.streets.length cs)) (blk_set (i := 2) (v := (.slice an r.nicks.length cn)) (blk_set (i := 1) (v := (.slice at' r.titles.length ct)) (blk_set (i := 0) (v := (.slice av F.length cv)) HZ.out))))
      have hm := ((((HM.out.set (a := ⟨w.heap.size, 0, none⟩) (Nat.le_refl _) (.slice av F.length cv)).set (a := ⟨w.heap.size, 1, none⟩) (Nat.le_refl _) (.slice at' r.titles.length ct)).set (a := ⟨w.heap.size, 2, none⟩) (Nat.le_refl _) (.slice an r.nicks.length cn)).set (a := ⟨w.heap.size, 3, none⟩) (Nat.le_refl _) (.slice as' r.streets.length cs))
      have hv := (((((Vec.owns (k := 2) (enc := encF) (S := fun b => w.heap.size < b) (fun _ => rfl) HO.out (fun b h1 _ => by omega)).set1 (a := ⟨w.heap.size, 0, none⟩) (fun b h => Nat.ne_of_gt h) (.slice av F.length cv)).set1 (a := ⟨w.heap.size, 1, none⟩) (fun b h => Nat.ne_of_gt h) (.slice at' r.titles.length ct)).set1 (a := ⟨w.heap.size, 2, none⟩) (fun b h => Nat.ne_of_gt h) (.slice an r.nicks.length cn)).set1 (a := ⟨w.heap.size, 3, none⟩) (fun b h => Nat.ne_of_gt h) (.slice as' r.streets.length cs))
      have ht := (((((HR.out.1.weaken (S' := fun b => w.heap.size < b) fun b h => h.1).set1 (a := ⟨w.heap.size, 0, none⟩) (fun b h => Nat.ne_of_gt h) (.slice av F.length cv)).set1 (a := ⟨w.heap.size, 1, none⟩) (fun b h => Nat.ne_of_gt h) (.slice at' r.titles.length ct)).set1 (a := ⟨w.heap.size, 2, none⟩) (fun b h => Nat.ne_of_gt h) (.slice an r.nicks.length cn)).set1 (a := ⟨w.heap.size, 3, none⟩) (fun b h => Nat.ne_of_gt h) (.slice as' r.streets.length cs))
      have hn := (((((HR.out.2.1.weaken (S' := fun b => w.heap.size < b) fun b h => h.1).set1 (a := ⟨w.heap.size, 0, none⟩) (fun b h => Nat.ne_of_gt h) (.slice av F.length cv)).set1 (a := ⟨w.heap.size, 1, none⟩) (fun b h => Nat.ne_of_gt h) (.slice at' r.titles.length ct)).set1 (a := ⟨w.heap.size, 2, none⟩) (fun b h => Nat.ne_of_gt h) (.slice an r.nicks.length cn)).set1 (a := ⟨w.heap.size, 3, none⟩) (fun b h => Nat.ne_of_gt h) (.slice as' r.streets.length cs))
      have hs := (((((HR.out.2.2.weaken (S' := fun b => w.heap.size < b) fun b h => h.1).set1 (a := ⟨w.heap.size, 0, none⟩) (fun b h => Nat.ne_of_gt h) (.slice av F.length cv)).set1 (a := ⟨w.heap.size, 1, none⟩) (fun b h => Nat.ne_of_gt h) (.slice at' r.titles.length ct)).set1 (a := ⟨w.heap.size, 2, none⟩) (fun b h => Nat.ne_of_gt h) (.slice an r.nicks.length cn)).set1 (a := ⟨w.heap.size, 3, none⟩) (fun b h => Nat.ne_of_gt h) (.slice as' r.streets.length cs))
      have hw : ∀ b, w.heap.size < b → w.heap.size ≤ b := fun b h => Nat.le_of_lt h
      have hF1 : 1 ≤ F.length := by have := HF.out; omega
      exact bodyPost_row1 rfl rfl hz Tryz.underlying33 rfl (by kernel_rfl) ⟨_, _, _, _, ⟨F, r⟩, rfl, ⟨hv.weaken hw, ht.weaken hw, hn.weaken hw, hs.weaken hw⟩, ⟨HFd.out, hF1, HRD.out⟩, hm⟩
end Go.Proofs.YtfgoiojmbphmnaaGreatDoor
end
section
/- What the laws that deal a schema share: where they stand behind it. -/
set_option linter.unusedSimpArgs false
set_option linter.unusedVariables false
set_option maxRecDepth 100000
namespace Go.Proofs.YtfgoiojmbphmnaaGreatDoor
open Go.RowKit Cal
attribute [local go_sem] toList_mk mk_size str_append
theorem SchemaAt.moved {D : Nat} {w w' : World} {S : Nat → Prop} {vf vt vn vs : Value} {s : SchemaL} (h : SchemaAt w S vf vt vn vs s) (hS : ∀ b, S b → b ≠ D) (m : Moved D w w') : SchemaAt w' S vf vt vn vs s :=
  have mv : ∀ b, b < w.heap.size → S b → w'.heap[b]? = w.heap[b]? ∧ S b := fun b hb hs => ⟨m.grown.block b hb (by have := hS b hs; simp; omega), hs⟩
  ⟨h.1.move m.size mv, h.2.1.move m.size mv, h.2.2.1.move m.size mv, h.2.2.2.move m.size mv⟩
theorem fields_cell {w : World} {S : Nat → Prop} {a : Option Addr} {n cap : Nat} {F : List F2} (h : Vec w S 2 encF (.slice a n cap) F) (h0 : 0 < F.length) : ∃ b off, a = some ⟨b, off, none⟩ ∧ S b ∧ b < w.heap.size ∧ ∀ j, j < F.length → w.cell? ⟨b, off + j * 2 + 1, none⟩ = some (.int .i64 (F.getD j default).2) := by
  obtain ⟨b, off, e, hS, hb, hc⟩ := vec_cell2 h h0
  exact ⟨b, off, e, hS, hb, fun j hj => hc j hj 1 _ rfl⟩
/-- where a law stands that has dealt a schema: the deck in block D, the schema in block y, the kind of a field in cell o of block b -/
structure Drawn (D : Nat) (w : World) (y : Nat) (S : Nat → Prop) (vf vt vn vs : Value) (s : SchemaL) (b o : Nat) (kf : Int) (wr : World) : Prop where
  m : Moved D w wr
  x : wr.heap[y]? = some (.cells #[vf, vt, vn, vs] 33 (0, 0))
  s : SchemaAt wr S vf vt vn vs s
  c : wr.cell? ⟨b, o, none⟩ = some (.int .i64 kf)
  ne : ∀ b, S b → b ≠ D
  yD : y ≠ D
  bD : b ≠ D
theorem Drawn.moved {D : Nat} {w : World} {y : Nat} {S : Nat → Prop} {vf vt vn vs : Value} {s : SchemaL} {b o : Nat} {kf : Int} {wr wd : World} (h : Drawn D w y S vf vt vn vs s b o kf wr) (m : Moved D wr wd) : Drawn D w y S vf vt vn vs s b o kf wd :=
  ⟨h.m.trans m, m.blk h.yD h.x, h.s.moved h.ne m, (World.cell?_of_block (w := wr) (a := ⟨b, o, none⟩) (m.grown.block b (World.block_lt_of_cell? _ ⟨b, o, none⟩ h.c) (by have := h.bD; simp; omega))).trans h.c, h.ne, h.yD, h.bD⟩
theorem Drawn.below {D : Nat} {w : World} {y : Nat} {S : Nat → Prop} {vf vt vn vs : Value} {s : SchemaL} {b o : Nat} {kf : Int} {wr wd : World} (h : Drawn D w y S vf vt vn vs s b o kf wr) (hb : Below wr.heap.size wr wd) : Drawn D w y S vf vt vn vs s b o kf wd :=
  h.moved ((Moved.start h.m.deck).below hb)
theorem Drawn.held {D : Nat} {w : World} {y : Nat} {S : Nat → Prop} {vf vt vn vs : Value} {s : SchemaL} {b o : Nat} {kf : Int} {wr : World} (h : Drawn D w y S vf vt vn vs s b o kf wr) :
    wr.cell? ⟨y, 0, none⟩ = some vf ∧ wr.cell? ⟨y, 1, none⟩ = some vt ∧ wr.cell? ⟨y, 2, none⟩ = some vn ∧ wr.cell? ⟨y, 3, none⟩ = some vs ∧ wr.cell? ⟨b, o, none⟩ = some (.int .i64 kf) := by
  obtain ⟨p0, p1, p2, p3⟩ := cells4 h.x
  exact ⟨p0, p1, p2, p3, h.c⟩
end Go.Proofs.YtfgoiojmbphmnaaGreatDoor
end
section
/- Plain law: the three forms of a date, and a name and an address in other dress, have one normal form. -/
set_option linter.unusedSimpArgs false
set_option linter.unusedVariables false
set_option maxRecDepth 100000
namespace Go.Proofs.YtfgoiojmbphmnaaGreatDoor
open Go.RowKit Cal
/-- the normal form of a day, and the error -/
def dayV (y m d : Int) : List UInt8 × Int := bif vldB y m d then (digits8 y m d, 0) else ([], 4)
theorem dg2_two (n : Int) : dg n 2 = [UInt8.ofNat (48 + (n / 10 % 10).toNat), UInt8.ofNat (48 + (n % 10).toNat)] := rfl
theorem dig_code (n : Int) (h : 0 ≤ n) : ((UInt8.ofNat (48 + (n % 10).toNat)).toNat : Int) = 48 + n % 10 := by
  rw [UInt8.toNat_ofNat']; omega
theorem dayF_is (y m d : Int) (hb : 1800 ≤ y ∧ y ≤ 2199 ∧ 0 ≤ m ∧ m ≤ 13 ∧ 1 ≤ d ∧ d ≤ 32) : dayF (dg y 4) (dg m 2) (dg d 2) = dayV y m d := by
  obtain ⟨b1, b2, b3, b4, b5, b6⟩ := hb
  unfold dayF dayV
  rw [numI_dg y 4 (by omega) (by omega), numI_dg m 2 (by omega) (by omega), numI_dg d 2 (by omega) (by omega)]
theorem dayN_written (y m d f : Int) (hb : 1800 ≤ y ∧ y ≤ 2199 ∧ 0 ≤ m ∧ m ≤ 13 ∧ 1 ≤ d ∧ d ≤ 32) (hf : 0 ≤ f ∧ f ≤ 2) : dayN (writtenL y m d f) = dayV y m d := by
  rw [← dayF_is y m d hb]
  obtain ⟨b1, b2, b3, b4, b5, b6⟩ := hb
  have hlen : (writtenL y m d f).length = 10 := written_len y m d f
  unfold dayN
  rw [if_pos hlen]
  have e4 : dg y 4 = dg (y / 100) 2 ++ dg y 2 := dg_two y
  rcases (by omega : f = 0 ∨ f = 1 ∨ f = 2) with rfl | rfl | rfl
  · have e : writtenL y m d 0 = dg y 4 ++ [45] ++ dg m 2 ++ [45] ++ dg d 2 := rfl
    rw [e, e4]
    simp only [dg2_two, List.cons_append, List.nil_append]
    exact (if_pos (show _ ∧ _ from ⟨rfl, rfl⟩)).trans rfl
  · have e : writtenL y m d 1 = dg d 2 ++ [46] ++ dg m 2 ++ [46] ++ dg y 4 := rfl
    rw [e, e4]
    simp only [dg2_two, List.cons_append, List.nil_append]
    refine (if_neg ?_).trans ((if_pos (show _ ∧ _ from ⟨rfl, rfl⟩)).trans rfl)
    · rintro ⟨h1, _⟩
      have := dig_code m b3
      have h2 : ((UInt8.ofNat (48 + (m % 10).toNat)).toNat : Int) = 45 := h1
      omega
  · have e : writtenL y m d 2 = dg m 2 ++ [47] ++ dg d 2 ++ [47] ++ dg y 4 := rfl
    rw [e, e4]
    simp only [dg2_two, List.cons_append, List.nil_append]
    refine (if_neg ?_).trans ((if_neg ?_).trans ((if_pos (show _ ∧ _ from ⟨rfl, rfl⟩)).trans rfl))
    · rintro ⟨h1, _⟩
      have := dig_code d (by omega)
      have h2 : ((UInt8.ofNat (48 + (d % 10).toNat)).toNat : Int) = 45 := h1
      omega
    · rintro ⟨h1, _⟩
      have h2 : (((47 : UInt8).toNat : Nat) : Int) = 46 := h1
      simp at h2
/-- the tokens of what folding leaves are those of the raw text -/
theorem toks_fold (l : List UInt8) : toks (foldL l) = toks (rawL l) := by
  unfold foldL
  refine toks_join _ fun t ht => ⟨toksA_ne _ [] t ht, fun b hb => ?_⟩
  rcases toksA_mem _ [] t ht b hb with h | h
  · simp at h
  · exact ⟨(raw_ok l).1 b h.1, h.2⟩
theorem WordL.okT {t : List UInt8} (h : WordL t) : okT t := low_okT h.1 h.2.1
theorem two_toks {a b : List UInt8} (ha : WordL a) (hb : WordL b) : toks (a ++ [32] ++ b) = [a, b] := toks_join [a, b] fun t ht => by
  rcases List.mem_cons.1 ht with rfl | ht
  · exact ha.okT
  · simp at ht; subst ht; exact hb.okT
theorem two_ok {a b : List UInt8} (ha : WordL a) (hb : WordL b) : ∀ x ∈ a ++ [32] ++ b, okB x = true := join_ok [a, b] fun t ht => by
  rcases List.mem_cons.1 ht with rfl | ht
  · exact ha.okT
  · simp at ht; subst ht; exact hb.okT
theorem nameN_of (r : RulesL) (hc : checkR r = 0) (l : List UInt8) (T : List (List UInt8)) (hT : toks (rawL l) = T) (hv : foldV l = true) : nameN r l = if 6 < (nameToks r T).length ∨ 64 < (joinL (nameToks r T)).length then ([], 1) else (joinL (nameToks r T), 0) := by
  unfold nameN
  rw [if_pos hc, if_pos hv, toks_fold, hT]
theorem addrN_of (r : RulesL) (hc : checkR r = 0) (l : List UInt8) (T : List (List UInt8)) (hT : toks (rawL l) = T) (hv : foldV l = true) : addrN r l = if 6 < T.length ∨ 64 < (joinL (order2 (T.map (addrTok r)))).length then ([], 1) else (joinL (order2 (T.map (addrTok r))), 0) := by
  unfold addrN
  rw [if_pos hc, if_pos hv, toks_fold, hT]
theorem canon_small {L : List P2} {s : List UInt8} (h : ∀ p ∈ L, p.2.length ≤ 16) (hs : s.length ≤ 16) : (canonL L s).length ≤ 16 := by
  induction L with
  | nil => exact hs
  | cons p L ih =>
    unfold canonL
    split
    · exact h p List.mem_cons_self
    · exact ih fun q hq => h q (List.mem_cons_of_mem _ hq)
theorem canon_low {L : List P2} {s : List UInt8} (h : ∀ p ∈ L, ∀ b ∈ p.2, isLow b = true) (hs : ∀ b ∈ s, isLow b = true) : ∀ b ∈ canonL L s, isLow b = true := by
  induction L with
  | nil => exact hs
  | cons p L ih =>
    unfold canonL
    split
    · exact h p List.mem_cons_self
    · exact ih fun q hq => h q (List.mem_cons_of_mem _ hq)
theorem nicks_small {r : RulesL} (h : RulesD r) : ∀ p ∈ r.nicks, p.2.length ≤ 16 := by
  rcases h.n with e | e <;> rw [e]
  · intro p hp; simp at hp
  · intro p hp
    have : (n1L.all fun p => decide (p.2.length ≤ 16)) = true := by decide
    simpa using List.all_eq_true.1 this p hp
theorem streets_small {r : RulesL} (h : RulesD r) : ∀ p ∈ r.streets, p.2.length ≤ 16 ∧ ∀ b ∈ p.2, isLow b = true := by
  rcases h.s with e | e <;> rw [e]
  · intro p hp; simp at hp
  · intro p hp
    have : (s1L.all fun p => decide (p.2.length ≤ 16) && p.2.all isLow) = true := by decide
    have := List.all_eq_true.1 this p hp
    rw [Bool.and_eq_true, decide_eq_true_iff, List.all_eq_true] at this
    exact this
theorem normTok_small {r : RulesL} (h : RulesD r) {t : List UInt8} (ht : WordL t) : (normTok r t).length ≤ 1 ∧ ∀ x ∈ normTok r t, x.length ≤ 16 := by
  refine ⟨normTok_len r t, fun x hx => ?_⟩
  unfold normTok at hx
  split at hx
  · simp at hx
  · simp at hx; subst hx
    exact canon_small (nicks_small h) (by rw [low_same ht.2.1]; exact ht.2.2)
theorem join_two_len {A B : List (List UInt8)} (hA : A.length ≤ 1) (hB : B.length ≤ 1) (hA2 : ∀ x ∈ A, x.length ≤ 16) (hB2 : ∀ x ∈ B, x.length ≤ 16) : (A ++ B).length ≤ 2 ∧ (joinL (A ++ B)).length ≤ 33 := by
  refine ⟨by simp; omega, ?_⟩
  match A, B, hA, hB with
  | [], [], _, _ => simp [joinL]
  | [a], [], _, _ => have := hA2 a (by simp); simp [joinL]; omega
  | [], [b], _, _ => have := hB2 b (by simp); simp [joinL]; omega
  | [a], [b], _, _ => have := hA2 a (by simp); have := hB2 b (by simp); simp [joinL]; omega
theorem foldV_ok {l : List UInt8} (h : allOk l) (hl : l.length ≤ 64) : foldV l = true := by
  unfold foldV; rw [(raw_flat l h).2]; simpa using hl
theorem okB_all {l : List UInt8} (h : ∀ b ∈ l, okB b = true) : allOk l := fun b hb => ok_byte (h b hb)
/-- a name of two words has a normal form; in other dress the same one -/
theorem name_forms {r : RulesL} (hr : RulesD r) {a b : List UInt8} (ha : WordL a) (hb : WordL b) : ∃ p, nameN r (a ++ [32] ++ b) = (p, 0) ∧ ∀ o, DressOf (a ++ [32] ++ b) o → (nameN r o = ([], 3) ∨ nameN r o = (p, 0)) := by
  have hlen : (a ++ [32] ++ b).length ≤ 33 := by have := ha.2.2; have := hb.2.2; simp; omega
  have hraw := (raw_same _ (two_ok ha hb)).1
  have hT := two_toks ha hb
  have hn : nameToks r [a, b] = normTok r a ++ normTok r b := by simp [nameToks]
  obtain ⟨g1, g2⟩ := join_two_len (normTok_small hr ha).1 (normTok_small hr hb).1 (normTok_small hr ha).2 (normTok_small hr hb).2
  refine ⟨joinL (nameToks r [a, b]), ?_, fun o ho => ?_⟩
  · rw [nameN_of r hr.check _ [a, b] (by rw [hraw]; exact hT) (foldV_ok (okB_all (two_ok ha hb)) (by omega)), hn, if_neg (by omega)]
  · by_cases hv : foldV o = true
    · right
      rw [nameN_of r hr.check o [a, b] (by rw [ho.eq]; exact hT) hv, hn, if_neg (by omega)]
    · left
      unfold nameN
      rw [if_pos hr.check, if_neg hv]
def twelve : List UInt8 := [49, 50]
theorem addr_tok {r : RulesL} (hr : RulesD r) {t : List UInt8} (ht : WordL t) : numB (addrTok r t) = false ∧ (addrTok r t).length ≤ 16 := by
  have e : addrTok r t = canonL r.streets t := by unfold addrTok; rw [low_not_num ht.2.1]; simp
  rw [e]
  exact ⟨low_not_num (canon_low (fun p hp => (streets_small hr p hp).2) ht.2.1), canon_small (fun p hp => (streets_small hr p hp).1) ht.2.2⟩
/-- a number before and behind the words of an address -/
theorem addr_forms {r : RulesL} (hr : RulesD r) {a b : List UInt8} (ha : WordL a) (hb : WordL b) : ∃ u, addrN r ([49, 50, 32] ++ (a ++ [32] ++ b)) = (u, 0) ∧ addrN r ((a ++ [32] ++ b) ++ [44, 32, 49, 50]) = (u, 0) := by
  have la := ha.2.2
  have lb := hb.2.2
  have ok12 : okT twelve := ⟨by simp [twelve], by decide⟩
  have okall : ∀ t ∈ [twelve, a, b], okT t := by
    intro t ht; simp at ht; rcases ht with rfl | rfl | rfl
    · exact ok12
    · exact ha.okT
    · exact hb.okT
  have e12 : addrTok r twelve = twelve := rfl
  obtain ⟨na, za⟩ := addr_tok hr ha
  obtain ⟨nb, zb⟩ := addr_tok hr hb
  have j1 : joinL [twelve, a, b] = [49, 50, 32] ++ (a ++ [32] ++ b) := by simp [joinL, twelve]
  have o1 : order2 ([twelve, a, b].map (addrTok r)) = [addrTok r a, addrTok r b, twelve] := by
    simp only [List.map_cons, List.map_nil, e12, order2, List.filter_cons, na, nb, List.filter_nil, show numB twelve = true from rfl]; rfl
  have o2 : order2 ([a, b, twelve].map (addrTok r)) = [addrTok r a, addrTok r b, twelve] := by
    simp only [List.map_cons, List.map_nil, e12, order2, List.filter_cons, na, nb, List.filter_nil, show numB twelve = true from rfl]; rfl
  have hl : (joinL [addrTok r a, addrTok r b, twelve]).length ≤ 64 := by simp [joinL, twelve]; omega
  refine ⟨joinL [addrTok r a, addrTok r b, twelve], ?_, ?_⟩
  · have ok1 := join_ok [twelve, a, b] okall
    rw [j1] at ok1
    rw [addrN_of r hr.check _ [twelve, a, b] (by rw [(raw_same _ ok1).1, ← j1]; exact toks_join _ okall) (foldV_ok (okB_all ok1) (by simp; omega)), o1, if_neg (by simp only [List.length_cons, List.length_nil]; omega)]
  · have h2 := two_ok ha hb
    have hall : allOk ((a ++ [32] ++ b) ++ [44, 32, 49, 50]) := (okB_all h2).app (allOk_dec rfl)
    have hraw : rawL ((a ++ [32] ++ b) ++ [44, 32, 49, 50]) = (a ++ [32] ++ b) ++ [32, 32, 49, 50] := by
      rw [(raw_flat _ hall).1, plainL_app, ← (raw_flat _ (okB_all h2)).1, (raw_same _ h2).1]; rfl
    have ht : toks (rawL ((a ++ [32] ++ b) ++ [44, 32, 49, 50])) = [a, b, twelve] := by
      rw [hraw]
      have okall2 : ∀ t ∈ [a, b, twelve], okT t := by
        intro t ht; simp at ht; rcases ht with rfl | rfl | rfl
        · exact ha.okT
        · exact hb.okT
        · exact ok12
      rw [← toks_join [a, b, twelve] okall2]
      unfold toks
      rw [show joinL [a, b, twelve] = (a ++ [32] ++ b) ++ 32 :: [49, 50] by simp [joinL, twelve]]
      exact toksA_two (a ++ [32] ++ b) [] [49, 50]
    rw [addrN_of r hr.check _ [a, b, twelve] ht (foldV_ok hall (by simp; omega)), o2, if_neg (by simp only [List.length_cons, List.length_nil]; omega)]
/-- the schema of the law -/
def formsF : List F2 := [([98, 105, 114, 116, 104], 2), ([103, 105, 118, 101, 110], 1), ([115, 116, 114, 101, 101, 116], 4)]
theorem forms_check {r : RulesL} (hr : RulesD r) : checkS ⟨formsF, r⟩ = 0 := by
  have h1 : fieldsB formsF = true := by decide
  have h2 : ¬ (formsF.length < 1 ∨ 5 < formsF.length) := by decide
  unfold checkS
  rw [if_neg h2, if_pos h1, hr.check]
theorem forms_find {r : RulesL} (hr : RulesD r) : findN ⟨formsF, r⟩ 0 = (2, 0) ∧ findN ⟨formsF, r⟩ 1 = (1, 0) ∧ findN ⟨formsF, r⟩ 2 = (4, 0) :=
  ⟨findN_in (f := 0) (forms_check hr) (show 0 < formsF.length by decide), findN_in (f := 1) (forms_check hr) (show 1 < formsF.length by decide), findN_in (f := 2) (forms_check hr) (show 2 < formsF.length by decide)⟩
theorem forms_value {r : RulesL} (hr : RulesD r) {l : List UInt8} (hl : l ≠ []) : valueN ⟨formsF, r⟩ 0 l = dayN l ∧ valueN ⟨formsF, r⟩ 1 l = nameN r l ∧ valueN ⟨formsF, r⟩ 2 l = addrN r l := by
  obtain ⟨h0, h1, h2⟩ := forms_find hr
  refine ⟨?_, ?_, ?_⟩
  · unfold valueN; rw [h0, if_pos rfl, if_neg hl]; rfl
  · unfold valueN; rw [h1, if_pos rfl, if_neg hl]; rfl
  · unfold valueN; rw [h2, if_pos rfl, if_neg hl]; rfl
end Go.Proofs.YtfgoiojmbphmnaaGreatDoor
end
section
/- Contracts of the reference of dates (recordlinkref03): length, Valid, number, made, Read, Parse: as those of the program. -/
set_option linter.unusedSimpArgs false
set_option linter.unusedVariables false
namespace Go.Proofs.YtfgoiojmbphmnaaGreatDoor
open Go.RowKit Cal
set_option maxHeartbeats 1000000 in
theorem rlen_any (y m : Int) (w : World) (h : 0 ≤ y) (h1 : 1 ≤ m) (h2 : m ≤ 12) :
    Calls Tryz.prog 80 #[.int .i64 y, .int .i64 m] w fun e w' => e = .returned (.int .i64 (dim y m)) ∧ w = w' := by
  go_enter Tryz.func80, Tryz.ntmps80
  go_wp2
  all_goals go_ret
  all_goals refine ⟨ret_int ?_, rfl⟩
  all_goals simp only [beq_iff_eq, beq_eq_false_iff_ne, ne_eq, bne_iff_ne] at *
  all_goals simp [dim, leapB, *]
set_option maxHeartbeats 1000000 in
theorem rvalid_no (y m d : Int) (w : World) (hv : vldB y m d = false) :
    Calls Tryz.prog 48 #[.agg #[.int .i64 y, .int .i64 m, .int .i64 d]] w fun e w' => e = .returned (.bool false) ∧ Below w.heap.size w w' := by
  have hh : decide (1800 ≤ y) = false ∨ (1800 ≤ y ∧ decide (y ≤ 2199) = false) ∨ (1800 ≤ y ∧ y ≤ 2199 ∧ decide (1 ≤ m) = false) ∨ (1800 ≤ y ∧ y ≤ 2199 ∧ 1 ≤ m ∧ decide (m ≤ 12) = false) ∨ (1800 ≤ y ∧ y ≤ 2199 ∧ 1 ≤ m ∧ m ≤ 12 ∧ decide (1 ≤ d) = false) ∨ (1800 ≤ y ∧ y ≤ 2199 ∧ 1 ≤ m ∧ m ≤ 12 ∧ 1 ≤ d ∧ decide (d ≤ dim y m) = false) := by
    have := vld_iff y m d
    rw [hv] at this
    simp at this ⊢
    omega
  clear hv
  rcases hh with h | ⟨_, h⟩ | ⟨_, _, h⟩ | ⟨_, _, _, h⟩ | ⟨_, _, _, _, h⟩ | ⟨_, _, _, _, _, h⟩
  iterate 5
    · go_enter Tryz.func48, Tryz.ntmps48
      go_wp2
      go_quiet (fail)
      go_wp2
      go_ret
      exact ⟨rfl, below_drewN ((Below.refl _ _).alloc (Nat.le_refl _) _) _⟩
  go_enter Tryz.func48, Tryz.ntmps48
  go_wp2
  go_quiet ((go_at_call 80; exact quiet_eq (rlen_any _ _ _ (by omega) (by omega) (by omega))))
  go_wp2
  go_ret
  exact ⟨rfl, below_drewN ((Below.refl _ _).alloc (Nat.le_refl _) _) _⟩
set_option maxHeartbeats 1000000 in
theorem rvalid_yes (y m d : Int) (w : World) (hv : vldB y m d = true) :
    Calls Tryz.prog 48 #[.agg #[.int .i64 y, .int .i64 m, .int .i64 d]] w fun e w' => e = .returned (.bool true) ∧ Below w.heap.size w w' := by
  obtain ⟨h1, h2, h3, h4, h5, h6⟩ := (vld_iff y m d).1 hv
  clear hv
  go_enter Tryz.func48, Tryz.ntmps48
  go_wp2
  go_quiet ((go_at_call 80; exact quiet_eq (rlen_any _ _ _ (by omega) (by omega) (by omega))))
  go_wp2
  go_ret
  exact ⟨rfl, below_drewN ((Below.refl _ _).alloc (Nat.le_refl _) _) _⟩
theorem rvalid_any (y m d : Int) (w : World) :
    Calls Tryz.prog 48 #[.agg #[.int .i64 y, .int .i64 m, .int .i64 d]] w fun e w' => e = .returned (.bool (vldB y m d)) ∧ Below w.heap.size w w' := by
  cases h : vldB y m d with
  | true => exact rvalid_yes y m d w h
  | false => exact rvalid_no y m d w h

set_option maxHeartbeats 400000 in
theorem rnumber_any (s : ByteArray) (w : World) (hs : s.size ≤ 4) :
    Calls Tryz.prog 131 #[.string s] w fun e w' => e = .returned (.tuple #[.int .i64 ((numFrom 0 s.data.toList).getD 0), .bool (numFrom 0 s.data.toList).isSome]) ∧ w = w' := by
  go_enter Tryz.func131, Tryz.ntmps131
  go_wp2
  go_loop [4, 5] (fun n i => ∃ (k : Nat) (N : Int), k ≤ s.size ∧ i = .int .i64 k ∧ n = .int .i64 N ∧ numFrom 0 (s.data.toList.take k) = some N ∧ 0 ≤ N ∧ N < 10 ^ k) (fun _ i => s.size - (intOf i).toNat)
  case atStart => exact ⟨0, 0, Nat.zero_le _, rfl, rfl, rfl, by decide, by decide⟩
  case round =>
    obtain ⟨k, N, hk, rfl, rfl, hN, h0, h1⟩ := hrel
    have HN := Lib.hid hN; clear hN
    have hp : (10 : Int) ^ k ≤ 10000 := by
      have : k = 0 ∨ k = 1 ∨ k = 2 ∨ k = 3 ∨ k = 4 := by omega
      rcases this with rfl | rfl | rfl | rfl | rfl <;> decide
    have hN4 : N < 10000 := by omega
    have H1 := Lib.hid h1; clear h1 hp
    by_cases hlt : k < s.size
    · go_wp2
      · go_ret2
        exact ⟨by have := numFrom_bad s k hlt N HN.out (by omega); rw [this]; rfl, rfl⟩
      · have hs := numFrom_snoc s k hlt N HN.out
        rw [if_pos ‹_›] at hs
        have h1 := H1.out
        have e1 : (10 : Int) ^ (k + 1) = 10 ^ k * 10 := by rw [Int.pow_succ]
        go_round
        case rel => exact ⟨k + 1, _, by omega, by go_num, rfl, hs, by omega, by omega⟩
        case measure => simp [intOf]; omega
      · go_ret2
        exact ⟨by have := numFrom_bad s k hlt N HN.out (by omega); rw [this]; rfl, rfl⟩
    · go_wp2
      go_ret2
      obtain rfl : k = s.size := by omega
      exact ⟨by have := HN.out; rw [List.take_of_length_le (by simp)] at this; rw [this]; rfl, rfl⟩
theorem numI_none {l : List UInt8} (h : numFrom 0 l = none) : numI l = -1 := by simp [numI, h]
theorem numI_some {l : List UInt8} {N : Int} (h : numFrom 0 l = some N) : numI l = N := by simp [numI, h]
theorem dateR_no {a b c : List UInt8} (h : vldB (numI a) (numI b) (numI c) = false) : dateL a b c = .tuple #[.agg #[.int .i64 0, .int .i64 0, .int .i64 0], .int .i64 4] := by
  unfold dateL dateR dateV; rw [h]; rfl
theorem dateR_yes {a b c : List UInt8} (h : vldB (numI a) (numI b) (numI c) = true) : dateL a b c = .tuple #[.agg #[.int .i64 (numI a), .int .i64 (numI b), .int .i64 (numI c)], .int .i64 0] := by
  unfold dateL dateR dateV; rw [h]; rfl
set_option maxHeartbeats 2000000 in
theorem rmade_any (a b c : ByteArray) (w : World) (ha : a.size ≤ 4) (hb : b.size ≤ 4) (hc : c.size ≤ 4) :
    Calls Tryz.prog 98 #[.string a, .string b, .string c] w fun e w' => e = .returned (dateR (numI a.data.toList) (numI b.data.toList) (numI c.data.toList) 4) ∧ Below w.heap.size w w' := by
  have Ka := fun w => Lib.hid (rnumber_any a w ha)
  have Kb := fun w => Lib.hid (rnumber_any b w hb)
  have Kc := fun w => Lib.hid (rnumber_any c w hc)
  rw [show dateR (numI a.data.toList) (numI b.data.toList) (numI c.data.toList) 4 = dateL a.data.toList b.data.toList c.data.toList from rfl]
  have bad : (numFrom 0 a.data.toList).isSome = false ∨ (numFrom 0 b.data.toList).isSome = false ∨ (numFrom 0 c.data.toList).isSome = false → vldB (numI a.data.toList) (numI b.data.toList) (numI c.data.toList) = false := by
    intro h
    have : ¬ vldB (numI a.data.toList) (numI b.data.toList) (numI c.data.toList) = true := by
      rw [vld_iff]
      simp only [Option.isSome_eq_false_iff, Option.isNone_iff_eq_none] at h
      rcases h with h | h | h <;> (have := numI_none h; omega)
    simpa using this
  by_cases hall : (numFrom 0 a.data.toList).isSome = true ∧ (numFrom 0 b.data.toList).isSome = true ∧ (numFrom 0 c.data.toList).isSome = true
  · obtain ⟨h1, h2, h3⟩ := hall
    have e1 : (numFrom 0 a.data.toList).getD 0 = numI a.data.toList := by obtain ⟨N, h⟩ := Option.isSome_iff_exists.1 h1; rw [numI_some h, h]; rfl
    have e2 : (numFrom 0 b.data.toList).getD 0 = numI b.data.toList := by obtain ⟨N, h⟩ := Option.isSome_iff_exists.1 h2; rw [numI_some h, h]; rfl
    have e3 : (numFrom 0 c.data.toList).getD 0 = numI c.data.toList := by obtain ⟨N, h⟩ := Option.isSome_iff_exists.1 h3; rw [numI_some h, h]; rfl
    simp only [h1, e1] at Ka; simp only [h2, e2] at Kb; simp only [h3, e3] at Kc
    clear h1 h2 h3 e1 e2 e3 bad
    cases hv : vldB (numI a.data.toList) (numI b.data.toList) (numI c.data.toList)
    all_goals
      first | rw [dateR_no hv] | rw [dateR_yes hv]
      first | have KV := fun w => Lib.hid (rvalid_no _ _ _ w hv) | have KV := fun w => Lib.hid (rvalid_yes _ _ _ w hv)
      clear hv
      go_enter Tryz.func98, Tryz.ntmps98
      go_wp2_with fail
      refine (Ka _).out.mono ?_; rintro e w' ⟨rfl, rfl⟩
      go_wp2_with fail
      refine (Kb _).out.mono ?_; rintro e w' ⟨rfl, rfl⟩
      go_wp2_with fail
      refine (Kc _).out.mono ?_; rintro e w' ⟨rfl, rfl⟩
      go_wp2_with fail
      refine (KV _).out.mono ?_; rintro e w1 ⟨rfl, hb1⟩
      obtain ⟨hc1, hf1⟩ := bcell hb1
      have hz1 : w.heap.size + 1 < w1.heap.size := by have := hb1.size; simp at this; omega
      go_wp2_with fail
      have hg : w1.heap[w.heap.size]? = some (.cells #[.int .i64 0, .int .i64 0, .int .i64 0] 49 (0, 0)) := blk_below hb1 (by simp; omega) (blk_old (blk_new rfl))
      exact bodyPost_row2 rfl rfl (blk_set (blk_set (blk_set hg))) Tryz.underlying49 rfl (by kernel_rfl) ⟨rfl, ((((((Below.refl _ _).alloc (Nat.le_refl _) _).alloc (by simp) _).trans (hb1.mono (by simp; omega))).setCell (by simp) _).setCell (by simp) _).setCell (by simp) _⟩
  · have hcase : (numFrom 0 a.data.toList).isSome = false ∨ ((numFrom 0 a.data.toList).isSome = true ∧ (numFrom 0 b.data.toList).isSome = false) ∨ ((numFrom 0 a.data.toList).isSome = true ∧ (numFrom 0 b.data.toList).isSome = true ∧ (numFrom 0 c.data.toList).isSome = false) := by
      cases h1 : (numFrom 0 a.data.toList).isSome <;> cases h2 : (numFrom 0 b.data.toList).isSome <;> cases h3 : (numFrom 0 c.data.toList).isSome <;> simp_all
    have hbad := bad (by rcases hcase with h | ⟨_, h⟩ | ⟨_, _, h⟩ <;> simp [h])
    rw [dateR_no hbad]
    clear bad hall hbad
    rcases hcase with h1 | ⟨h1, h2⟩ | ⟨h1, h2, h3⟩
    all_goals
      try simp only [h1] at Ka
      try simp only [h2] at Kb
      try simp only [h3] at Kc
      try clear h1
      try clear h2
      try clear h3
      go_enter Tryz.func98, Tryz.ntmps98
      go_wp2_with fail
      refine (Ka _).out.mono ?_; rintro e w' ⟨rfl, rfl⟩
      go_wp2_with fail
      refine (Kb _).out.mono ?_; rintro e w' ⟨rfl, rfl⟩
      go_wp2_with fail
      refine (Kc _).out.mono ?_; rintro e w' ⟨rfl, rfl⟩
      go_wp2_with fail
      exact bodyPost_row2 rfl rfl (blk_old (blk_new rfl)) Tryz.underlying49 rfl (by kernel_rfl) ⟨rfl, ((Below.refl _ _).alloc (Nat.le_refl _) _).alloc (by simp) _⟩
set_option maxHeartbeats 1000000 in
theorem rread_any (s : ByteArray) (w : World) :
    Calls Tryz.prog 64 #[.string s] w fun e w' => e = .returned (bif decide (s.size = 8) then dateL (s.data.toList.take 4) ((s.data.toList.drop 4).take 2) ((s.data.toList.drop 6).take 2) else dateV false 0 0 0 4) ∧ Below w.heap.size w w' := by
  by_cases h : s.size = 8
  · have hs : ((s.size : Int) == 8) = true := by simp; omega
    simp only [h, decide_true, cond_true]
    go_enter Tryz.func64, Tryz.ntmps64
    go_wp2
    go_region_held3 (fun _ => True) (trivial) (first | (go_at_call 98; refine (rmade_any _ _ _ _ (by simp; omega) (by simp; omega) (by simp; omega)).mono ?_; rintro e w1 ⟨rfl, hb1⟩; obtain ⟨hc1, hf1⟩ := bcell hb1; have hz1 : w.heap.size < w1.heap.size := (by have := hb1.size; simp at this; omega)))
    go_wp2
    have hg : w1.heap[w.heap.size]? = some (.cells #[.int .i64 0, .int .i64 0, .int .i64 0] 49 (0, 0)) := blk_below hb1 (by simp) (heap_alloc_new _ _)
    exact bodyPost_row2 rfl rfl (blk_set (blk_set (blk_set hg))) Tryz.underlying49 rfl (by kernel_rfl) ⟨rfl, (((((Below.refl _ _).alloc (Nat.le_refl _) _).drew.trans (hb1.mono (by simp))).setCell (by simp) _).setCell (by simp) _).setCell (by simp) _⟩
  · have hs : ((s.size : Int) == 8) = false := by simp; omega
    simp only [h, decide_false, cond_false]
    go_enter Tryz.func64, Tryz.ntmps64
    go_wp2
    exact bodyPost_row2 rfl rfl (heap_alloc_new _ _) Tryz.underlying49 rfl (by kernel_rfl) ⟨rfl, ((Below.refl _ _).alloc (Nat.le_refl _) _)⟩

set_option maxHeartbeats 4000000 in
theorem rparse_ten (s : ByteArray) (w : World) (h : s.size = 10) :
    Calls Tryz.prog 57 #[.string s] w fun e w' => e = .returned (parseV s) ∧ Below w.heap.size w w' := by
  have hs : ((s.size : Int) == 10) = true := by simp; omega
  go_enter Tryz.func57, Tryz.ntmps57
  go_wp2
  all_goals
    have e2 := byteAt_get s 2 (by omega)
    have e4 := byteAt_get s 4 (by omega)
    have e5 := byteAt_get s 5 (by omega)
    have e7 := byteAt_get s 7 (by omega)
  all_goals
    first
    | exact bodyPost_row2 rfl rfl (heap_alloc_new _ _) Tryz.underlying49 rfl (by kernel_rfl) ⟨congrArg Ending.returned (by (try simp only [beq_iff_eq, beq_eq_false_iff_ne, ne_eq] at *); simp [parseV, pk_false, cd_false, *]; try rfl), ((Below.refl _ _).alloc (Nat.le_refl _) _)⟩
    | (clear e2 e4 e5 e7
       go_region_held3 (fun _ => True) (trivial) (first | (go_at_call 98; refine (rmade_any _ _ _ _ (by simp; omega) (by simp; omega) (by simp; omega)).mono ?_; rintro e w1 ⟨rfl, hb1⟩; obtain ⟨hc1, hf1⟩ := bcell hb1; have hz1 : w.heap.size < w1.heap.size := (by have := hb1.size; simp at this; omega)))
       go_wp2
       have hg : w1.heap[w.heap.size]? = some (.cells #[.int .i64 0, .int .i64 0, .int .i64 0] 49 (0, 0)) := blk_below hb1 (by simp) (heap_alloc_new _ _)
       have e2 := byteAt_get s 2 (by omega)
       have e4 := byteAt_get s 4 (by omega)
       have e5 := byteAt_get s 5 (by omega)
       have e7 := byteAt_get s 7 (by omega)
       exact bodyPost_row2 rfl rfl (blk_set (blk_set (blk_set hg))) Tryz.underlying49 rfl (by kernel_rfl) ⟨congrArg Ending.returned (by (try simp only [beq_iff_eq, beq_eq_false_iff_ne, ne_eq] at *); simp [parseV, pk_false, cd_false, *]; try rfl), (((((Below.refl _ _).alloc (Nat.le_refl _) _).drew.trans (hb1.mono (by simp))).setCell (by simp) _).setCell (by simp) _).setCell (by simp) _⟩)
theorem rparse_any (s : ByteArray) (w : World) :
    Calls Tryz.prog 57 #[.string s] w fun e w' => e = .returned (parseV s) ∧ Below w.heap.size w w' := by
  by_cases h : s.size = 10
  · exact rparse_ten s w h
  · have hs : ((s.size : Int) == 10) = false := by simp; omega
    rw [parseV, if_neg h]
    go_enter Tryz.func57, Tryz.ntmps57
    go_wp2
    exact bodyPost_row2 rfl rfl (heap_alloc_new _ _) Tryz.underlying49 rfl (by kernel_rfl) ⟨rfl, ((Below.refl _ _).alloc (Nat.le_refl _) _)⟩
end Go.Proofs.YtfgoiojmbphmnaaGreatDoor
end
section
/- The law SchemaForms, walked: for every list of numbers it returns true and leaves what was there. -/
set_option linter.unusedSimpArgs false
set_option linter.unusedVariables false
set_option maxRecDepth 100000
namespace Go.Proofs.YtfgoiojmbphmnaaGreatDoor
open Go.RowKit Cal
attribute [local go_sem] toList_mk mk_size bytes_append
set_option maxHeartbeats 400000 in
theorem dates_any (y m d : Int) (w : World) : Calls Tryz.prog 24 #[.agg #[.int .i64 y, .int .i64 m, .int .i64 d]] w fun e w' => e = .returned (.bool (vldB y m d)) ∧ Below w.heap.size w w' := by
  go_enter Tryz.func24, Tryz.ntmps24
  go_wp2_with fail
  refine (rvalid_any y m d _).mono ?_
  rintro e w1 ⟨rfl, hb⟩
  have HB := Lib.hid (((Below.refl w.heap.size w).alloc (Nat.le_refl _) (.cells #[.int .i64 y, .int .i64 m, .int .i64 d] 49)).trans (hb.mono (by simp)))
  clear hb
  go_wp2_with fail
  go_ret
  exact ⟨rfl, HB.out⟩
theorem written_ne (y m d f : Int) : writtenL y m d f ≠ [] := by intro e; have := written_len y m d f; rw [e] at this; simp at this
/-- where the law stands: the deck in block D, the schema in block y, the date in block x -/
structure FormsAt (D : Nat) (w : World) (y x : Nat) (S : Nat → Prop) (vf vt vn vs : Value) (s : SchemaL) (dy dm dd : Int) (wr : World) : Prop where
  m : Moved D w wr
  b : wr.heap[y]? = some (.cells #[vf, vt, vn, vs] 33 (0, 0))
  d : wr.heap[x]? = some (.cells #[.int .i64 dy, .int .i64 dm, .int .i64 dd] 49 (0, 0))
  s : SchemaAt wr S vf vt vn vs s
  ne : ∀ b, S b → b ≠ D
  yD : y ≠ D
  xD : x ≠ D
theorem FormsAt.moved {D : Nat} {w : World} {y x : Nat} {S : Nat → Prop} {vf vt vn vs : Value} {s : SchemaL} {dy dm dd : Int} {wr wd : World} (h : FormsAt D w y x S vf vt vn vs s dy dm dd wr) (m : Moved D wr wd) : FormsAt D w y x S vf vt vn vs s dy dm dd wd :=
  ⟨h.m.trans m, m.blk h.yD h.b, m.blk h.xD h.d, h.s.moved h.ne m, h.ne, h.yD, h.xD⟩
theorem FormsAt.below {D : Nat} {w : World} {y x : Nat} {S : Nat → Prop} {vf vt vn vs : Value} {s : SchemaL} {dy dm dd : Int} {wr wd : World} (h : FormsAt D w y x S vf vt vn vs s dy dm dd wr) (hb : Below wr.heap.size wr wd) : FormsAt D w y x S vf vt vn vs s dy dm dd wd :=
  h.moved ((Moved.start h.m.deck).below hb)
theorem FormsAt.held {D : Nat} {w : World} {y x : Nat} {S : Nat → Prop} {vf vt vn vs : Value} {s : SchemaL} {dy dm dd : Int} {wr : World} (h : FormsAt D w y x S vf vt vn vs s dy dm dd wr) :
    wr.cell? ⟨y, 0, none⟩ = some vf ∧ wr.cell? ⟨y, 1, none⟩ = some vt ∧ wr.cell? ⟨y, 2, none⟩ = some vn ∧ wr.cell? ⟨y, 3, none⟩ = some vs ∧ wr.cell? ⟨x, 0, none⟩ = some (.int .i64 dy) ∧ wr.cell? ⟨x, 1, none⟩ = some (.int .i64 dm) ∧ wr.cell? ⟨x, 2, none⟩ = some (.int .i64 dd) := by
  obtain ⟨p0, p1, p2, p3⟩ := cells4 h.b
  obtain ⟨c0, c1, c2⟩ := cells3 h.d
  exact ⟨p0, p1, p2, p3, c0, c1, c2⟩
set_option maxHeartbeats 16000000 in
theorem sforms_walk (a : Option Addr) (n cap : Nat) (zs : List Int) (w : World) (hr : IsRow .i64 w a n cap zs) :
    Calls Tryz.prog 5 #[.slice a n cap] w fun e w' => e = .returned (.bool true) ∧ Below w.heap.size w w' := by
  by_cases hn : n ≤ 400
  · have hd : decide (n ≤ 400) = true := by simpa using hn
    have HR := Lib.hid hr; clear hr
    go_enter Tryz.func5, Tryz.ntmps5
    go_wp2_with fail
    refine (awake_s _).mono ?_; rintro e w1 ⟨rfl, hb1⟩
    go_wp2_with fail
    refine (few_any a n cap _).mono ?_; rintro e w' ⟨rfl, rfl⟩
    go_wp2_with fail
    refine (new_any a n cap _).mono ?_; rintro e w' ⟨rfl, rfl⟩
    have Hdk := Lib.hid (deck_law (cap := cap) hn HR.out hb1)
    have HB1 := Lib.hid (hb1.alloc hb1.size (.cells #[.slice a n cap, .int .i64 0, .int .u64 11400714819323198485] 71))
    have zB1 := hb1.size
    clear hb1 HR hd
    go_wp2_with fail
    refine (rules_deal _ _ Hdk.out).mono ?_
    rintro e w2 ⟨vt, vn, vs, r, rfl, hr, hd, mv⟩
    obtain ⟨at', ct, rfl⟩ := hr.1.slice
    obtain ⟨an, cn, rfl⟩ := hr.2.1.slice
    obtain ⟨as', cs, rfl⟩ := hr.2.2.slice
    have zD : w1.heap.size < w2.heap.size := mv.deck.lt
    have M2 := Lib.hid mv; have HR := Lib.hid hr; have HRD := Lib.hid hd
    clear mv hr hd
    go_wp2_with fail
    have hW : Below w2.heap.size w2 ((w2.alloc (.cells (formsF.flatMap encF).toArray 42)).alloc (.cells #[.slice (some ⟨w2.heap.size, 0, none⟩) 3 3, .slice at' r.titles.length ct, .slice an r.nicks.length cn, .slice as' r.streets.length cs] 33)) := ((Below.refl _ _).alloc (Nat.le_refl _) _).alloc (by simp) _
    have S2 := Lib.hid (show SchemaAt ((w2.alloc (.cells (formsF.flatMap encF).toArray 42)).alloc (.cells #[.slice (some ⟨w2.heap.size, 0, none⟩) 3 3, .slice at' r.titles.length ct, .slice an r.nicks.length cn, .slice as' r.streets.length cs] 33)) (fun b => (w1.alloc (.cells #[.slice a n cap, .int .i64 0, .int .u64 11400714819323198485] 71)).heap.size ≤ b) (.slice (some ⟨w2.heap.size, 0, none⟩) 3 3) (.slice at' r.titles.length ct) (.slice an r.nicks.length cn) (.slice as' r.streets.length cs) ⟨formsF, r⟩ from
      ⟨blockVec (k := 2) (enc := encF) (L := formsF) (S := fun b => (w1.alloc (.cells #[.slice a n cap, .int .i64 0, .int .u64 11400714819323198485] 71)).heap.size ≤ b) (A := w2.heap.size) (fun _ => rfl) (blk_old (blk_new rfl)) (by simp; omega) 3 rfl, HR.out.below hW⟩)
    have MB := Lib.hid ((M2.out.alloc (.cells (formsF.flatMap encF).toArray 42)).alloc (.cells #[.slice (some ⟨w2.heap.size, 0, none⟩) 3 3, .slice at' r.titles.length ct, .slice an r.nicks.length cn, .slice as' r.streets.length cs] 33))
    clear hW HR M2
    refine (date_any _ _ MB.out.deck).mono ?_
    rintro e w3 ⟨dy, dm, dd, rfl, bd, mv⟩
    have hSne : ∀ b, (w1.alloc (.cells #[.slice a n cap, .int .i64 0, .int .u64 11400714819323198485] 71)).heap.size ≤ b → b ≠ w1.heap.size := fun b h => by simp at h; omega
    have z3 : w2.heap.size + 1 < w3.heap.size := by have := mv.size; simp at this; omega
    have K3 := Lib.hid (show FormsAt w1.heap.size (w1.alloc (.cells #[.slice a n cap, .int .i64 0, .int .u64 11400714819323198485] 71)) (w2.heap.size + 1) w3.heap.size _ _ _ _ _ ⟨formsF, r⟩ dy dm dd (w3.alloc (.cells #[.int .i64 dy, .int .i64 dm, .int .i64 dd] 49)) from
      ⟨(MB.out.trans mv).alloc _, blk_old (mv.blk (by omega) (blk_new (by simp))), blk_new rfl, (S2.out.moved hSne mv).below ((Below.refl _ _).alloc (Nat.le_refl _) _), hSne, by omega, by omega⟩)
    have BD := Lib.hid bd
    have HV := Lib.hid (fun l (hl : l ≠ []) => forms_value HRD.out (l := l) hl)
    clear bd mv S2 MB hSne
    obtain ⟨p0, p1, p2, p3, c0, c1, c2⟩ := K3.out.held
    go_wp2_with fail
    refine wp_region_noPanic ?_
    refine wp_region_held_drew (S := (fun w' => w'.cell? ⟨w2.heap.size + 1, 0, none⟩ = some (.slice (some ⟨w2.heap.size, 0, none⟩) 3 3) ∧ w'.cell? ⟨w2.heap.size + 1, 1, none⟩ = some (.slice at' r.titles.length ct) ∧ w'.cell? ⟨w2.heap.size + 1, 2, none⟩ = some (.slice an r.nicks.length cn) ∧ w'.cell? ⟨w2.heap.size + 1, 3, none⟩ = some (.slice as' r.streets.length cs) ∧ w'.cell? ⟨w3.heap.size, 0, none⟩ = some (.int .i64 dy) ∧ w'.cell? ⟨w3.heap.size, 1, none⟩ = some (.int .i64 dm) ∧ w'.cell? ⟨w3.heap.size, 2, none⟩ = some (.int .i64 dd))) (by kernel_rfl) (⟨p0, p1, p2, p3, c0, c1, c2⟩) (fun hHeld => ?_)
    refine wpAnyH_take (i := 0) (v := ?_) rfl (by kernel_rfl) (by kernel_rfl) (by kernel_rfl) (fun _ _ _ h => h) (Or.inl ⟨by rfl, ?_⟩) (by assumption) ?_
    rotate_left 1
    · (intro wS hSw; (try dsimp only at hSw); go_simp; try with_reducible rfl)
    try simp only [List.getElem_toArray, List.getElem_cons_zero, List.getElem_cons_succ, Act.put, List.setIfInBounds_toArray, List.set_cons_zero, List.set_cons_succ]
    refine wpAnyH_take (i := 1) (v := ?_) rfl (by kernel_rfl) (by kernel_rfl) (by kernel_rfl) (fun _ _ _ h => h) (Or.inl ⟨by rfl, ?_⟩) (by assumption) ?_
    rotate_left 1
    · (intro wS hSw; (try dsimp only at hSw); go_simp; try with_reducible rfl)
    try simp only [List.getElem_toArray, List.getElem_cons_zero, List.getElem_cons_succ, Act.put, List.setIfInBounds_toArray, List.set_cons_zero, List.set_cons_succ]
    refine wpAnyH_ready (rs := [2]) (by kernel_rfl) (by simp) ?_
    refine AllReadyH.cons rfl (fun K hK => ?_) AllReadyH.nil
    go_simp
    refine (written_any dy dm dd 0 _ BD.out (by omega)).mono ?_; rintro e w4 ⟨rfl, hb⟩; have K4 := Lib.hid (K3.out.moved (((Moved.start K3.out.m.deck).drew).below hb)); clear hb K3
    refine hK.out _ _ (K4.out.held) (fun hHeld => ?_)
    clear hK K
    try simp only [List.getElem_toArray, List.getElem_cons_zero, List.getElem_cons_succ, Act.put, List.setIfInBounds_toArray, List.set_cons_zero, List.set_cons_succ]
    refine wpAnyH_ready (rs := [3]) (by kernel_rfl) (by simp) ?_
    refine AllReadyH.cons rfl (fun K hK => ?_) AllReadyH.nil
    go_simp
    refine (value_any _ _ _ _ _ ⟨formsF, r⟩ 0 ⟨(writtenL dy dm dd 0).toArray⟩ _ K4.out.s (by rw [mk_size, written_len]; omega)).mono ?_; rw [show (⟨(writtenL dy dm dd 0).toArray⟩ : ByteArray).data.toList = writtenL dy dm dd 0 by simp, (HV.out _ (written_ne dy dm dd 0)).1, dayN_written dy dm dd 0 BD.out (by omega)]; rintro e w5 ⟨rfl, hb⟩; have K5 := Lib.hid (K4.out.below hb); clear hb K4
    refine hK.out _ _ (K5.out.held) (fun hHeld => ?_)
    clear hK K
    try simp only [List.getElem_toArray, List.getElem_cons_zero, List.getElem_cons_succ, Act.put, List.setIfInBounds_toArray, List.set_cons_zero, List.set_cons_succ]
    obtain ⟨⟨va, ea⟩, hday⟩ : ∃ p, dayV dy dm dd = p := ⟨_, rfl⟩
    have HDay := Lib.hid hday
    simp only [pairV, hday]
    clear hday
    refine wpAnyH_take (i := 4) (v := ?_) rfl (by kernel_rfl) (by kernel_rfl) (by kernel_rfl) (fun _ _ _ h => h) (Or.inl ⟨by rfl, ?_⟩) (by assumption) ?_
    rotate_left 1
    · (intro wS hSw; (try dsimp only at hSw); go_simp; try with_reducible rfl)
    try simp only [List.getElem_toArray, List.getElem_cons_zero, List.getElem_cons_succ, Act.put, List.setIfInBounds_toArray, List.set_cons_zero, List.set_cons_succ]
    refine wpAnyH_take (i := 5) (v := ?_) rfl (by kernel_rfl) (by kernel_rfl) (by kernel_rfl) (fun _ _ _ h => h) (Or.inl ⟨by rfl, ?_⟩) (by assumption) ?_
    rotate_left 1
    · (intro wS hSw; (try dsimp only at hSw); go_simp; try with_reducible rfl)
    try simp only [List.getElem_toArray, List.getElem_cons_zero, List.getElem_cons_succ, Act.put, List.setIfInBounds_toArray, List.set_cons_zero, List.set_cons_succ]
    refine wpAnyH_take (i := 6) (v := ?_) rfl (by kernel_rfl) (by kernel_rfl) (by kernel_rfl) (fun _ _ _ h => h) (Or.inl ⟨by rfl, ?_⟩) (by assumption) ?_
    rotate_left 1
    · (intro wS hSw; (try dsimp only at hSw); go_simp; try with_reducible rfl)
    try simp only [List.getElem_toArray, List.getElem_cons_zero, List.getElem_cons_succ, Act.put, List.setIfInBounds_toArray, List.set_cons_zero, List.set_cons_succ]
    refine wpAnyH_take (i := 7) (v := ?_) rfl (by kernel_rfl) (by kernel_rfl) (by kernel_rfl) (fun _ _ _ h => h) (Or.inl ⟨by rfl, ?_⟩) (by assumption) ?_
    rotate_left 1
    · (intro wS hSw; (try dsimp only at hSw); go_simp; try with_reducible rfl)
    try simp only [List.getElem_toArray, List.getElem_cons_zero, List.getElem_cons_succ, Act.put, List.setIfInBounds_toArray, List.set_cons_zero, List.set_cons_succ]
    refine wpAnyH_take (i := 8) (v := ?_) rfl (by kernel_rfl) (by kernel_rfl) (by kernel_rfl) (fun _ _ _ h => h) (Or.inl ⟨by rfl, ?_⟩) (by assumption) ?_
    rotate_left 1
    · (intro wS hSw; (try dsimp only at hSw); go_simp; try with_reducible rfl)
    try simp only [List.getElem_toArray, List.getElem_cons_zero, List.getElem_cons_succ, Act.put, List.setIfInBounds_toArray, List.set_cons_zero, List.set_cons_succ]
    refine wpAnyH_done (by kernel_rfl) ?_ _
    refine NoPanic.normal ?_
    clear p0 p1 p2 p3 c0 c1 c2
    obtain ⟨p0, p1, p2, p3, c0, c1, c2⟩ := K5.out.held
    go_wp2_with fail
    refine wp_region_noPanic ?_
    refine wp_region_held_drew (S := (fun w' => w'.cell? ⟨w2.heap.size + 1, 0, none⟩ = some (.slice (some ⟨w2.heap.size, 0, none⟩) 3 3) ∧ w'.cell? ⟨w2.heap.size + 1, 1, none⟩ = some (.slice at' r.titles.length ct) ∧ w'.cell? ⟨w2.heap.size + 1, 2, none⟩ = some (.slice an r.nicks.length cn) ∧ w'.cell? ⟨w2.heap.size + 1, 3, none⟩ = some (.slice as' r.streets.length cs) ∧ w'.cell? ⟨w3.heap.size, 0, none⟩ = some (.int .i64 dy) ∧ w'.cell? ⟨w3.heap.size, 1, none⟩ = some (.int .i64 dm) ∧ w'.cell? ⟨w3.heap.size, 2, none⟩ = some (.int .i64 dd))) (by kernel_rfl) (⟨p0, p1, p2, p3, c0, c1, c2⟩) (fun hHeld => ?_)
    refine wpAnyH_take (i := 0) (v := ?_) rfl (by kernel_rfl) (by kernel_rfl) (by kernel_rfl) (fun _ _ _ h => h) (Or.inl ⟨by rfl, ?_⟩) (by assumption) ?_
    rotate_left 1
    · (intro wS hSw; (try dsimp only at hSw); go_simp; try with_reducible rfl)
    try simp only [List.getElem_toArray, List.getElem_cons_zero, List.getElem_cons_succ, Act.put, List.setIfInBounds_toArray, List.set_cons_zero, List.set_cons_succ]
    refine wpAnyH_take (i := 1) (v := ?_) rfl (by kernel_rfl) (by kernel_rfl) (by kernel_rfl) (fun _ _ _ h => h) (Or.inl ⟨by rfl, ?_⟩) (by assumption) ?_
    rotate_left 1
    · (intro wS hSw; (try dsimp only at hSw); go_simp; try with_reducible rfl)
    try simp only [List.getElem_toArray, List.getElem_cons_zero, List.getElem_cons_succ, Act.put, List.setIfInBounds_toArray, List.set_cons_zero, List.set_cons_succ]
    refine wpAnyH_take (i := 2) (v := ?_) rfl (by kernel_rfl) (by kernel_rfl) (by kernel_rfl) (fun _ _ _ h => h) (Or.inl ⟨by rfl, ?_⟩) (by assumption) ?_
    rotate_left 1
    · (intro wS hSw; (try dsimp only at hSw); go_simp; try with_reducible rfl)
    try simp only [List.getElem_toArray, List.getElem_cons_zero, List.getElem_cons_succ, Act.put, List.setIfInBounds_toArray, List.set_cons_zero, List.set_cons_succ]
    refine wpAnyH_ready (rs := [3]) (by kernel_rfl) (by simp) ?_
    refine AllReadyH.cons rfl (fun K hK => ?_) AllReadyH.nil
    go_simp
    refine (next_any _ _ 2 (K5.out.m.drew).deck (by omega) (by omega)).mono ?_; rintro e w6 ⟨q, rfl, q0, q1, mv⟩; have K6 := Lib.hid (K5.out.moved (((Moved.start K5.out.m.deck).drew).trans mv)); have ew : IntKind.i64.wrap (1 + q) = 1 + q := (IntWalk.i64_in _ ⟨by omega, by omega⟩); clear mv K5
    refine hK.out _ _ (K6.out.held) (fun hHeld => ?_)
    clear hK K
    try simp only [List.getElem_toArray, List.getElem_cons_zero, List.getElem_cons_succ, Act.put, List.setIfInBounds_toArray, List.set_cons_zero, List.set_cons_succ]
    refine wpAnyH_take (i := 4) (v := ?_) rfl (by kernel_rfl) (by kernel_rfl) (by kernel_rfl) (fun _ _ _ h => h) (Or.inl ⟨by rfl, ?_⟩) (by assumption) ?_
    rotate_left 1
    · (intro wS hSw; (try dsimp only at hSw); go_simp; try with_reducible rfl)
    try simp only [List.getElem_toArray, List.getElem_cons_zero, List.getElem_cons_succ, Act.put, List.setIfInBounds_toArray, List.set_cons_zero, List.set_cons_succ]
    clear ew
    refine wpAnyH_ready (rs := [5]) (by kernel_rfl) (by simp) ?_
    refine AllReadyH.cons rfl (fun K hK => ?_) AllReadyH.nil
    go_simp
    refine (written_any dy dm dd (1 + q) _ BD.out (by omega)).mono ?_; rintro e w7 ⟨rfl, hb⟩; have K7 := Lib.hid (K6.out.below hb); clear hb K6
    refine hK.out _ _ (K7.out.held) (fun hHeld => ?_)
    clear hK K
    try simp only [List.getElem_toArray, List.getElem_cons_zero, List.getElem_cons_succ, Act.put, List.setIfInBounds_toArray, List.set_cons_zero, List.set_cons_succ]
    refine wpAnyH_ready (rs := [6]) (by kernel_rfl) (by simp) ?_
    refine AllReadyH.cons rfl (fun K hK => ?_) AllReadyH.nil
    go_simp
    refine (value_any _ _ _ _ _ ⟨formsF, r⟩ 0 ⟨(writtenL dy dm dd (1 + q)).toArray⟩ _ K7.out.s (by rw [mk_size, written_len]; omega)).mono ?_; rw [show (⟨(writtenL dy dm dd (1 + q)).toArray⟩ : ByteArray).data.toList = writtenL dy dm dd (1 + q) by simp, (HV.out _ (written_ne dy dm dd (1 + q))).1, dayN_written dy dm dd (1 + q) BD.out (by omega), HDay.out]; rintro e w8 ⟨rfl, hb⟩; have K8 := Lib.hid (K7.out.below hb); clear hb K7
    refine hK.out _ _ (K8.out.held) (fun hHeld => ?_)
    clear hK K
    try simp only [List.getElem_toArray, List.getElem_cons_zero, List.getElem_cons_succ, Act.put, List.setIfInBounds_toArray, List.set_cons_zero, List.set_cons_succ]
    simp only [pairV]
    refine wpAnyH_take (i := 7) (v := ?_) rfl (by kernel_rfl) (by kernel_rfl) (by kernel_rfl) (fun _ _ _ h => h) (Or.inl ⟨by rfl, ?_⟩) (by assumption) ?_
    rotate_left 1
    · (intro wS hSw; (try dsimp only at hSw); go_simp; try with_reducible rfl)
    try simp only [List.getElem_toArray, List.getElem_cons_zero, List.getElem_cons_succ, Act.put, List.setIfInBounds_toArray, List.set_cons_zero, List.set_cons_succ]
    refine wpAnyH_take (i := 8) (v := ?_) rfl (by kernel_rfl) (by kernel_rfl) (by kernel_rfl) (fun _ _ _ h => h) (Or.inl ⟨by rfl, ?_⟩) (by assumption) ?_
    rotate_left 1
    · (intro wS hSw; (try dsimp only at hSw); go_simp; try with_reducible rfl)
    try simp only [List.getElem_toArray, List.getElem_cons_zero, List.getElem_cons_succ, Act.put, List.setIfInBounds_toArray, List.set_cons_zero, List.set_cons_succ]
    refine wpAnyH_take (i := 9) (v := ?_) rfl (by kernel_rfl) (by kernel_rfl) (by kernel_rfl) (fun _ _ _ h => h) (Or.inl ⟨by rfl, ?_⟩) (by assumption) ?_
    rotate_left 1
    · (intro wS hSw; (try dsimp only at hSw); go_simp; try with_reducible rfl)
    try simp only [List.getElem_toArray, List.getElem_cons_zero, List.getElem_cons_succ, Act.put, List.setIfInBounds_toArray, List.set_cons_zero, List.set_cons_succ]
    refine wpAnyH_take (i := 10) (v := ?_) rfl (by kernel_rfl) (by kernel_rfl) (by kernel_rfl) (fun _ _ _ h => h) (Or.inl ⟨by rfl, ?_⟩) (by assumption) ?_
    rotate_left 1
    · (intro wS hSw; (try dsimp only at hSw); go_simp; try with_reducible rfl)
    try simp only [List.getElem_toArray, List.getElem_cons_zero, List.getElem_cons_succ, Act.put, List.setIfInBounds_toArray, List.set_cons_zero, List.set_cons_succ]
    refine wpAnyH_take (i := 11) (v := ?_) rfl (by kernel_rfl) (by kernel_rfl) (by kernel_rfl) (fun _ _ _ h => h) (Or.inl ⟨by rfl, ?_⟩) (by assumption) ?_
    rotate_left 1
    · (intro wS hSw; (try dsimp only at hSw); go_simp; try with_reducible rfl)
    try simp only [List.getElem_toArray, List.getElem_cons_zero, List.getElem_cons_succ, Act.put, List.setIfInBounds_toArray, List.set_cons_zero, List.set_cons_succ]
    refine wpAnyH_done (by kernel_rfl) ?_ _
    refine NoPanic.normal ?_
    clear p0 p1 p2 p3 c0 c1 c2
    obtain ⟨p0, p1, p2, p3, c0, c1, c2⟩ := K8.out.held
    go_wp2_with fail
    refine (token_word _ _ K8.out.m.deck).mono ?_
    rintro e w9 ⟨t1, rfl, ht1, mv⟩
    have K9 := Lib.hid (K8.out.moved mv); have W1 := Lib.hid ht1
    have l1 := ht1.2.2
    clear mv K8 ht1 p0 p1 p2 p3 c0 c1 c2
    obtain ⟨p0, p1, p2, p3, c0, c1, c2⟩ := K9.out.held
    go_wp2_with fail
    refine (token_word _ _ K9.out.m.deck).mono ?_
    rintro e wa ⟨t2, rfl, ht2, mv⟩
    have KA := Lib.hid (K9.out.moved mv); have W2 := Lib.hid ht2
    have l2 := ht2.2.2
    clear mv K9 ht2 p0 p1 p2 p3 c0 c1 c2
    obtain ⟨p0, p1, p2, p3, c0, c1, c2⟩ := KA.out.held
    go_wp2_with fail
    obtain ⟨pn, hpn, hdr⟩ := name_forms HRD.out W1.out W2.out
    obtain ⟨ua, hu1, hu2⟩ := addr_forms HRD.out W1.out W2.out
    have hok := two_ok W1.out W2.out
    have htk := two_toks W1.out W2.out
    obtain ⟨nn, hnn⟩ : ∃ nn, t1 ++ [32] ++ t2 = nn := ⟨_, rfl⟩
    have e1 : t1 ++ 32 :: t2 = nn := by rw [← hnn]; simp
    have hnl : nn.length ≤ 33 := by rw [← hnn]; simp; omega
    have hn0 : nn ≠ [] := by rw [← hnn]; simp
    rw [e1]
    rw [hnn] at hpn hdr hu1 hu2 hok htk
    have HPn := Lib.hid hpn; have HDr := Lib.hid hdr; have HU1 := Lib.hid hu1; have HU2 := Lib.hid hu2; have HOk := Lib.hid hok; have HTk := Lib.hid htk; have HN0 := Lib.hid hn0
    clear e1 hnn hpn hdr hu1 hu2 hok htk hn0
    refine (value_any _ _ _ _ _ ⟨formsF, r⟩ 1 ⟨nn.toArray⟩ _ KA.out.s (by rw [mk_size]; omega)).mono ?_
    rw [show (⟨nn.toArray⟩ : ByteArray).data.toList = nn by simp, (HV.out _ HN0.out).2.1, HPn.out]
    unfold pairV
    rintro e wb ⟨rfl, hb⟩
    have KB := Lib.hid (KA.out.below hb); clear hb KA p0 p1 p2 p3 c0 c1 c2
    obtain ⟨p0, p1, p2, p3, c0, c1, c2⟩ := KB.out.held
    go_wp2_with fail
    refine wp_region_noPanic ?_
    refine wp_region_held_drew (S := (fun w' => w'.cell? ⟨w2.heap.size + 1, 0, none⟩ = some (.slice (some ⟨w2.heap.size, 0, none⟩) 3 3) ∧ w'.cell? ⟨w2.heap.size + 1, 1, none⟩ = some (.slice at' r.titles.length ct) ∧ w'.cell? ⟨w2.heap.size + 1, 2, none⟩ = some (.slice an r.nicks.length cn) ∧ w'.cell? ⟨w2.heap.size + 1, 3, none⟩ = some (.slice as' r.streets.length cs) ∧ w'.cell? ⟨w3.heap.size, 0, none⟩ = some (.int .i64 dy) ∧ w'.cell? ⟨w3.heap.size, 1, none⟩ = some (.int .i64 dm) ∧ w'.cell? ⟨w3.heap.size, 2, none⟩ = some (.int .i64 dd))) (by kernel_rfl) (⟨p0, p1, p2, p3, c0, c1, c2⟩) (fun hHeld => ?_)
    refine wpAnyH_take (i := 0) (v := ?_) rfl (by kernel_rfl) (by kernel_rfl) (by kernel_rfl) (fun _ _ _ h => h) (Or.inl ⟨by rfl, ?_⟩) (by assumption) ?_
    rotate_left 1
    · (intro wS hSw; (try dsimp only at hSw); go_simp; try with_reducible rfl)
    try simp only [List.getElem_toArray, List.getElem_cons_zero, List.getElem_cons_succ, Act.put, List.setIfInBounds_toArray, List.set_cons_zero, List.set_cons_succ]
    refine wpAnyH_take (i := 1) (v := ?_) rfl (by kernel_rfl) (by kernel_rfl) (by kernel_rfl) (fun _ _ _ h => h) (Or.inl ⟨by rfl, ?_⟩) (by assumption) ?_
    rotate_left 1
    · (intro wS hSw; (try dsimp only at hSw); go_simp; try with_reducible rfl)
    try simp only [List.getElem_toArray, List.getElem_cons_zero, List.getElem_cons_succ, Act.put, List.setIfInBounds_toArray, List.set_cons_zero, List.set_cons_succ]
    refine wpAnyH_take (i := 2) (v := ?_) rfl (by kernel_rfl) (by kernel_rfl) (by kernel_rfl) (fun _ _ _ h => h) (Or.inl ⟨by rfl, ?_⟩) (by assumption) ?_
    rotate_left 1
    · (intro wS hSw; (try dsimp only at hSw); go_simp; try with_reducible rfl)
    try simp only [List.getElem_toArray, List.getElem_cons_zero, List.getElem_cons_succ, Act.put, List.setIfInBounds_toArray, List.set_cons_zero, List.set_cons_succ]
    refine wpAnyH_ready (rs := [3]) (by kernel_rfl) (by simp) ?_
    refine AllReadyH.cons rfl (fun K hK => ?_) AllReadyH.nil
    go_simp
    refine (dress_any _ ⟨nn.toArray⟩ _ (KB.out.m.drew).deck (by simpa using HOk.out) (by rw [mk_size]; omega)).mono ?_; rintro e wc ⟨o, rfl, ho, mv⟩; have KC := Lib.hid (KB.out.moved (((Moved.start KB.out.m.deck).drew).trans mv)); clear mv KB
    refine hK.out _ _ (KC.out.held) (fun hHeld => ?_)
    clear hK K
    try simp only [List.getElem_toArray, List.getElem_cons_zero, List.getElem_cons_succ, Act.put, List.setIfInBounds_toArray, List.set_cons_zero, List.set_cons_succ]
    have ho' : DressOf nn o := by simpa using ho
    have hol : o.length ≤ 68 := by have := ho'.len; omega
    have ho0 : o ≠ [] := by
      intro e; subst e
      have := ho'.eq
      rw [HTk.out] at this
      exact absurd this (by simp [rawL, toks, toksA])
    have hcase := HDr.out o ho'
    obtain ⟨⟨qv, qe⟩, hq⟩ : ∃ p, nameN r o = p := ⟨_, rfl⟩
    rw [hq] at hcase
    have hcase2 : qe = 3 ∨ (qe = 0 ∧ qv = pn) := by
      rcases hcase with h | h
      · left; exact congrArg Prod.snd h
      · right; exact ⟨congrArg Prod.snd h, congrArg Prod.fst h⟩
    have HQ := Lib.hid hq; have HO0 := Lib.hid ho0; have HCs := Lib.hid hcase2
    clear ho ho' ho0 hcase hcase2 hq
    refine wpAnyH_ready (rs := [4]) (by kernel_rfl) (by simp) ?_
    refine AllReadyH.cons rfl (fun K hK => ?_) AllReadyH.nil
    go_simp
    refine (value_any _ _ _ _ _ ⟨formsF, r⟩ 1 ⟨o.toArray⟩ _ KC.out.s (by rw [mk_size]; omega)).mono ?_; rw [show (⟨o.toArray⟩ : ByteArray).data.toList = o by simp, (HV.out _ HO0.out).2.1, HQ.out]; unfold pairV; rintro e wd ⟨rfl, hb⟩; have KD := Lib.hid (KC.out.below hb); clear hb KC
    refine hK.out _ _ (KD.out.held) (fun hHeld => ?_)
    clear hK K
    try simp only [List.getElem_toArray, List.getElem_cons_zero, List.getElem_cons_succ, Act.put, List.setIfInBounds_toArray, List.set_cons_zero, List.set_cons_succ]
    refine wpAnyH_take (i := 5) (v := ?_) rfl (by kernel_rfl) (by kernel_rfl) (by kernel_rfl) (fun _ _ _ h => h) (Or.inl ⟨by rfl, ?_⟩) (by assumption) ?_
    rotate_left 1
    · (intro wS hSw; (try dsimp only at hSw); go_simp; try with_reducible rfl)
    try simp only [List.getElem_toArray, List.getElem_cons_zero, List.getElem_cons_succ, Act.put, List.setIfInBounds_toArray, List.set_cons_zero, List.set_cons_succ]
    refine wpAnyH_take (i := 6) (v := ?_) rfl (by kernel_rfl) (by kernel_rfl) (by kernel_rfl) (fun _ _ _ h => h) (Or.inl ⟨by rfl, ?_⟩) (by assumption) ?_
    rotate_left 1
    · (intro wS hSw; (try dsimp only at hSw); go_simp; try with_reducible rfl)
    try simp only [List.getElem_toArray, List.getElem_cons_zero, List.getElem_cons_succ, Act.put, List.setIfInBounds_toArray, List.set_cons_zero, List.set_cons_succ]
    refine wpAnyH_take (i := 7) (v := ?_) rfl (by kernel_rfl) (by kernel_rfl) (by kernel_rfl) (fun _ _ _ h => h) (Or.inl ⟨by rfl, ?_⟩) (by assumption) ?_
    rotate_left 1
    · (intro wS hSw; (try dsimp only at hSw); go_simp; try with_reducible rfl)
    try simp only [List.getElem_toArray, List.getElem_cons_zero, List.getElem_cons_succ, Act.put, List.setIfInBounds_toArray, List.set_cons_zero, List.set_cons_succ]
    refine wpAnyH_take (i := 8) (v := ?_) rfl (by kernel_rfl) (by kernel_rfl) (by kernel_rfl) (fun _ _ _ h => h) (Or.inl ⟨by rfl, ?_⟩) (by assumption) ?_
    rotate_left 1
    · (intro wS hSw; (try dsimp only at hSw); go_simp; try with_reducible rfl)
    try simp only [List.getElem_toArray, List.getElem_cons_zero, List.getElem_cons_succ, Act.put, List.setIfInBounds_toArray, List.set_cons_zero, List.set_cons_succ]
    refine wpAnyH_take (i := 9) (v := ?_) rfl (by kernel_rfl) (by kernel_rfl) (by kernel_rfl) (fun _ _ _ h => h) (Or.inl ⟨by rfl, ?_⟩) (by assumption) ?_
    rotate_left 1
    · (intro wS hSw; (try dsimp only at hSw); go_simp; try with_reducible rfl)
    try simp only [List.getElem_toArray, List.getElem_cons_zero, List.getElem_cons_succ, Act.put, List.setIfInBounds_toArray, List.set_cons_zero, List.set_cons_succ]
    refine wpAnyH_done (by kernel_rfl) ?_ _
    refine NoPanic.normal ?_
    clear p0 p1 p2 p3 c0 c1 c2
    obtain ⟨p0, p1, p2, p3, c0, c1, c2⟩ := KD.out.held
    go_wp2_with fail
    obtain ⟨x1, hx1⟩ : ∃ x1, [49, 50, 32] ++ nn = x1 := ⟨_, rfl⟩
    have f1 := HU1.out
    have f2 : x1.length ≤ 36 := by rw [← hx1]; simp; omega
    have f3 : x1 ≠ [] := by rw [← hx1]; simp
    rw [hx1] at f1
    rw [show 49 :: 50 :: 32 :: nn = x1 from hx1]
    have F1 := Lib.hid f1; have F3 := Lib.hid f3
    clear hx1 f1 f3
    refine (value_any _ _ _ _ _ ⟨formsF, r⟩ 2 ⟨x1.toArray⟩ _ KD.out.s (by rw [mk_size]; omega)).mono ?_
    rw [show (⟨x1.toArray⟩ : ByteArray).data.toList = x1 by simp, (HV.out _ F3.out).2.2, F1.out]
    unfold pairV
    rintro e we ⟨rfl, hb⟩
    have KE := Lib.hid (KD.out.below hb); clear hb KD p0 p1 p2 p3 c0 c1 c2
    obtain ⟨p0, p1, p2, p3, c0, c1, c2⟩ := KE.out.held
    go_wp2_with fail
    obtain ⟨x2, hx2⟩ : ∃ x2, nn ++ [44, 32, 49, 50] = x2 := ⟨_, rfl⟩
    have f1 := HU2.out
    have f5 : x2.length ≤ 37 := by rw [← hx2]; simp; omega
    have f3 : x2 ≠ [] := by rw [← hx2]; simp
    rw [hx2] at f1
    rw [hx2]
    have F5 := Lib.hid f1; have F6 := Lib.hid f3
    clear hx2 f1 f3
    refine (value_any _ _ _ _ _ ⟨formsF, r⟩ 2 ⟨x2.toArray⟩ _ KE.out.s (by rw [mk_size]; omega)).mono ?_
    rw [show (⟨x2.toArray⟩ : ByteArray).data.toList = x2 by simp, (HV.out _ F6.out).2.2, F5.out]
    unfold pairV
    rintro e wf ⟨rfl, hb⟩
    have KF := Lib.hid (KE.out.below hb); clear hb KE p0 p1 p2 p3 c0 c1 c2
    obtain ⟨p0, p1, p2, p3, c0, c1, c2⟩ := KF.out.held
    have hday := HDay.out
    unfold dayV at hday
    have HDt := Lib.hid (dates_any dy dm dd wf)
    cases hvd : vldB dy dm dd
    all_goals
      rw [hvd] at hday HDt
      have ha := congrArg Prod.fst hday
      have he := congrArg Prod.snd hday
      dsimp only [cond_true, cond_false] at ha he
      subst ha he
      clear hday hvd HDay
      rcases HCs.out with rfl | ⟨rfl, rfl⟩
      all_goals
        go_wp2_with fail
        refine HDt.out.mono ?_
        rintro e wg ⟨rfl, hb⟩
        have KG := Lib.hid (KF.out.below hb); clear hb
        go_wp2_with fail
        go_ret
        exact ⟨rfl, KG.out.m.base HB1.out zB1⟩
  · have hd : decide (n ≤ 400) = false := by simpa using hn
    clear hr hn
    go_enter Tryz.func5, Tryz.ntmps5
    go_wp2_with fail
    refine (awake_s _).mono ?_; rintro e w1 ⟨rfl, hb1⟩
    go_wp2_with fail
    refine (few_any a n cap _).mono ?_; rintro e w' ⟨rfl, rfl⟩
    go_wp2_with fail
    refine (awake_s _).mono ?_; rintro e w2 ⟨rfl, hb2⟩
    go_wp2_with fail
    go_ret
    exact ⟨rfl, hb1.trans (hb2.mono hb1.size)⟩
end Go.Proofs.YtfgoiojmbphmnaaGreatDoor
end
section
namespace Go.Proofs.YtfgoiojmbphmnaaGreatDoor.schemaForms
open Go.ChangeShapes Go.WideShapes Go.ChangeAt Go.RowKit Go.Joins
open Go.ChangeMaps (open_string shut_string)
set_option linter.unusedVariables false

theorem own : ownKnob Tryz.prog.godebug = none := by kernel_rfl
theorem laidOut : laidOutB Tryz.prog = true := by kernel_rfl

set_option maxRecDepth 100000 in
theorem lifted (os : Os) (started : os.Started) (H : Type) (enc : TypeId × Value → H) :
    ReturnsInHanded {} Tryz.checked os 5 .any (fun w args => (Rows.schemaFormsSpec.pre enc Tryz.prog Tryz.f5 Rows.schemaFormsRow.domain false w args ∧ laidMetH Tryz.prog Rows.schemaFormsRow.laid w) ∧ sizedMet enc Tryz.prog Tryz.f5 (OpenSpec.ofChange Rows.schemaFormsSpec) false w args) (Rows.schemaFormsSpec.post enc Tryz.prog Tryz.f5 false true false false) := by
  refine returnsInHanded_of_change_and (C := Tryz.checked) (X := fun w _ => laidMetH Tryz.prog Rows.schemaFormsRow.laid w) (fun _ _ _ hh h => h.of_heap hh) own started (by kernel_rfl) Tryz.func5
    (ChangeSpec.witness_shaped (enc := enc) (C := Tryz.checked) (os := os) (X := fun w _ => laidMetH Tryz.prog Rows.schemaFormsRow.laid w) false (World.laidAll Tryz.prog os Rows.schemaFormsRow.laid) #[.slice none 0 0] 8 (World.laidAll_os _ _ _)
      (World.shaped_of_ZipB (by kernel_rfl) (by kernel_rfl)) (by kernel_rfl) (by kernel_rfl) (by kernel_rfl)
      (by rw [MakeChecks.laidMetH_plain _ _ _ (by kernel_rfl)]; exact laidMet_laidAll _ (by kernel_rfl) (by kernel_rfl))) ?_
  intro W base args ds gs before hval0 hW hcnd _ hLaid _
  have hval : ∀ (j : Nat) t v, Tryz.f5.params[j]? = some t → args[j]? = some v → Value.okWide Tryz.prog W .any base t v := hval0
  have hW' := hW
  obtain ⟨p, q, hA0, hV, rfl, hfz, hnd⟩ := hW
  have hA : DataW.TrodAll enc Tryz.prog W 0 (fun _ => true) true Tryz.f5.params.toList args.toList ds p := hA0
  rw [Tryz.params5] at hA hval
  obtain ⟨v0, vs0, d0, ds0, p0, q0, hargs, rfl, rfl, h0, r0⟩ := trodAll_cons hA
  obtain ⟨rfl, rfl, rfl⟩ := trodAll_nil r0
  obtain rfl : args = #[v0] := by cases args; simp_all
  obtain ⟨rfl, rfl⟩ := trodVars_none hV
  obtain ⟨a0, len0, cap0, rfl⟩ := okWide_slice Tryz.underlying22 (hval 0 22 v0 rfl rfl)
  have k0 := h0
  have lt0 : ∀ x ∈ p0, x.block < W.heap.size := by obtain ⟨m, hm⟩ := k0; exact DataW.trod_lt m _ _ _ hm
  obtain ⟨z0, w0⟩ : ∃ zs, IsRow .i64 W a0 len0 cap0 zs := by
    obtain ⟨fuel, hf⟩ := h0
    rcases open_ints Tryz.underlying22 Tryz.underlying3 (by kernel_rfl) hf with ⟨hcs, _⟩ | ⟨x, l, c, zs, hcs, _, hl, hm, hz, _, hcell, hwz⟩
    · simp [Value.cells] at hcs
      obtain ⟨rfl, rfl, rfl⟩ := hcs
      exact ⟨[], .inl ⟨rfl, rfl, rfl, rfl⟩⟩
    · simp [Value.cells] at hcs
      obtain ⟨rfl, rfl, rfl⟩ := hcs
      exact ⟨zs, .inr ⟨_, rfl, hl, hm, by simpa using hz, hcell, hwz⟩⟩
  clear hA0 hval0
  refine (sforms_walk a0 len0 cap0 z0 W w0).mono fun e W' ⟨he, bel⟩ => ?_
  subst he
  exact ⟨_, rfl, _, _, _, [], _, [], hW', trodAll_mk1 (shut_bool Tryz.underlying4 _), (trodAll_cons_mk (Below.trod laidOut (by kernel_rfl) (of_decide_eq_true (by kernel_rfl)) k0 bel lt0) trodAll_mk0), rfl, bel.frame _, fun h => by cases h⟩

theorem over : Rows.schemaFormsRow.holds Tryz.pinned (OpenSpec.ofChange Rows.schemaFormsSpec) :=
  OpenClaim.holds_of_wide 5 Tryz.f5 rfl rfl rfl rfl rfl rfl rfl ⟨rfl, rfl, rfl, rfl, rfl⟩ rfl rfl rfl rfl rfl (by kernel_rfl) Tryz.func5 (by kernel_rfl)
    (of_decide_eq_true (by kernel_rfl)) (by unfold Func.isWrapper; first | (rw [if_pos (by decide +kernel)]; kernel_rfl) | (rw [if_neg (by decide +kernel)]; exact ⟨rfl, rfl⟩))
    (fun os started H enc _ => lifted os started H enc)

/-- THE STATEMENT -/
theorem proved : Rows.SchemaFormsCardSaid :=
  Claim7.holds_tied_plain_at .later [] [.data, .pinned] true (true, "d80584c64c476ce7af35335222562c676e5987e6d7256348884298adb1664843") false
    over (fun _ h => by cases h) (by kernel_rfl) (fun _ h => by cases h) schemaForms_row_tie rfl ⟨rfl, rfl⟩ (by kernel_rfl) rfl
    (fun f fn hf hfn => by
      obtain rfl : f = 5 := Option.some.inj ((show Tryz.prog.funcNamed Rows.schemaFormsRow.func = some 5 by kernel_rfl).symm.trans hf) |>.symm
      obtain rfl : fn = Tryz.f5 := (Option.some.inj (Tryz.func5.symm.trans hfn)).symm
      exact ⟨by kernel_rfl, fun j t ht => by
        rw [Tryz.params5] at ht
        have hm : t ∈ [22] := by simpa using Array.mem_of_getElem? ht
        have hall : ([22].all fun u => !Tryz.prog.wantsStandIn u) = true := by kernel_rfl
        exact (show Tryz.prog.wantsStandIn t = false by simpa using List.all_eq_true.1 hall t hm)⟩)
    (by kernel_rfl)
#print axioms proved
end Go.Proofs.YtfgoiojmbphmnaaGreatDoor.schemaForms
end
