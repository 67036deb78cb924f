/-
  For every input the law SchemaGrams returns true, and its arguments read afterwards as they read before; no condition.
-/
import Derived.Test.YtfgoiojmbphmnaaGreatDoorPartSchemaGrams7
import Derived.Deep.AppendLies
import Derived.Deep.RegionLaw
import Derived.Sort.KeysCollected
import Derived.Sort.Walk0
import Derived.Shelf.SlIter.Nil
import Derived.Shelf.SortM.Plain
import Derived.Shelf.SortM.SortNone
import Derived.Ground.GgzProg
import Derived.Ground.SlgmProg
import Derived.Test.YtfgoiojmbphmnaaGreatDoorProg
import Derived.Maps.OwnSet
import Derived.StringKeys
import Derived.Test.YtfgoiojmbphmnaaGreatDoorRows
import Derived.WalkKit
import Derived.ProofKit
import Derived.OpenShut
import Derived.ShutString
import Derived.ChangeOld
import Derived.Below
import Derived.Lib.SmallJoins
import Derived.Test.YtfgoiojmbphmnaaGreatDoorCards
import Derived.Test.YtfgoiojmbphmnaaGreatDoorTie
import Derived.LaidMore
import Derived.Lay
import Derived.SevenTiedAt
import Derived.Stop.Joined
section
/- recordlinkmake: Text: some text of bounded length. -/
set_option linter.unusedSimpArgs false
set_option linter.unusedVariables false
set_option maxRecDepth 100000
namespace Go.Proofs.YtfgoiojmbphmnaaGreatDoor
open Go.RowKit
attribute [local go_sem] toList_mk mk_size str_append
def partA : List (List UInt8) := [[], [], [32], [45], [39]]
def partC : List (List UInt8) := [[32], [32], [46], [44, 32]]
def partB (a b : List UInt8) : List (List UInt8) := [a, b, [49, 50], [48, 48, 55], [51, 98], [77, 195, 188, 108, 108, 101, 114], [195, 134, 103, 105, 114], [195, 159], [79, 39, 78, 101, 105, 108, 108], [195, 151]]
def partD : List (List UInt8) := [[31], [127], [194, 160], [255], [10]]
theorem pick_partB {D : Nat} {a b : List UInt8} {w w' : World} {e : Ending} (h : PickPost D (partB a b) w e w') (ha : a.length ≤ 16) (hb : b.length ≤ 16) : SomeText D 16 w e w' := by
  obtain ⟨l, he, hl, hm⟩ := h
  refine ⟨l, he, ?_, hm⟩
  simp [partB] at hl
  rcases hl with rfl | rfl | rfl | rfl | rfl | rfl | rfl | rfl | rfl | rfl <;> simp_all
set_option maxHeartbeats 4000000 in
theorem text_deal (D : Nat) (w : World) (h : DeckAt w D) :
    Calls Tryz.prog 16 #[.pointer (some ⟨D, 0, none⟩)] w (SomeText D 200 w) := by
  have M0 := Lib.hid (Moved.start h); clear h
  go_enter Tryz.func16, Tryz.ntmps16
  go_wp2_with fail
  refine (next_any D _ 5 M0.out.deck (by omega) (by omega)).mono ?_
  rintro e w1 ⟨r, rfl, r0, r1, mv⟩
  obtain ⟨r, rfl⟩ := Int.eq_ofNat_of_zero_le r0
  have M1 := Lib.hid (M0.out.trans mv); clear mv
  go_wp2_with fail
  go_loopw [3, 4] (fun s i wr => ∃ (l : List UInt8) (k : Nat), s = strV l ∧ i = .int .i64 k ∧ l.length + 20 * k ≤ 80 ∧ Moved D w wr) (fun _ i _ => (intOf i).toNat)
  case atStart => exact ⟨[], r, rfl, rfl, by simp; omega, M1.out⟩
  case round =>
    obtain ⟨l, k, rfl, rfl, hlk, mv⟩ := hrel
    have MW := Lib.hid mv; clear mv M1
    by_cases hk : 0 < k
    · have hq : decide ((0 : Int) < k) = true := by simp; omega
      go_wp2_with fail
      refine (pick_new D _ w partA 5 rfl (by omega) (by omega) MW.out).mono ?_
      intro e w2 hp
      obtain ⟨x, rfl, hx, mv⟩ := pick_le (N := 1) hp (by decide)
      have M2 := Lib.hid mv; clear mv hp
      go_wp2_with fail
      refine (token_deal D _ M2.out.deck).mono ?_
      rintro e w3 ⟨a, rfl, ha, mv⟩
      have M3 := Lib.hid (M2.out.trans mv); clear mv
      go_wp2_with fail
      refine (token_deal D _ M3.out.deck).mono ?_
      rintro e w4 ⟨b, rfl, hb, mv⟩
      have M4 := Lib.hid (M3.out.trans mv); clear mv
      go_wp2_with fail
      refine (pick_new D _ w (partB a b) 10 rfl (by omega) (by omega) M4.out).mono ?_
      intro e w5 hp
      obtain ⟨y, rfl, hy, mv⟩ := pick_partB hp ha hb
      have M5 := Lib.hid mv; clear mv hp
      go_wp2_with fail
      refine (pick_new D _ w partC 4 rfl (by omega) (by omega) M5.out).mono ?_
      intro e w6 hp
      obtain ⟨z, rfl, hz, mv⟩ := pick_le (N := 2) hp (by decide)
      have M6 := Lib.hid mv; clear mv hp
      go_wp2_with fail
      go_roundw
      case rel => exact ⟨l ++ (x ++ y ++ z), k - 1, by simp, by congr 1; omega, by simp; omega, M6.out⟩
      case measure => simp [intOf]; omega
    · have hq : decide ((0 : Int) < k) = false := by simp; omega
      go_wp2_with fail
      refine (next_any D _ 12 MW.out.deck (by omega) (by omega)).mono ?_
      rintro e w2 ⟨q, rfl, q0, q1, mv⟩
      have M2 := Lib.hid (MW.out.trans mv); clear mv
      by_cases h0 : q = 0
      · subst h0
        go_wp2_with fail
        go_ret
        exact ⟨l ++ [195], rfl, by simp; omega, M2.out⟩
      · have e0 : (q == 0) = false := by simpa using h0
        by_cases h1 : q = 1
        · subst h1
          clear h0 e0
          go_wp2_with fail
          refine (pick_new D _ w partD 5 rfl (by omega) (by omega) M2.out).mono ?_
          intro e w3 hp
          obtain ⟨x, rfl, hx, mv⟩ := pick_le (N := 2) hp (by decide)
          have M3 := Lib.hid mv; clear mv hp
          go_wp2_with fail
          go_ret
          exact ⟨l ++ x, rfl, by simp; omega, M3.out⟩
        · have e1 : (q == 1) = false := by simpa using h1
          by_cases h2 : q = 2
          · subst h2
            clear h0 h1 e0 e1
            go_wp2_with fail
            go_loopw [3] (fun s wr => ∃ l : List UInt8, s = strV l ∧ l.length ≤ 90 ∧ wr = w2) (fun s _ => 100 - (match s with | .string b => b.size | _ => 0))
            case atStart => exact ⟨l, rfl, by omega, rfl⟩
            case round =>
              obtain ⟨m, rfl, hm, rfl⟩ := hrel
              by_cases hl : m.length < 64
              · have hq : decide ((m.length : Int) < 64) = true := by simp; omega
                go_wp2_with fail
                go_roundw
                case rel => exact ⟨m ++ [97], rfl, by simp; omega, by trivial⟩
                case measure => simp [mk_size]; omega
              · have hq : decide ((m.length : Int) < 64) = false := by simp; omega
                go_wp2_with fail
                go_ret
                exact ⟨m, rfl, by omega, M2.out⟩
          · have e2 : (q == 2) = false := by simpa using h2
            clear h0 h1 h2
            go_wp2_with fail
            go_ret
            exact ⟨l, rfl, by omega, M2.out⟩
end Go.Proofs.YtfgoiojmbphmnaaGreatDoor
end
section
/- recordlinkmake: Schema: some valid schema of one to four fields. -/
set_option linter.unusedSimpArgs false
set_option linter.unusedVariables false
set_option maxRecDepth 100000
namespace Go.Proofs.YtfgoiojmbphmnaaGreatDoor
open Go.RowKit
attribute [local go_sem] toList_mk mk_size str_append
theorem infoF : (Tryz.prog.info? 42).map (fun i => (i.zero, i.size, i.bytes)) = some (some (.agg #[.string ⟨#[]⟩, .int .i64 0]), 2, 24) := by kernel_rfl
/-- a schema that is dealt -/
structure SchemaD (s : SchemaL) : Prop where
  fields : FieldsD s.fields
  some : 1 ≤ s.fields.length
  rules : RulesD s.rules
theorem SchemaD.check {s : SchemaL} (h : SchemaD s) : checkS s = 0 := h.fields.check h.some h.rules.check
def nil4 : Array Value := #[.slice none 0 0, .slice none 0 0, .slice none 0 0, .slice none 0 0]
/-- while a schema is dealt: the result's block, the schema's, the names', the row of the fields -/
structure SMid (D : Nat) (w : World) (y : Nat) (vt vn vs : Value) (r : RulesL) (vf : Value) (F : List F2) (wr : World) : Prop where
  z : wr.heap[w.heap.size]? = some (.cells nil4 33 (0, 0))
  s : wr.heap[y]? = some (.cells #[vf, vt, vn, vs] 33 (0, 0))
  n : RowB wr (y + 1) namesD
  own : wr.ownsRow (y + 2) 42 2 vf F.length (F.flatMap encF)
  rules : RulesAt wr (fun b => w.heap.size < b ∧ b < y) vt vn vs r
  fields : FieldsD F
  moved : Moved D w wr
  lt : w.heap.size < y
theorem own_same {w w' : World} {B e size n : Nat} {v : Value} {xs : List Value} (h : w.ownsRow B e size v n xs) (hs : ∀ g, B ≤ g → g < w.heap.size → w'.heap[g]? = w.heap[g]?) : w'.ownsRow B e size v n xs := by
  refine ⟨h.1, ?_⟩
  rcases h.2 with h0 | ⟨g, cap, cur, hv, hg, hh, rest⟩
  · exact .inl h0
  · exact .inr ⟨g, cap, cur, hv, hg, (hs g hg (lt_of_blk hh)).trans hh, rest⟩
theorem own_slice {w : World} {B e size n : Nat} {v : Value} {xs : List Value} (h : w.ownsRow B e size v n xs) : ∃ a c, v = .slice a n c := by
  rcases h.2 with ⟨rfl, rfl⟩ | ⟨g, cap, cur, hv, _⟩
  · exact ⟨none, 0, rfl⟩
  · exact ⟨_, _, hv⟩
theorem own_far {w : World} {B e size n : Nat} {v : Value} {xs : List Value} (h : w.ownsRow B e size v n xs) {k : Nat} (hk : k < B) : some k ≠ v.ownBlock := by
  rcases h.2 with ⟨rfl, rfl⟩ | ⟨g, cap, cur, rfl, hg, _⟩
  · simp [Value.ownBlock]
  · simp [Value.ownBlock]; omega
theorem SMid.gone {D : Nat} {w : World} {y : Nat} {vt vn vs : Value} {r : RulesL} {vf : Value} {F : List F2} {wr wd : World} (h : SMid D w y vt vn vs r vf F wr) (hD : D < w.heap.size) (m : Moved D wr wd) : SMid D w y vt vn vs r vf F wd := by
  have hy := h.lt
  have hb : ∀ b, b < wr.heap.size → w.heap.size ≤ b → wd.heap[b]? = wr.heap[b]? := fun b hb hS => m.grown.block b hb (by simp; omega)
  refine ⟨m.blk (by omega) h.z, m.blk (by omega) h.s, m.blk (by omega) h.n, own_same h.own fun g h1 h2 => hb g h2 (by omega), ?_, h.fields, h.moved.trans m, h.lt⟩
  exact ⟨h.rules.1.move m.size fun b hb' hS => ⟨hb b hb' (by have := hS.1; omega), hS⟩, h.rules.2.1.move m.size fun b hb' hS => ⟨hb b hb' (by have := hS.1; omega), hS⟩, h.rules.2.2.move m.size fun b hb' hS => ⟨hb b hb' (by have := hS.1; omega), hS⟩⟩
theorem SMid.step {D : Nat} {w : World} {y : Nat} {vt vn vs : Value} {r : RulesL} {vf v : Value} {F : List F2} {x : F2} {wr wA w2 : World} (h : SMid D w y vt vn vs r vf F wr) (hD : D < w.heap.size) (hb : Below wr.heap.size wr wA) (hg : wA.grownBy w2 vf.ownBlock)
    (hown : w2.ownsRow (y + 2) 42 2 v (F.length + 1) (F.flatMap encF ++ encF x)) (hx : FieldsD (F ++ [x])) : SMid D w y vt vn vs r v (F ++ [x]) (w2.setCell ⟨y, 0, none⟩ v) := by
  have hy := h.lt
  have zn : y + 1 < wr.heap.size := lt_of_blk h.n
  have hz := hb.size; have hz2 := hg.size
  have k1 : ∀ k, k < y + 2 → w2.heap[k]? = wr.heap[k]? := fun k hk => (hg.block k (by omega) (own_far h.own hk)).trans (hb.block k (by omega))
  have k2 : ∀ k, k < y + 2 → k ≠ y → (w2.setCell ⟨y, 0, none⟩ v).heap[k]? = wr.heap[k]? := fun k hk hne => (heap_setCell_other _ _ _ _ hne).trans (k1 k hk)
  have hs : (w2.setCell ⟨y, 0, none⟩ v).heap.size = w2.heap.size := by simp [World.setCell]
  refine ⟨(k2 _ (by omega) (by omega)).trans h.z, blk_set (i := 0) (v := v) ((k1 y (by omega)).trans h.s), (k2 _ (by omega) (by omega)).trans h.n, ?_, ?_, hx, ?_, hy⟩
  · rw [List.length_append, List.flatMap_append, show [x].flatMap encF = encF x by simp]
    exact own_same hown fun g h1 h2 => heap_setCell_other _ _ _ _ (by simp; omega)
  · have mv : ∀ b, b < wr.heap.size → (w.heap.size < b ∧ b < y) → (w2.setCell ⟨y, 0, none⟩ v).heap[b]? = wr.heap[b]? ∧ (w.heap.size < b ∧ b < y) := fun b _ hS => ⟨k2 b (by omega) (by omega), hS⟩
    exact ⟨h.rules.1.move (by omega) mv, h.rules.2.1.move (by omega) mv, h.rules.2.2.move (by omega) mv⟩
  · have m := h.moved
    refine ⟨⟨hg.os.trans (hb.os.trans m.grown.os), hg.tape.trans (hb.tape.trans m.grown.tape), hg.output.trans (hb.output.trans m.grown.output), by have := m.size; omega, fun k hk hr => ?_⟩, m.deck.same fun k hk => k2 k (by omega) (by omega), m.lt⟩
    exact (k2 k (by omega) (by omega)).trans (m.grown.block k hk hr)
def SchemaPost (D : Nat) (w : World) (e : Ending) (w' : World) : Prop := ∃ vf vt vn vs s, e = .returned (.agg #[vf, vt, vn, vs]) ∧ SchemaAt w' (fun b => w.heap.size ≤ b) vf vt vn vs s ∧ SchemaD s ∧ Moved D w w'
end Go.Proofs.YtfgoiojmbphmnaaGreatDoor
end
section
/- recordlinkmake: Schema: the walk. -/
set_option linter.unusedSimpArgs false
set_option linter.unusedVariables false
set_option maxRecDepth 100000
namespace Go.Proofs.YtfgoiojmbphmnaaGreatDoor
open Go.RowKit
attribute [local go_sem] toList_mk mk_size str_append
def kindsD : List Int := [1, 1, 2, 4, 3]
theorem kindsD_bd (k : Nat) (hk : k < 5) : 1 ≤ kindsD.getD k 0 ∧ kindsD.getD k 0 ≤ 4 := by
  have : ∀ j : Fin 5, 1 ≤ kindsD.getD j 0 ∧ kindsD.getD j 0 ≤ 4 := by decide
  exact this ⟨k, hk⟩
theorem kinds_cell {w : World} {b : Nat} (h : w.heap[b]? = some (.cells (kindsD.map (Value.int .i64)).toArray 3 (0, 0))) (k : Nat) (hk : k < 5) : w.cell? ⟨b, k, none⟩ = some (.int .i64 (kindsD.getD k 0)) := by
  rw [cell_of_row _ _ _ _ _ _ h, List.getElem?_toArray, List.getElem?_map]
  have : k < kindsD.length := hk
  rw [List.getD, List.getElem?_eq_getElem this]; rfl
set_option maxHeartbeats 8000000 in
theorem schema_deal (D : Nat) (w : World) (h : DeckAt w D) :
    Calls Tryz.prog 11 #[.pointer (some ⟨D, 0, none⟩)] w (SchemaPost D w) := by
  have zD := h.lt
  have M0 := Lib.hid (Moved.start h); clear h
  go_enter Tryz.func11, Tryz.ntmps11
  go_wp2_with fail
  refine (rules_deal D _ (M0.out.alloc _).deck).mono ?_
  rintro e w1 ⟨vt, vn, vs, r, rfl, hr, hd, mv⟩
  obtain ⟨at', ct, rfl⟩ := hr.1.slice
  obtain ⟨an, cn, rfl⟩ := hr.2.1.slice
  obtain ⟨as', cs, rfl⟩ := hr.2.2.slice
  have zw : w.heap.size < w1.heap.size := by have := mv.size; simp at this; omega
  have X1 := Lib.hid (show w1.heap[w.heap.size]? = some (.cells nil4 33 (0, 0)) from mv.blk (by omega) (blk_new rfl))
  have M1 := Lib.hid ((M0.out.alloc _).trans mv)
  have HR := Lib.hid hr; have HRD := Lib.hid hd
  clear hr hd mv
  go_wp2_with fail
  have K0 := Lib.hid (show SMid D w w1.heap.size (.slice at' r.titles.length ct) (.slice an r.nicks.length cn) (.slice as' r.streets.length cs) r (.slice none 0 0) [] ((w1.alloc (.cells #[.slice none 0 0, .slice at' r.titles.length ct, .slice an r.nicks.length cn, .slice as' r.streets.length cs] 33)).alloc (.cells (namesD.flatMap encS).toArray 9)) from
    ⟨blk_old (blk_old X1.out), blk_old (blk_new rfl), blk_new (by simp), ⟨rfl, .inl ⟨rfl, rfl⟩⟩, by
      have hb : Below w1.heap.size w1 ((w1.alloc (.cells #[.slice none 0 0, .slice at' r.titles.length ct, .slice an r.nicks.length cn, .slice as' r.streets.length cs] 33)).alloc (.cells (namesD.flatMap encS).toArray 9)) := ((Below.refl _ _).alloc (Nat.le_refl _) _).alloc (by simp) _
      have mvv : ∀ b, b < w1.heap.size → (w.alloc (.cells nil4 33)).heap.size ≤ b → _ ∧ (w.heap.size < b ∧ b < w1.heap.size) := fun b h1 h2 => ⟨hb.block b h1, by simp at h2; omega, h1⟩
      exact ⟨HR.out.1.move hb.size mvv, HR.out.2.1.move hb.size mvv, HR.out.2.2.move hb.size mvv⟩, FieldsD.nil, (M1.out.alloc _).alloc _, zw⟩)
  refine (next_any D _ 4 K0.out.moved.deck (by omega) (by omega)).mono ?_
  rintro e w2 ⟨q, rfl, q0, q1, mv⟩
  obtain ⟨q, rfl⟩ := Int.eq_ofNat_of_zero_le q0
  have K1 := Lib.hid (K0.out.gone zD mv)
  clear mv K0 X1 M1 HR M0
  go_wp2_with fail
  go_loopw [6] (fun i wr => ∃ (k : Nat) (F : List F2) (vf : Value), i = .int .i64 k ∧ k ≤ 1 + q ∧ F.length = k ∧ SMid D w w1.heap.size (.slice at' r.titles.length ct) (.slice an r.nicks.length cn) (.slice as' r.streets.length cs) r vf F wr) (fun i _ => 1 + q - (intOf i).toNat)
  case atStart => exact ⟨0, [], _, rfl, by omega, rfl, K1.out⟩
  case round =>
    obtain ⟨k, F, vf, rfl, hk, hF, hm⟩ := hrel
    have HF := Lib.hid hF; have KM := Lib.hid hm
    clear hm hF K1
    by_cases hlt : k < 1 + q
    · have hq : decide ((k : Int) < 1 + q) = true := by simp; omega
      have hix : (k : Int) < 5 := by omega
      have hc : (wr.alloc (.cells #[.int .i64 1, .int .i64 1, .int .i64 2, .int .i64 4, .int .i64 3] 3)).cell? ⟨wr.heap.size, k, none⟩ = _ := kinds_cell (w := wr.alloc (.cells (kindsD.map (Value.int .i64)).toArray 3)) (b := wr.heap.size) (blk_new rfl) k (by omega)
      obtain ⟨kb1, kb2⟩ := kindsD_bd k (by omega)
      obtain ⟨kd, hkd⟩ : ∃ kd, kindsD.getD k 0 = kd := ⟨_, rfl⟩
      rw [hkd] at hc kb1 kb2
      clear hkd
      go_wp2_with fail
      refine (one_any D _ 4 (KM.out.moved.alloc _).deck (by omega) (by omega)).mono ?_
      rintro e w3 ⟨u, rfl, mv⟩
      have KN := Lib.hid (KM.out.gone zD (((Moved.start KM.out.moved.deck).alloc _).trans mv))
      clear hc mv
      go_upto_if 25 with (fail)
      go_cut [7] (fun s7 wx => ∃ kd : Int, s7 = .int .i64 kd ∧ 1 ≤ kd ∧ kd ≤ 4 ∧ SMid D w w1.heap.size (.slice at' r.titles.length ct) (.slice an r.nicks.length cn) (.slice as' r.streets.length cs) r vf F wx)
      case first =>
        cases u
        · go_wp2_with fail
          go_meet
          exact ⟨kd, rfl, kb1, kb2, KN.out⟩
        · go_wp2_with fail
          refine (next_any D _ 4 KN.out.moved.deck (by omega) (by omega)).mono ?_
          rintro e w4 ⟨p, rfl, p0, p1, mv⟩
          have KO := Lib.hid (KN.out.gone zD mv)
          clear mv
          go_wp2_with fail
          go_meet
          exact ⟨1 + p, rfl, by omega, by omega, KO.out⟩
      case rest =>
        obtain ⟨kx, rfl, kx1, kx2, hm⟩ := hcut
        have KX := Lib.hid hm
        clear hm KM KN kb1 kb2
        obtain ⟨av, cv, hav⟩ := own_slice KX.out.own
        rw [HF.out] at hav
        subst hav
        have cY := (cells4 KX.out.s).1
        have cN := KX.out.n.cell k (by show k < 5; omega)
        have zY := lt_of_blk KX.out.n
        have zY0 : w1.heap.size < wc.heap.size := by omega
        obtain ⟨nm, hnm⟩ : ∃ nm, namesD.getD k [] = nm := ⟨_, rfl⟩
        rw [hnm] at cN
        have HNM := Lib.hid hnm; clear hnm
        go_wp2_with fail
        have hown := own_below KX.out.own (((Below.refl _ _).alloc (Nat.le_refl _) (.cells #[strV nm, .int .i64 kx] 42)).drew)
        have hnews : ∀ j u, [strV nm, Value.int .i64 kx][j]? = some u → ((wc.alloc (.cells #[strV nm, .int .i64 kx] 42)).drew).cell? ((⟨wc.heap.size, 0, none⟩ : Addr).add j) = some u := fun j u hu => by
          rw [add_plain, World.cell?_drew, cell_of_row _ _ _ _ _ _ (heap_alloc_new wc _), Nat.zero_add]; simpa using hu
        have hone : ∀ u ∈ [strV nm, Value.int .i64 kx], u.oneCell' = true := by intro u hu; simp at hu; rcases hu with rfl | rfl <;> rfl
        obtain ⟨i0, hi, hz0, hz1, hz2⟩ := info_parts infoF
        have hbA := ((Below.refl _ wc).alloc (Nat.le_refl _) (.cells #[strV nm, .int .i64 kx] 42)).drew
        have HBA := Lib.hid hbA; have HOwn := Lib.hid hown; have HNews := Lib.hid hnews; have HOne := Lib.hid hone; have HI := Lib.hid hi; have HZ0 := Lib.hid hz0; have HZ1 := Lib.hid hz1; have HZ2 := Lib.hid hz2
        have fY := (frozen_of_row _ _ _ _ _ KX.out.s : wc.frozen? ⟨w1.heap.size, 0, none⟩ = false)
        clear hbA hown hnews hone hi hz0 hz1 hz2
        rw [HF.out] at HOwn
        go_region_law (((refine step_append_lies _ rfl (.tmp 30) (.tmp 37) 27 (by rfl) (w1.heap.size + 2) 42 i0 (.agg #[.string ⟨#[]⟩, .int .i64 0]) 2 24 Tryz.underlying27 HI.out HZ0.out HZ1.out HZ2.out rfl (by decide) (.slice av k cv) k (F.flatMap encF) (by rfl) HOwn.out ⟨wc.heap.size, 0, none⟩ 1 1 [strV nm, .int .i64 kx] (by rfl) rfl HNews.out HOne.out (by omega) (by unfold maxLen; omega) (by omega) (by simp; omega) (wc.heap.size + 1) (by simp) ?_); intro g cap w5 hown5 hg5 hat5 hlt5; have cY5 := (hg5.cell_far ⟨w1.heap.size, 0, none⟩ (by simp; omega) (own_far HOwn.out (by show w1.heap.size < _; omega))).trans ((HBA.out.cell (p := ⟨w1.heap.size, 0, none⟩) (by show w1.heap.size < _; omega)).trans cY); have fY5 := (hg5.frozen_far ⟨w1.heap.size, 0, none⟩ (by simp; omega) (own_far HOwn.out (by show w1.heap.size < _; omega))).trans ((HBA.out.frozen (p := ⟨w1.heap.size, 0, none⟩) (by show w1.heap.size < _; omega)).trans fY)))
        all_goals
          have hfd := KX.out.fields.snoc (by rw [HF.out]; omega) kx1 kx2
          rw [HF.out, HNM.out] at hfd
          have hown6 := hown5
          rw [show F.flatMap encF ++ [strV nm, .int .i64 kx] = F.flatMap encF ++ encF (nm, kx) from rfl, ← HF.out] at hown6
          have KS := Lib.hid (KX.out.step (x := (nm, kx)) zD HBA.out hg5 hown6 hfd)
          rw [HF.out] at KS
          clear hfd hown6 hown5 hg5 hat5 cY5 fY5
          go_wp2_with fail
          go_roundw
          case rel => exact ⟨k + 1, F ++ [(nm, kx)], _, by go_num, by omega, by rw [List.length_append, HF.out]; rfl, KS.out⟩
          case measure => simp [intOf]; omega
    · have hq : decide ((k : Int) < 1 + q) = false := by simp; omega
      obtain ⟨av, cv, hav⟩ := own_slice KM.out.own
      subst hav
      have HZ := Lib.hid KM.out.z
      have HM := Lib.hid KM.out.moved
      have HR := Lib.hid KM.out.rules
      have HO := Lib.hid KM.out.own
      have HFd := Lib.hid KM.out.fields
      obtain ⟨c0, c1, c2, c3⟩ := cells4 KM.out.s
      obtain ⟨d0, d1, d2, d3⟩ := cells4 KM.out.z
      have g0 := (frozen_of_row _ _ _ _ _ KM.out.z : wr.frozen? ⟨w.heap.size, 0, none⟩ = false)
      have g1 := (frozen_of_row _ _ _ _ _ KM.out.z : wr.frozen? ⟨w.heap.size, 1, none⟩ = false)
      have g2 := (frozen_of_row _ _ _ _ _ KM.out.z : wr.frozen? ⟨w.heap.size, 2, none⟩ = false)
      have g3 := (frozen_of_row _ _ _ _ _ KM.out.z : wr.frozen? ⟨w.heap.size, 3, none⟩ = false)
      have z0 := lt_of_blk KM.out.z
      have z1 := lt_of_blk KM.out.s
      clear KM
      go_wp2_with fail
      have hz := (blk_set (i := 3) (v := (.slice as' r.streets.length cs)) (blk_set (i := 2) (v := (.slice an r.nicks.length cn)) (blk_set (i := 1) (v := (.slice at' r.titles.length ct)) (blk_set (i := 0) (v := (.slice av F.length cv)) HZ.out))))
      have hm := ((((HM.out.set (a := ⟨w.heap.size, 0, none⟩) (Nat.le_refl _) (.slice av F.length cv)).set (a := ⟨w.heap.size, 1, none⟩) (Nat.le_refl _) (.slice at' r.titles.length ct)).set (a := ⟨w.heap.size, 2, none⟩) (Nat.le_refl _) (.slice an r.nicks.length cn)).set (a := ⟨w.heap.size, 3, none⟩) (Nat.le_refl _) (.slice as' r.streets.length cs))
      have hv := (((((Vec.owns (k := 2) (enc := encF) (S := fun b => w.heap.size < b) (fun _ => rfl) HO.out (fun b h1 _ => by omega)).set1 (a := ⟨w.heap.size, 0, none⟩) (fun b h => Nat.ne_of_gt h) (.slice av F.length cv)).set1 (a := ⟨w.heap.size, 1, none⟩) (fun b h => Nat.ne_of_gt h) (.slice at' r.titles.length ct)).set1 (a := ⟨w.heap.size, 2, none⟩) (fun b h => Nat.ne_of_gt h) (.slice an r.nicks.length cn)).set1 (a := ⟨w.heap.size, 3, none⟩) (fun b h => Nat.ne_of_gt h) (.slice as' r.streets.length cs))
      have ht := (((((HR.out.1.weaken (S' := fun b => w.heap.size < b) fun b h => h.1).set1 (a := ⟨w.heap.size, 0, none⟩) (fun b h => Nat.ne_of_gt h) (.slice av F.length cv)).set1 (a := ⟨w.heap.size, 1, none⟩) (fun b h => Nat.ne_of_gt h) (.slice at' r.titles.length ct)).set1 (a := ⟨w.heap.size, 2, none⟩) (fun b h => Nat.ne_of_gt h) (.slice an r.nicks.length cn)).set1 (a := ⟨w.heap.size, 3, none⟩) (fun b h => Nat.ne_of_gt h) (.slice as' r.streets.length cs))
      have hn := (((((HR.out.2.1.weaken (S' := fun b => w.heap.size < b) fun b h => h.1).set1 (a := ⟨w.heap.size, 0, none⟩) (fun b h => Nat.ne_of_gt h) (.slice av F.length cv)).set1 (a := ⟨w.heap.size, 1, none⟩) (fun b h => Nat.ne_of_gt h) (.slice at' r.titles.length ct)).set1 (a := ⟨w.heap.size, 2, none⟩) (fun b h => Nat.ne_of_gt h) (.slice an r.nicks.length cn)).set1 (a := ⟨w.heap.size, 3, none⟩) (fun b h => Nat.ne_of_gt h) (.slice as' r.streets.length cs))
      have hs := (((((HR.out.2.2.weaken (S' := fun b => w.heap.size < b) fun b h => h.1).set1 (a := ⟨w.heap.size, 0, none⟩) (fun b h => Nat.ne_of_gt h) (.slice av F.length cv)).set1 (a := ⟨w.heap.size, 1, none⟩) (fun b h => Nat.ne_of_gt h) (.slice at' r.titles.length ct)).set1 (a := ⟨w.heap.size, 2, none⟩) (fun b h => Nat.ne_of_gt h) (.slice an r.nicks.length cn)).set1 (a := ⟨w.heap.size, 3, none⟩) (fun b h => Nat.ne_of_gt h) (.slice as' r.streets.length cs))
      have hw : ∀ b, w.heap.size < b → w.heap.size ≤ b := fun b h => Nat.le_of_lt h
      have hF1 : 1 ≤ F.length := by have := HF.out; omega
      exact bodyPost_row1 rfl rfl hz Tryz.underlying33 rfl (by kernel_rfl) ⟨_, _, _, _, ⟨F, r⟩, rfl, ⟨hv.weaken hw, ht.weaken hw, hn.weaken hw, hs.weaken hw⟩, ⟨HFd.out, hF1, HRD.out⟩, hm⟩
end Go.Proofs.YtfgoiojmbphmnaaGreatDoor
end
section
/- What the laws that deal a schema share: where they stand behind it. -/
set_option linter.unusedSimpArgs false
set_option linter.unusedVariables false
set_option maxRecDepth 100000
namespace Go.Proofs.YtfgoiojmbphmnaaGreatDoor
open Go.RowKit Cal
attribute [local go_sem] toList_mk mk_size str_append
theorem SchemaAt.moved {D : Nat} {w w' : World} {S : Nat → Prop} {vf vt vn vs : Value} {s : SchemaL} (h : SchemaAt w S vf vt vn vs s) (hS : ∀ b, S b → b ≠ D) (m : Moved D w w') : SchemaAt w' S vf vt vn vs s :=
  have mv : ∀ b, b < w.heap.size → S b → w'.heap[b]? = w.heap[b]? ∧ S b := fun b hb hs => ⟨m.grown.block b hb (by have := hS b hs; simp; omega), hs⟩
  ⟨h.1.move m.size mv, h.2.1.move m.size mv, h.2.2.1.move m.size mv, h.2.2.2.move m.size mv⟩
theorem fields_cell {w : World} {S : Nat → Prop} {a : Option Addr} {n cap : Nat} {F : List F2} (h : Vec w S 2 encF (.slice a n cap) F) (h0 : 0 < F.length) : ∃ b off, a = some ⟨b, off, none⟩ ∧ S b ∧ b < w.heap.size ∧ ∀ j, j < F.length → w.cell? ⟨b, off + j * 2 + 1, none⟩ = some (.int .i64 (F.getD j default).2) := by
  obtain ⟨b, off, e, hS, hb, hc⟩ := vec_cell2 h h0
  exact ⟨b, off, e, hS, hb, fun j hj => hc j hj 1 _ rfl⟩
/-- where a law stands that has dealt a schema: the deck in block D, the schema in block y, the kind of a field in cell o of block b -/
structure Drawn (D : Nat) (w : World) (y : Nat) (S : Nat → Prop) (vf vt vn vs : Value) (s : SchemaL) (b o : Nat) (kf : Int) (wr : World) : Prop where
  m : Moved D w wr
  x : wr.heap[y]? = some (.cells #[vf, vt, vn, vs] 33 (0, 0))
  s : SchemaAt wr S vf vt vn vs s
  c : wr.cell? ⟨b, o, none⟩ = some (.int .i64 kf)
  ne : ∀ b, S b → b ≠ D
  yD : y ≠ D
  bD : b ≠ D
theorem Drawn.moved {D : Nat} {w : World} {y : Nat} {S : Nat → Prop} {vf vt vn vs : Value} {s : SchemaL} {b o : Nat} {kf : Int} {wr wd : World} (h : Drawn D w y S vf vt vn vs s b o kf wr) (m : Moved D wr wd) : Drawn D w y S vf vt vn vs s b o kf wd :=
  ⟨h.m.trans m, m.blk h.yD h.x, h.s.moved h.ne m, (World.cell?_of_block (w := wr) (a := ⟨b, o, none⟩) (m.grown.block b (World.block_lt_of_cell? _ ⟨b, o, none⟩ h.c) (by have := h.bD; simp; omega))).trans h.c, h.ne, h.yD, h.bD⟩
theorem Drawn.below {D : Nat} {w : World} {y : Nat} {S : Nat → Prop} {vf vt vn vs : Value} {s : SchemaL} {b o : Nat} {kf : Int} {wr wd : World} (h : Drawn D w y S vf vt vn vs s b o kf wr) (hb : Below wr.heap.size wr wd) : Drawn D w y S vf vt vn vs s b o kf wd :=
  h.moved ((Moved.start h.m.deck).below hb)
theorem Drawn.held {D : Nat} {w : World} {y : Nat} {S : Nat → Prop} {vf vt vn vs : Value} {s : SchemaL} {b o : Nat} {kf : Int} {wr : World} (h : Drawn D w y S vf vt vn vs s b o kf wr) :
    wr.cell? ⟨y, 0, none⟩ = some vf ∧ wr.cell? ⟨y, 1, none⟩ = some vt ∧ wr.cell? ⟨y, 2, none⟩ = some vn ∧ wr.cell? ⟨y, 3, none⟩ = some vs ∧ wr.cell? ⟨b, o, none⟩ = some (.int .i64 kf) := by
  obtain ⟨p0, p1, p2, p3⟩ := cells4 h.x
  exact ⟨p0, p1, p2, p3, h.c⟩
end Go.Proofs.YtfgoiojmbphmnaaGreatDoor
end
section
/- Plain law: grams: the set of a list, ascending; bigrams; how many. -/
set_option linter.unusedSimpArgs false
set_option linter.unusedVariables false
set_option maxRecDepth 100000
namespace Go.Proofs.YtfgoiojmbphmnaaGreatDoor
open Go.RowKit Go.Maps
/-- the elements of a list, ascending -/
def setL (L : List (List UInt8)) : List (List UInt8) := L.eraseDups.mergeSort leB
theorem leB_trans : ∀ a b c : List UInt8, leB a b = true → leB b c = true → leB a c = true := fun a b c h1 h2 => by simp only [leB, decide_eq_true_eq] at *; exact List.le_trans h1 h2
theorem leB_total : ∀ a b : List UInt8, (leB a b || leB b a) = true := fun a b => by simp only [leB, Bool.or_eq_true, decide_eq_true_eq]; exact List.le_total a b
theorem erase_nodup (L : List (List UInt8)) : ∀ n, L.length ≤ n → L.eraseDups.Nodup := by
  intro n
  induction n generalizing L with
  | zero => intro h; have : L = [] := List.length_eq_zero_iff.1 (by omega); subst this; simp
  | succ n ih =>
    intro h
    cases L with
    | nil => simp
    | cons a L =>
      rw [List.eraseDups_cons]
      refine List.nodup_cons.2 ⟨?_, ih _ ?_⟩
      · rw [List.mem_eraseDups]; simp
      · have := List.length_filter_le (fun b => !b == a) L; simp at h ⊢; omega
theorem erase_len (L : List (List UInt8)) : ∀ n, L.length ≤ n → L.eraseDups.length ≤ L.length := by
  intro n
  induction n generalizing L with
  | zero => intro h; have : L = [] := List.length_eq_zero_iff.1 (by omega); subst this; simp
  | succ n ih =>
    intro h
    cases L with
    | nil => simp
    | cons a L =>
      rw [List.eraseDups_cons, List.length_cons, List.length_cons]
      have h1 := List.length_filter_le (fun b => !b == a) L
      have := ih (L.filter fun b => !b == a) (by simp at h ⊢; omega)
      omega
theorem set_mem (L : List (List UInt8)) (x : List UInt8) : x ∈ setL L ↔ x ∈ L := by
  unfold setL; rw [List.mem_mergeSort, List.mem_eraseDups]
theorem set_nodup (L : List (List UInt8)) : (setL L).Nodup := (List.mergeSort_perm _ _).nodup_iff.2 (erase_nodup L _ (Nat.le_refl _))
theorem set_len (L : List (List UInt8)) : (setL L).length ≤ L.length := by
  unfold setL; rw [(List.mergeSort_perm _ _).length_eq]; exact erase_len L _ (Nat.le_refl _)
theorem set_nil (L : List (List UInt8)) : setL L = [] ↔ L = [] := by
  constructor
  · intro h
    cases L with
    | nil => rfl
    | cons a L => have := (set_mem (a :: L) a).2 (by simp); rw [h] at this; simp at this
  · intro h; subst h; simp [setL]
def AscB (L : List (List UInt8)) : Prop := ∀ i, i + 1 < L.length → Op.bytesLess (L.getD i []) (L.getD (i + 1) []) = true
theorem set_asc (L : List (List UInt8)) : AscB (setL L) := by
  intro i hi
  have hs : (setL L).Pairwise fun a b => leB a b = true := List.pairwise_mergeSort leB_trans leB_total _
  have h1 := (List.pairwise_iff_getElem.1 hs) i (i + 1) (by omega) hi (by omega)
  have h2 := (List.pairwise_iff_getElem.1 (set_nodup L)) i (i + 1) (by omega) hi (by omega)
  rw [bytesLess_eq, List.getD, List.getD, List.getElem?_eq_getElem (by omega), List.getElem?_eq_getElem hi]
  simp only [leB, decide_eq_true_eq] at h1
  simp only [Option.getD_some, decide_eq_true_eq]
  rcases List.le_iff_lt_or_eq.1 h1 with h | h
  · exact h
  · exact absurd h h2
/-- whatever has the same elements, each once, is sorted to the set -/
theorem set_of_perm {L ss : List (List UInt8)} (hn : ss.Nodup) (hm : ∀ x, x ∈ ss ↔ x ∈ L) : ss.mergeSort leB = setL L := by
  refine mergeSort_of_perm ((List.perm_ext_iff_of_nodup hn (erase_nodup L _ (Nat.le_refl _))).2 fun x => ?_)
  rw [hm, List.mem_eraseDups]
/-- the bigrams of a text, in order -/
def bigrA : List UInt8 → List (List UInt8)
  | a :: b :: r => [a, b] :: bigrA (b :: r)
  | _ => []
theorem bigr_len : ∀ l : List UInt8, (bigrA l).length = l.length - 1 := by
  intro l
  induction l using bigrA.induct with
  | case1 a b r ih => simp [bigrA, ih]
  | case2 l h =>
    match l, h with
    | [], _ => rfl
    | [a], _ => rfl
    | a :: b :: r, h => exact absurd rfl (h a b r)
theorem bigr_snoc (l : List UInt8) (a b : UInt8) : bigrA (l ++ [a, b]) = bigrA (l ++ [a]) ++ [[a, b]] := by
  induction l with
  | nil => rfl
  | cons c l ih =>
    cases l with
    | nil => rfl
    | cons d l => simp only [List.cons_append, bigrA] at ih ⊢; rw [ih]
def wrapT (t : List UInt8) : List UInt8 := [95] ++ t ++ [95]
/-- the bigrams of all tokens of a text -/
def gramsAll (T : List (List UInt8)) : List (List UInt8) := T.flatMap fun t => bigrA (wrapT t)
def gramsL (l : List UInt8) : List (List UInt8) := setL (gramsAll (toks l))
theorem gramsAll_len (T : List (List UInt8)) : T ≠ [] → (gramsAll T).length = (joinL T).length + 1 := by
  induction T with
  | nil => intro h; exact absurd rfl h
  | cons t T ih =>
    intro _
    have e : (gramsAll (t :: T)).length = t.length + 1 + (gramsAll T).length := by
      simp only [gramsAll, List.flatMap_cons, List.length_append, bigr_len, wrapT]; simp; try omega
    by_cases hT : T = []
    · subst hT; rw [e]; simp [gramsAll, joinL]
    · rw [e, ih hT, join_cons_ne _ _ hT]; simp; omega
/-- a text of 64 bytes at most has 65 grams at most; one that is not empty has some -/
theorem grams_bound {l : List UInt8} (h : l.length ≤ 64) : (gramsL l).length ≤ 65 := by
  have h1 := set_len (gramsAll (toks l))
  have h2 := (toksA_len l []).1
  by_cases hT : toks l = []
  · unfold gramsL; rw [hT]; simp [gramsAll, setL]
  · have h3 := gramsAll_len (toks l) hT
    unfold gramsL; unfold toks at *; simp at h2; omega
theorem grams_some {l : List UInt8} (h : toks l ≠ []) : gramsL l ≠ [] := by
  intro e
  have e2 := (set_nil _).1 e
  have := gramsAll_len (toks l) h
  rw [e2] at this; simp at this
theorem pos_asc (l : List UInt8) : ∀ j, j + l.length ≤ 26 → AscB (posL j l) := by
  intro j hj i hi
  have key : ∀ (l : List UInt8) (j i : Nat), i < l.length → (posL j l).getD i [] = [UInt8.ofNat (97 + (j + i)), l.getD i 0] := by
    intro l
    induction l with
    | nil => intro j i hi; simp at hi
    | cons c l ih =>
      intro j i hi
      cases i with
      | zero => rfl
      | succ i =>
        have := ih (j + 1) i (by simp at hi; omega)
        simp only [posL, List.getD_cons_succ] at this ⊢
        rw [this]; congr 2; congr 1; omega
  rw [posL_len] at hi
  rw [key l j i (by omega), key l j (i + 1) (by omega), bytesLess_eq, decide_eq_true_iff]
  refine List.cons_lt_cons_iff.2 (.inl ?_)
  rw [UInt8.lt_iff_toNat_lt, UInt8.toNat_ofNat', UInt8.toNat_ofNat']; omega
end Go.Proofs.YtfgoiojmbphmnaaGreatDoor
end
section
/-
  DERIVED: THE SHELF's CONTRACTS AT THIS DUMP, IN PLAIN WORDS (tools/lay-plain.mjs out of 'TryzIter.lean', which tools/lay-shelf.mjs wrote): THE SAME DECLARATIONS UNDER THE SAME NAMES: 'import', 'namespace', 'open', 'def', 'theorem' AND NOTHING ELSE: no command of the shelf's: FOR A HAND-IN. Each laying: the table of numbers ('.._ren') and one theorem, a field a fact of the dump's own or the kernel's comparison; each contract: ONE APPLICATION.
-/
namespace Go.Proofs
open Go.Shelf
def Tryz.keys160_ren : Go.Shelf.Ren := ⟨fun | 7 => 160 | 10 => 176 | n => n, fun | 23 => 151 | 26 => 9 | 3 => 152 | 28 => 141 | 0 => 0 | 27 => 127 | 33 => 64 | 4 => 4 | n => n, fun | n => n⟩
theorem Tryz.keys160 : Go.Proofs.SlLaysZ.n7 Tryz.prog Tryz.keys160_ren := {
  mixed := by kernel_rfl
  f7 := ⟨Tryz.f160.name, by decide, Tryz.func160.trans (congrArg some (by kernel_rfl))⟩
  f10 := ⟨Tryz.f176.name, by decide, Tryz.func176.trans (congrArg some (by kernel_rfl))⟩
  t0 := Tryz.underlying0
  a0 := Tryz.isAgg0
  z0 := Tryz.sizeOf0
  v0 := Tryz.zeroValue0
  t4 := Tryz.underlying4
  a4 := Tryz.isAgg4
  z4 := Tryz.sizeOf4
  v4 := Tryz.zeroValue4
  t23 := Tryz.underlying151
  a23 := Tryz.isAgg151
  z23 := Tryz.sizeOf151
  v23 := Tryz.zeroValue151
  t26 := Tryz.underlying9
  a26 := Tryz.isAgg9
  z26 := Tryz.sizeOf9
  v26 := Tryz.zeroValue9
  t27 := Tryz.underlying127
  a27 := Tryz.isAgg127
  z27 := Tryz.sizeOf127
  v27 := Tryz.zeroValue127
  t28 := Tryz.underlying141
  a28 := Tryz.isAgg141
  z28 := Tryz.sizeOf141
  v28 := Tryz.zeroValue141
  t33 := Tryz.underlying64
  a33 := Tryz.isAgg64
  z33 := Tryz.sizeOf64
  v33 := Tryz.zeroValue64 }
def Tryz.sorted159_ren : Go.Shelf.Ren := ⟨fun | 6 => 159 | 8 => 120 | 9 => 175 | 11 => 147 | 13 => 186 | 12 => 185 | 23 => 199 | 24 => 200 | 14 => 190 | 15 => 191 | 16 => 192 | 17 => 193 | 18 => 194 | 19 => 195 | 20 => 196 | 21 => 197 | 22 => 198 | 25 => 202 | 26 => 203 | 27 => 204 | 28 => 205 | 29 => 206 | 30 => 207 | 31 => 210 | n => n, fun | 26 => 9 | 28 => 141 | 24 => 28 | 0 => 0 | 3 => 3 | 37 => 74 | 48 => 172 | 50 => 69 | 4 => 4 | 40 => 185 | 39 => 184 | 45 => 133 | 5 => 5 | 9 => 9 | 51 => 194 | 55 => 197 | 57 => 199 | 58 => 200 | 33 => 64 | n => n, fun | n => n⟩
theorem Tryz.sorted159 : Go.Proofs.SlLaysZ.n6 Tryz.prog Tryz.sorted159_ren := {
  mixed := by kernel_rfl
  f6 := ⟨Tryz.f159.name, by decide, Tryz.func159.trans (congrArg some (by kernel_rfl))⟩
  f8 := ⟨Tryz.f120.name, by decide, Tryz.func120.trans (congrArg some (by kernel_rfl))⟩
  f11 := ⟨Tryz.f147.name, by decide, Tryz.func147.trans (congrArg some (by kernel_rfl))⟩
  t0 := Tryz.underlying0
  a0 := Tryz.isAgg0
  z0 := Tryz.sizeOf0
  v0 := Tryz.zeroValue0
  t24 := Tryz.underlying28
  a24 := Tryz.isAgg28
  z24 := Tryz.sizeOf28
  v24 := Tryz.zeroValue28
  t26 := Tryz.underlying9
  a26 := Tryz.isAgg9
  z26 := Tryz.sizeOf9
  v26 := Tryz.zeroValue9
  t28 := Tryz.underlying141
  a28 := Tryz.isAgg141
  z28 := Tryz.sizeOf141
  v28 := Tryz.zeroValue141
  i26 := by kernel_rfl }
def Tryz.sort175_ren : Go.Shelf.Ren := ⟨fun | 6 => 175 | 8 => 186 | 9 => 185 | 19 => 199 | 20 => 200 | 21 => 190 | 22 => 191 | 23 => 192 | 24 => 193 | 25 => 194 | 26 => 195 | 27 => 196 | 28 => 197 | 29 => 198 | 36 => 202 | 31 => 203 | 32 => 204 | 37 => 205 | 38 => 206 | 39 => 207 | 41 => 210 | n => n, fun | 27 => 28 | 29 => 9 | 3 => 3 | 32 => 74 | 26 => 28 | 0 => 0 | 44 => 172 | 46 => 69 | 4 => 4 | 36 => 185 | 35 => 184 | 41 => 133 | 5 => 5 | 9 => 9 | 53 => 194 | 57 => 197 | 63 => 199 | 64 => 200 | n => n, fun | n => n⟩
theorem Tryz.sort175 : Go.Proofs.SlLaysM.n6 Tryz.prog Tryz.sort175_ren := {
  mixed := by kernel_rfl
  f6 := ⟨Tryz.f175.name, by decide, Tryz.func175.trans (congrArg some (by kernel_rfl))⟩
  f8 := Tryz.func186.trans (congrArg some (by kernel_rfl))
  f9 := ⟨Tryz.f185.name, by decide, Tryz.func185.trans (congrArg some (by kernel_rfl))⟩
  f19 := Tryz.func199.trans (congrArg some (by kernel_rfl))
  f20 := Tryz.func200.trans (congrArg some (by kernel_rfl))
  f21 := ⟨Tryz.f190.name, by decide, Tryz.func190.trans (congrArg some (by kernel_rfl))⟩
  f22 := ⟨Tryz.f191.name, by decide, Tryz.func191.trans (congrArg some (by kernel_rfl))⟩
  f23 := ⟨Tryz.f192.name, by decide, Tryz.func192.trans (congrArg some (by kernel_rfl))⟩
  f24 := ⟨Tryz.f193.name, by decide, Tryz.func193.trans (congrArg some (by kernel_rfl))⟩
  f25 := ⟨Tryz.f194.name, by decide, Tryz.func194.trans (congrArg some (by kernel_rfl))⟩
  f26 := ⟨Tryz.f195.name, by decide, Tryz.func195.trans (congrArg some (by kernel_rfl))⟩
  f27 := ⟨Tryz.f196.name, by decide, Tryz.func196.trans (congrArg some (by kernel_rfl))⟩
  f28 := ⟨Tryz.f197.name, by decide, Tryz.func197.trans (congrArg some (by kernel_rfl))⟩
  f29 := ⟨Tryz.f198.name, by decide, Tryz.func198.trans (congrArg some (by kernel_rfl))⟩
  f31 := Tryz.func203.trans (congrArg some (by kernel_rfl))
  f32 := Tryz.func204.trans (congrArg some (by kernel_rfl))
  f36 := ⟨Tryz.f202.name, by decide, Tryz.func202.trans (congrArg some (by kernel_rfl))⟩
  f37 := ⟨Tryz.f205.name, by decide, Tryz.func205.trans (congrArg some (by kernel_rfl))⟩
  f38 := ⟨Tryz.f206.name, by decide, Tryz.func206.trans (congrArg some (by kernel_rfl))⟩
  f39 := ⟨Tryz.f207.name, by decide, Tryz.func207.trans (congrArg some (by kernel_rfl))⟩
  f41 := ⟨Tryz.f210.name, by decide, Tryz.func210.trans (congrArg some (by kernel_rfl))⟩
  t0 := Tryz.underlying0
  a0 := Tryz.isAgg0
  z0 := Tryz.sizeOf0
  v0 := Tryz.zeroValue0
  t3 := Tryz.underlying3
  a3 := Tryz.isAgg3
  z3 := Tryz.sizeOf3
  v3 := Tryz.zeroValue3
  t4 := Tryz.underlying4
  a4 := Tryz.isAgg4
  z4 := Tryz.sizeOf4
  v4 := Tryz.zeroValue4
  t5 := Tryz.underlying5
  a5 := Tryz.isAgg5
  z5 := Tryz.sizeOf5
  v5 := Tryz.zeroValue5
  t9 := Tryz.underlying9
  a9 := Tryz.isAgg9
  z9 := Tryz.sizeOf9
  v9 := Tryz.zeroValue9
  t26 := Tryz.underlying28
  a26 := Tryz.isAgg28
  z26 := Tryz.sizeOf28
  v26 := Tryz.zeroValue28
  t27 := Tryz.underlying28
  a27 := Tryz.isAgg28
  z27 := Tryz.sizeOf28
  v27 := Tryz.zeroValue28
  t29 := Tryz.underlying9
  a29 := Tryz.isAgg9
  z29 := Tryz.sizeOf9
  v29 := Tryz.zeroValue9
  t32 := Tryz.underlying74
  a32 := Tryz.isAgg74
  z32 := Tryz.sizeOf74
  v32 := Tryz.zeroValue74
  t35 := Tryz.underlying184
  a35 := Tryz.isAgg184
  z35 := Tryz.sizeOf184
  v35 := Tryz.zeroValue184
  t36 := Tryz.underlying185
  a36 := Tryz.isAgg185
  z36 := Tryz.sizeOf185
  v36 := Tryz.zeroValue185
  t41 := Tryz.underlying133
  a41 := Tryz.isAgg133
  z41 := Tryz.sizeOf133
  v41 := Tryz.zeroValue133
  t44 := Tryz.underlying172
  a44 := Tryz.isAgg172
  z44 := Tryz.sizeOf172
  v44 := Tryz.zeroValue172
  t46 := Tryz.underlying69
  a46 := Tryz.isAgg69
  z46 := Tryz.sizeOf69
  v46 := Tryz.zeroValue69
  t53 := Tryz.underlying194
  a53 := Tryz.isAgg194
  z53 := Tryz.sizeOf194
  v53 := Tryz.zeroValue194
  t57 := Tryz.underlying197
  a57 := Tryz.isAgg197
  z57 := Tryz.sizeOf197
  v57 := Tryz.zeroValue197
  t63 := Tryz.underlying199
  a63 := Tryz.isAgg199
  z63 := Tryz.sizeOf199
  v63 := Tryz.zeroValue199
  t64 := Tryz.underlying200
  a64 := Tryz.isAgg200
  z64 := Tryz.sizeOf200
  v64 := Tryz.zeroValue200 }
end Go.Proofs
end
section
/- The contracts of slices.Sorted(maps.Keys(m)) at this program (written by the kit's lay-iter.mjs, the layings apart). -/
namespace Go.Proofs
open Go.RowKit Go.Maps Go.Sort Go.Shelf


theorem Tryz.sorts159 (m : Nat) : AnyZ.SortsIn Tryz.prog Tryz.sorted159_ren Fence.wide m :=
  ⟨fun blk off cap ss W hH hblk hsz => callsIn_wide.2 (AnyM.slices_Sort_string Tryz.sort175 blk off cap ss W hH hblk hsz),
   fun p cap W => callsIn_wide.2 (AnyM.slices_Sort_string_none Tryz.sort175 p cap W)⟩

theorem Tryz.maps_Keys (mb : Option Nat) (W : World) : CallsIn Fence.wide 5 Tryz.prog 160 #[.map mb] W fun e w' => e = .returned (.func (.func 176) #[] #[.pointer (some ⟨W.heap.size, 0, none⟩)]) ∧ w' = W.alloc (.cells #[.map mb] 151) :=
  AnyZ.keys_in Tryz.keys160 Fence.wide 5 trivial rfl mb W

set_option maxHeartbeats 1000000 in
theorem Tryz.slices_Sorted_keys {H : Type} (b nn : Nat) (D0 : DataW H) (R : Value → Option (DataW H × List MemPlace)) (w : World) (hown : w.ownsMap Tryz.prog 9 R b nn D0) (hmax : Maps.size D0 ≤ maxLen) (hbytes : Maps.size D0 * 16 ≤ 140737488355328) :
    CallsIn Fence.wide 5 Tryz.prog 159 #[.func (.func 176) #[] #[.pointer (some ⟨w.heap.size, 0, none⟩)]] (w.alloc (.cells #[.map (some b)] 151)) fun e w' => ∃ (v : Value) (ss : List (List UInt8)), e = .returned v ∧ ss.Perm (strKeys D0) ∧
      w'.ownsRow (w.alloc (.cells #[.map (some b)] 151)).heap.size 9 1 v ss.length ((ss.mergeSort (fun x y => decide (x ≤ y))).map encStr) ∧ (v = .slice none 0 0 ↔ ss = []) ∧ Below (w.alloc (.cells #[.map (some b)] 151)).heap.size (w.alloc (.cells #[.map (some b)] 151)) w' := by
  have hbl := hown.lt
  have hseq : SeqGives Fence.wide 2 Tryz.prog 176 #[.pointer (some ⟨w.heap.size, 0, none⟩)] encStr (fun ss => ss.Perm (strKeys D0)) (Maps.size D0) (w.alloc (.cells #[.map (some b)] 151)) :=
    AnyZ.keys_gives (ρ := Tryz.keys160_ren) { Tryz.keys160 with } Fence.wide _ trivial rfl (by omega) w.heap.size b nn D0 _ (by simp) (by simp) (by
      obtain ⟨es, clock, hb, Ft, hs, hD⟩ := hown
      exact ⟨es, clock, (Below.heap_alloc _ _ b hbl).trans hb, Ft, hs, hD⟩)
  exact AnyZ.sorted_in Tryz.sorted159 Fence.wide 5 trivial trivial trivial trivial rfl (by omega) (Tryz.sorts159 _) (enters_of Tryz.func175 (by kernel_rfl) rfl) 176 #[.pointer (some ⟨w.heap.size, 0, none⟩)] trivial (enters_of Tryz.func176 (by kernel_rfl) rfl) _ _ hmax hbytes _ hseq

set_option maxHeartbeats 1000000 in
theorem Tryz.slices_Sorted_keys_nil (w : World) :
    CallsIn Fence.wide 5 Tryz.prog 159 #[.func (.func 176) #[] #[.pointer (some ⟨w.heap.size, 0, none⟩)]] (w.alloc (.cells #[.map none] 151)) fun e w' => ∃ (v : Value) (ss : List (List UInt8)), e = .returned v ∧ ss = [] ∧
      w'.ownsRow (w.alloc (.cells #[.map none] 151)).heap.size 9 1 v ss.length ((ss.mergeSort (fun x y => decide (x ≤ y))).map encStr) ∧ (v = .slice none 0 0 ↔ ss = []) ∧ Below (w.alloc (.cells #[.map none] 151)).heap.size (w.alloc (.cells #[.map none] 151)) w' := by
  have hseq : SeqGives Fence.wide 2 Tryz.prog 176 #[.pointer (some ⟨w.heap.size, 0, none⟩)] encStr (fun ss : List (List UInt8) => ss = []) 0 (w.alloc (.cells #[.map none] 151)) :=
    AnyZ.keys_gives_nil (ρ := Tryz.keys160_ren) { Tryz.keys160 with } Fence.wide _ trivial rfl w.heap.size _ (by simp) (by simp)
  exact AnyZ.sorted_in Tryz.sorted159 Fence.wide 5 trivial trivial trivial trivial rfl (by omega) (Tryz.sorts159 _) (enters_of Tryz.func175 (by kernel_rfl) rfl) 176 #[.pointer (some ⟨w.heap.size, 0, none⟩)] trivial (enters_of Tryz.func176 (by kernel_rfl) rfl) _ 0 (Nat.zero_le _) (by omega) _ hseq



end Go.Proofs
end
section
/- gram: of, Set: the elements of a list of texts, ascending. -/
set_option linter.unusedSimpArgs false
set_option linter.unusedVariables false
set_option maxRecDepth 100000
namespace Go.Proofs.YtfgoiojmbphmnaaGreatDoor
open Go.RowKit Go.Maps
attribute [local go_sem] toList_mk mk_size
theorem lawS : Keyed Tryz.prog 9 := string_keyed Tryz.underlying9
def unitD : DataW Unit := .agg []
/-- the set of the first texts of a list, as a map's datum -/
def setD (L : List (List UInt8)) : DataW Unit := setOf unitD (L.map Lit.string)
theorem keyLit (L : List (List UInt8)) : ∀ x ∈ L.map Lit.string, WideAt.IsKeyLit x := by
  intro x hx
  obtain ⟨y, _, rfl⟩ := List.mem_map.1 hx
  trivial
theorem setD_snoc (L : List (List UInt8)) (x : List UInt8) : setD (L ++ [x]) = (setD L).put (.string x) unitD := by
  unfold setD; rw [List.map_append, List.map_cons, List.map_nil, setOf_snoc]
set_option maxHeartbeats 2000000 in
theorem of_any (S : Nat → Prop) (v : Value) (L : List (List UInt8)) (w : World) (h : Vec w S 1 encS v L) (hn : L.length ≤ 1000000) (hL : ∀ t ∈ L, t.length ≤ 1000000) :
    Calls Tryz.prog 161 #[v] w fun e w' => e = .returned (.map (some w.heap.size)) ∧ w'.ownsMap Tryz.prog 9 unitElem w.heap.size L.length (setD L) ∧ Below w.heap.size w w' := by
  have hmm := @run_makeMap Tryz.prog
  obtain ⟨a, cap, rfl⟩ := h.slice
  by_cases hz : L = []
  · subst hz
    clear h
    go_enter Tryz.func161, Tryz.ntmps161
    go_wp2
    refine wp_loop_rounds 1 ?_; rw [rounds_succ]
    go_wp2
    go_ret
    exact ⟨rfl, World.ownsMap_made _ _ _ _, (Below.refl _ _).alloc (Nat.le_refl _) _⟩
  · obtain ⟨b, off, rfl, _, hb, hc⟩ := vec_cell1 h (List.length_pos_iff.2 hz)
    have HC := Lib.hid hc; have HLn := Lib.hid hL
    clear hc h hz hL
    go_enter Tryz.func161, Tryz.ntmps161
    go_wp2
    go_loopw [9] (fun i wr => ∃ k : Nat, k ≤ L.length ∧ i = .int .i64 k ∧ wr.ownsMap Tryz.prog 9 unitElem w.heap.size k (setD (L.take k)) ∧ Below w.heap.size w wr) (fun i _ => L.length - (intOf i).toNat)
    case atStart => exact ⟨0, by omega, rfl, World.ownsMap_made _ _ _ _, (Below.refl _ _).alloc (Nat.le_refl _) _⟩
    case round =>
      obtain ⟨k, hk, rfl, ho, hbw⟩ := hrel
      have HO := Lib.hid ho; have HB := Lib.hid hbw
      by_cases hlt : k < L.length
      · have hq : decide ((k : Int) < L.length) = true := by simp; omega
        have c1 : wr.cell? ⟨b, off + k, none⟩ = some (strV (L.getD k [])) := (hbw.cell (p := ⟨b, off + k, none⟩) hb).trans (HC.out k hlt)
        have hx1 : (L.getD k []).length ≤ 1000000 := by rw [List.getD, List.getElem?_eq_getElem hlt]; exact HLn.out _ (List.getElem_mem hlt)
        have htk := take_snocA L k hlt
        rw [show (default : List UInt8) = [] from rfl] at htk
        obtain ⟨x, hx⟩ : ∃ x, L.getD k [] = x := ⟨_, rfl⟩
        rw [hx] at c1 hx1 htk
        have HT := Lib.hid htk
        have hkey := Lib.hid (WideMaps.keyOf_string_mk (P := Tryz.prog) (k := 9) (s := ⟨x.toArray⟩) Tryz.underlying9 (by rw [mk_size]; unfold maxLen; omega))
        clear hx htk hbw ho
        go_wp2_with (at_mapUpdate; refine wpList_mapUpdate_own _ rfl _ _ _ 151 rfl 9 152 lawS Tryz.underlying151 (unitElem (H := Unit)) w.heap.size k _ rfl HO.out (by unfold maxLen; omega) _ _ _ rfl rfl hkey.out _ [] unitElem_mk ?_; intro w1 hown1 hgrow1)
        go_roundw
        case rel => exact ⟨k + 1, by omega, by go_num, by rw [HT.out, setD_snoc]; exact hown1, HB.out.grown hgrow1 HB.out.size (fun j hj => by cases hj; exact Nat.le_refl _)⟩
        case measure => simp [intOf]; omega
      · have hq : decide ((k : Int) < L.length) = false := by simp; omega
        go_wp2_with fail
        go_ret
        exact ⟨rfl, by rw [List.take_of_length_le (by omega)] at HO; exact HO.out.mono hk, HB.out⟩
theorem keyStr {l : Lit} (h : KeysOf Tryz.prog 9 l) : ∃ x, l = .string x := by
  obtain ⟨v, hv⟩ := h
  obtain ⟨x, _, h2, _⟩ := keyOf_str Tryz.underlying9 hv
  exact ⟨x, h2⟩
theorem setD_perm {w : World} {b n : Nat} {L : List (List UInt8)} (h : w.ownsMap Tryz.prog 9 unitElem b n (setD L)) : L.eraseDups.Perm (strKeys (setD L)) := by
  have ht := tidy_setOf unitD (L.map Lit.string) (keyLit L)
  obtain ⟨es, e1, hk⟩ := h.keysOf
  obtain ⟨es', e2, hp⟩ := ht
  have e3 : setD L = .map es' := e2
  have hes : es = es' := by rw [e1] at e3; cases e3; rfl
  subst hes
  rw [e1]
  refine perm_strKeys hp (fun p hp' => keyStr (hk p hp')) (erase_nodup L _ (Nat.le_refl _)) fun x => ?_
  rw [← e1, List.mem_eraseDups]
  unfold setD
  rw [has_setOf _ _ _ (keyLit L), List.any_map, List.any_eq_true]
  constructor
  · intro hx; exact ⟨x, hx, by simp [Lit.sameKey]⟩
  · rintro ⟨y, hy, he⟩
    have := WideAt.sameKey_eq (show (Lit.string y).sameKey (Lit.string x) = true from he)
    cases this; exact hy
theorem flat_enc (L : List (List UInt8)) : L.map encStr = L.flatMap encS := by
  induction L with
  | nil => rfl
  | cons a L ih => rw [List.map_cons, List.flatMap_cons, ih]; rfl
set_option maxHeartbeats 1000000 in
/-- the elements of a list, ascending, in a new slice -/
theorem set_any (S : Nat → Prop) (v : Value) (L : List (List UInt8)) (w : World) (h : Vec w S 1 encS v L) (hn : L.length ≤ 1000000) (hL : ∀ t ∈ L, t.length ≤ 1000000) :
    Calls Tryz.prog 137 #[v] w fun e w' => ∃ v', e = .returned v' ∧ OwnAt w v' (setL L) w' := by
  have HV := Lib.hid h; have HLn := Lib.hid hL
  clear h hL
  go_enter Tryz.func137, Tryz.ntmps137
  go_wp2_with fail
  refine (of_any S v L _ HV.out hn HLn.out).mono ?_
  rintro e w1 ⟨rfl, ho, hb⟩
  have HO := Lib.hid ho; have HB := Lib.hid hb
  clear ho hb
  go_wp2_with fail
  refine ((callsIn_wide (n := 5)).1 (Tryz.maps_Keys _ _)).mono ?_
  rintro e w' ⟨rfl, rfl⟩
  go_wp2_with fail
  refine ((callsIn_wide (n := 5)).1 (Tryz.slices_Sorted_keys w.heap.size L.length (setD L) unitElem w1 HO.out (by have := HO.out.size_le; unfold maxLen; omega) (by have := HO.out.size_le; omega))).mono ?_
  rintro e w2 ⟨v', ss, rfl, hp, hrow, _, hb2⟩
  have e1 : ss.mergeSort leB = setL L := mergeSort_of_perm (hp.trans (setD_perm HO.out).symm)
  have e2 : ss.length = (setL L).length := by rw [← e1, (List.mergeSort_perm _ _).length_eq]
  have hrow2 : w2.ownsRow (w1.alloc (.cells #[.map (some w.heap.size)] 151)).heap.size 9 1 v' (setL L).length ((setL L).flatMap encS) := by
    rw [← flat_enc, ← e2, ← e1]; exact hrow
  have HR := Lib.hid hrow2
  have HB2 := Lib.hid ((HB.out.alloc HB.out.size (.cells #[.map (some w.heap.size)] 151)).trans (hb2.mono (by have := HB.out.size; simp; omega)))
  clear e1 e2 hrow hrow2 hp hb2
  have hbz := HB.out.size
  go_wp2_with fail
  go_ret
  exact ⟨v', rfl, ownsRow_base_a HR.out (by simp; omega), HB2.out⟩
end Go.Proofs.YtfgoiojmbphmnaaGreatDoor
end
section
/- Plain law: grams of a normal form: ascending, not more than 80, none only of the empty text. -/
set_option linter.unusedSimpArgs false
set_option linter.unusedVariables false
set_option maxRecDepth 100000
namespace Go.Proofs.YtfgoiojmbphmnaaGreatDoor
open Go.RowKit Cal
theorem nameN_toks {r : RulesL} {l v : List UInt8} (h : nameN r l = (v, 0)) : ∃ M : List (List UInt8), (∀ t ∈ M, okT t) ∧ v = joinL M ∧ M.length ≤ 6 ∧ v.length ≤ 64 := by
  unfold nameN at h
  by_cases hc : checkR r = 0
  · rw [if_pos hc] at h
    by_cases hv : foldV l = true
    · rw [if_pos hv] at h
      obtain ⟨h1, _⟩ := nameToks_same hc (toks (foldL l))
      generalize nameToks r (toks (foldL l)) = M at h h1
      by_cases hb : 6 < M.length ∨ 64 < (joinL M).length
      · rw [if_pos hb] at h; simp at h
      · rw [if_neg hb] at h
        obtain rfl : joinL M = v := congrArg Prod.fst h
        exact ⟨M, h1, rfl, by omega, by omega⟩
    · rw [if_neg hv] at h; simp at h
  · rw [if_neg hc] at h
    exact absurd (congrArg Prod.snd h) hc
theorem addrN_toks {r : RulesL} {l v : List UInt8} (h : addrN r l = (v, 0)) : ∃ M : List (List UInt8), (∀ t ∈ M, okT t) ∧ v = joinL M ∧ M.length ≤ 6 ∧ v.length ≤ 64 := by
  unfold addrN at h
  by_cases hc : checkR r = 0
  · rw [if_pos hc] at h
    obtain ⟨_, _, _, h3, _⟩ := check_zero hc
    by_cases hv : foldV l = true
    · rw [if_pos hv] at h
      have hok := toks_ok l
      generalize toks (foldL l) = T at h hok
      have hM : ∀ t ∈ order2 (T.map (addrTok r)), okT t := by
        intro t ht
        obtain ⟨x, hx, rfl⟩ := List.mem_map.1 (order2_mem ht)
        exact (addrTok_same h3 (hok x hx)).1
      have hlen : (order2 (T.map (addrTok r))).length = T.length := by rw [order2_length, List.length_map]
      by_cases hb : 6 < T.length ∨ 64 < (joinL (order2 (T.map (addrTok r)))).length
      · rw [if_pos hb] at h; simp at h
      · rw [if_neg hb] at h
        obtain rfl : joinL (order2 (T.map (addrTok r))) = v := congrArg Prod.fst h
        exact ⟨_, hM, rfl, by omega, by omega⟩
    · rw [if_neg hv] at h; simp at h
  · rw [if_neg hc] at h
    exact absurd (congrArg Prod.snd h) hc
/-- the grams of a normal form of a kind -/
def gramsK (k : Int) (l : List UInt8) : List (List UInt8) := if l = [] then [] else if k = 2 then posL 0 l else if k = 3 then [61 :: l] else gramsL l
theorem asc_one (x : List UInt8) : AscB [x] := by intro i hi; simp at hi
theorem asc_nil : AscB [] := by intro i hi; simp at hi
def GramsOk (L : List (List UInt8)) (v : List UInt8) : Prop := AscB L ∧ L.length ≤ 80 ∧ (L = [] ↔ v = [])
theorem toks_gramsOk {v : List UInt8} {M : List (List UInt8)} (h0 : v ≠ []) (h1 : ∀ t ∈ M, okT t) (h2 : v = joinL M) (h3 : v.length ≤ 64) : GramsOk (gramsL v) v := by
  have ht : toks v = M := by rw [h2]; exact toks_join M h1
  have hM : M ≠ [] := by intro e; subst e; exact h0 h2
  refine ⟨set_asc _, by have := grams_bound h3; omega, ⟨fun e => absurd e (grams_some (by rw [ht]; exact hM)), fun e => absurd e h0⟩⟩
theorem dayN_len {l v : List UInt8} (h : dayN l = (v, 0)) : v.length = 8 := by
  have := dayN_read h
  unfold readB at this
  cases hd : decide (v.length = 8)
  · rw [hd] at this; cases this
  · simpa using hd
theorem gramsK_law {s : SchemaL} {f kf : Int} {l v : List UInt8} (h : valueN s f l = (v, 0)) (hk : findN s f = (kf, 0)) : GramsOk (gramsK kf v) v := by
  by_cases hv : v = []
  · subst hv
    exact ⟨by unfold gramsK; rw [if_pos rfl]; exact asc_nil, by unfold gramsK; rw [if_pos rfl]; simp, by unfold gramsK; simp⟩
  · have hkk := findN_kind (s := s) (f := f) (by rw [hk])
    unfold valueN at h
    rw [hk] at h hkk
    dsimp only at h hkk
    rw [if_pos rfl] at h
    by_cases hl : l = []
    · rw [if_pos hl] at h; exact absurd (congrArg Prod.fst h).symm hv
    · rw [if_neg hl] at h
      unfold gramsK
      rw [if_neg hv]
      rcases hkk with rfl | rfl | rfl | rfl
      · rw [if_neg (by omega), if_neg (by omega)]
        obtain ⟨M, h1, h2, _, h3⟩ := nameN_toks (show nameN s.rules l = (v, 0) from h)
        exact toks_gramsOk hv h1 h2 h3
      · rw [if_pos rfl]
        have h8 := dayN_len (show dayN l = (v, 0) from h)
        exact ⟨pos_asc v 0 (by omega), by rw [posL_len]; omega, ⟨fun e => by have := congrArg List.length e; rw [posL_len] at this; simp at this; exact this, fun e => absurd e hv⟩⟩
      · rw [if_neg (by omega), if_pos rfl]
        exact ⟨asc_one _, by simp, by simp [hv]⟩
      · rw [if_neg (by omega), if_neg (by omega)]
        obtain ⟨M, h1, h2, _, h3⟩ := addrN_toks (show addrN s.rules l = (v, 0) from h)
        exact toks_gramsOk hv h1 h2 h3
end Go.Proofs.YtfgoiojmbphmnaaGreatDoor
end
section
/- gram.Grams. -/
set_option linter.unusedSimpArgs false
set_option linter.unusedVariables false
set_option maxRecDepth 100000
namespace Go.Proofs.YtfgoiojmbphmnaaGreatDoor
open Go.RowKit
attribute [local go_sem] toList_mk mk_size bytes_append
theorem wrapT_cons (t : List UInt8) : wrapT t = 95 :: (t ++ [95]) := rfl
theorem bigr_getD (l : List UInt8) : ∀ j, j + 1 < l.length → (bigrA l).getD j [] = [l.getD j 0, l.getD (j + 1) 0] := by
  induction l using bigrA.induct with
  | case1 a b r ih =>
    intro j hj
    cases j with
    | zero => rfl
    | succ j =>
      have := ih j (by simp at hj ⊢; omega)
      simp only [bigrA, List.getD_cons_succ] at this ⊢
      exact this
  | case2 l h =>
    intro j hj
    match l, h with
    | [], _ => simp at hj
    | [a], _ => simp at hj
    | a :: b :: r, h => exact absurd rfl (h a b r)
theorem take_two (l : List UInt8) (j : Nat) (h : j + 1 < l.length) : ((⟨l.toArray⟩ : ByteArray).extract j (j + 2)) = ⟨[l.getD j 0, l.getD (j + 1) 0].toArray⟩ := by
  have := ext_mk l j (j + 2) (by omega)
  unfold mkS at this
  rw [this]
  congr 2
  rw [List.drop_take, List.drop_eq_getElem_cons (by omega), List.drop_eq_getElem_cons (by omega), List.getD, List.getD, List.getElem?_eq_getElem (by omega), List.getElem?_eq_getElem h]
  rw [show j + 2 - j = 2 by omega]; rfl
theorem gramsAll_take (T : List (List UInt8)) (k : Nat) (h : k < T.length) : gramsAll (T.take (k + 1)) = gramsAll (T.take k) ++ bigrA (wrapT (T.getD k [])) := by
  have := take_snocA T k h
  rw [show (default : List UInt8) = [] from rfl] at this
  rw [this]; simp [gramsAll]
theorem gramsAll_small (T : List (List UInt8)) (h : ∀ t ∈ T, t.length ≤ 64) : (gramsAll T).length ≤ 65 * T.length := by
  induction T with
  | nil => simp [gramsAll]
  | cons t T ih =>
    have h1 := ih fun x hx => h x (List.mem_cons_of_mem _ hx)
    have h2 := h t List.mem_cons_self
    have e : (gramsAll (t :: T)).length = t.length + 1 + (gramsAll T).length := by
      simp only [gramsAll, List.flatMap_cons, List.length_append, bigr_len, wrapT]; simp; try omega
    rw [e, List.length_cons]; omega
theorem toks_len (l : List UInt8) (h : l.length ≤ 64) : (toks l).length ≤ 65 ∧ ∀ t ∈ toks l, t.length ≤ 64 := by
  have h1 := toksA_len l []
  unfold toks
  refine ⟨by simp at h1; omega, fun t ht => ?_⟩
  have : ∀ (L : List (List UInt8)), t ∈ L → t.length ≤ (joinL L).length := by
    intro L
    induction L with
    | nil => intro h; simp at h
    | cons a L ih =>
      intro h
      by_cases hL : L = []
      · subst hL; simp at h; subst h; exact Nat.le_refl _
      · rw [join_cons_ne _ _ hL]
        rcases List.mem_cons.1 h with rfl | h
        · simp
        · have := ih h; simp; omega
  have := this _ ht
  simp at h1; omega
set_option maxHeartbeats 4000000 in
theorem ggrams_any (s : ByteArray) (w : World) (hs : s.size ≤ 64) (ha : ascii s.data.toList) :
    Calls Tryz.prog 105 #[.string s] w fun e w' => ∃ v, e = .returned v ∧ Vec w' Any1 1 encS v (gramsL s.data.toList) ∧ Below w.heap.size w w' := by
  have hl : s.data.toList.length = s.size := by simp
  obtain ⟨hT1, hT2⟩ := toks_len s.data.toList (by omega)
  have hc := tokens_any s.data.toList w ha (by omega)
  rw [show strV s.data.toList = .string s by simp] at hc
  obtain ⟨T, hT⟩ : ∃ T, toks s.data.toList = T := ⟨_, rfl⟩
  have hG : gramsL s.data.toList = setL (gramsAll T) := by unfold gramsL; rw [hT]
  rw [hT] at hT1 hT2 hc
  rw [hG]
  have HC := Lib.hid hc; have HT2 := Lib.hid hT2
  have d1 : decide ((64 : Int) < s.size) = false := by simp; omega
  clear hl hc hT hG hT2 ha
  go_enter Tryz.func105, Tryz.ntmps105
  go_wp2_with fail
  refine HC.out.mono ?_
  rintro e w1 ⟨A, rfl, hA, ho, hb1⟩
  have HR := Lib.hid (own_block ho).2
  have zA := lt_of_blk HR.out
  have HB1 := Lib.hid hb1
  clear ho hb1 HC d1
  go_wp2_with fail
  go_loopw [3, 13] (fun v i wr => ∃ k : Nat, k ≤ T.length ∧ i = .int .i64 k ∧ OwnAt w1 v (gramsAll (T.take k)) wr) (fun _ i _ => T.length - (intOf i).toNat)
  case atStart => exact ⟨0, by omega, rfl, OwnAt.start w1⟩
  case round =>
    obtain ⟨k, hk, rfl, ho⟩ := hrel
    have HO := Lib.hid ho; clear ho
    by_cases hlt : k < T.length
    · have hq : decide ((k : Int) < T.length) = true := by simp; omega
      have hgl := gramsAll_small (T.take k) (fun t ht => HT2.out t (List.mem_of_mem_take ht))
      have htl := List.length_take_le k T
      have hx1 : (T.getD k []).length ≤ 64 := by rw [List.getD, List.getElem?_eq_getElem hlt]; exact HT2.out _ (List.getElem_mem hlt)
      have c1 := (show RowB _ A T from blk_below HO.out.2 zA HR.out).cell k hlt
      have HG := Lib.hid (gramsAll_take T k hlt)
      obtain ⟨t, ht⟩ : ∃ t, T.getD k [] = t := ⟨_, rfl⟩
      rw [ht] at c1 hx1 HG
      clear ht
      obtain ⟨wo, rfl⟩ : ∃ wo : World, wo = wr := ⟨_, rfl⟩
      go_wp2_with fail
      go_loopw [3, 23] (fun v i wr => ∃ j : Nat, j ≤ 1 + t.length ∧ i = .int .i64 j ∧ OwnAt w1 v (gramsAll (T.take k) ++ (bigrA (wrapT t)).take j) wr) (fun _ i _ => 1 + t.length - (intOf i).toNat)
      case atStart => exact ⟨0, by omega, rfl, by simpa using HO.out⟩
      case round =>
        obtain ⟨j, hj, rfl, ho2⟩ := hrel
        have HO2 := Lib.hid ho2; clear ho2
        have hwl : (wrapT t).length = t.length + 2 := by simp [wrapT]
        by_cases hlj : j < 1 + t.length
        · have hq2 : decide ((j : Int) < 1 + t.length) = true := by simp; omega
          have hext := take_two (wrapT t) j (by omega)
          have hbg := bigr_getD (wrapT t) j (by omega)
          have hbl : j < (bigrA (wrapT t)).length := by rw [bigr_len]; omega
          have htk := take_snocA (bigrA (wrapT t)) j hbl
          rw [show (default : List UInt8) = [] from rfl, hbg] at htk
          obtain ⟨z, hz⟩ : ∃ z, [(wrapT t).getD j 0, (wrapT t).getD (j + 1) 0] = z := ⟨_, rfl⟩
          rw [hz] at hext htk
          rw [wrapT_cons] at hext
          have HTK := Lib.hid htk
          have hln : (gramsAll (T.take k) ++ (bigrA (wrapT t)).take j).length < 1099511627776 := by
            have := List.length_take_le j (bigrA (wrapT t))
            simp only [List.length_append]; omega
          have hone : ∀ u ∈ (#[strV z] : Array Value).toList, u.oneCell' = true := by intro u hu; simp at hu; subst hu; rfl
          clear hbg hbl htk hz hwl
          go_wp2_with (at_builtin; refine wpList_append_new rfl _ _ 28 rfl w1.heap.size 9 1 16 (.string ⟨#[]⟩) Tryz.underlying28 infoS rfl (by decide) (by decide) _ _ _ rfl HO2.out.1 #[strV z] 1 rfl rfl hone hln HO2.out.2.size ?_; intro v2 w8 ho8 hw8)
          go_roundw
          case rel => exact ⟨j + 1, by omega, by go_num, by rw [HTK.out, ← List.append_assoc]; exact ⟨by rw [List.length_append, flat_snoc]; exact ho8, hw8 _ HO2.out.2⟩⟩
          case measure => simp [intOf]; omega
        · have hq2 : decide ((j : Int) < 1 + t.length) = false := by simp; omega
          rw [show (bigrA (wrapT t)).take j = bigrA (wrapT t) from List.take_of_length_le (by rw [bigr_len]; omega), ← HG.out] at HO2
          go_wp2_with fail
          go_roundw
          case rel => exact ⟨k + 1, by omega, by go_num, HO2.out⟩
          case measure => simp [intOf]; omega
    · have hq : decide ((k : Int) < T.length) = false := by simp; omega
      rw [List.take_of_length_le (by omega)] at HO
      have hgl := gramsAll_small T HT2.out
      have HV := Lib.hid (Vec.owns (S := Any1) (k := 1) (enc := encS) (fun _ => rfl) HO.out.1 (fun _ _ _ => trivial))
      have hsm : ∀ x ∈ gramsAll T, x.length ≤ 1000000 := by
        intro x hx
        obtain ⟨t, ht, hx⟩ := List.mem_flatMap.1 hx
        have key : ∀ l : List UInt8, ∀ x ∈ bigrA l, x.length = 2 := by
          intro l
          induction l using bigrA.induct with
          | case1 a b r ih => intro x hx; simp only [bigrA] at hx; rcases List.mem_cons.1 hx with rfl | hx; · rfl
                              exact ih x hx
          | case2 l h =>
            intro x hx
            match l, h with
            | [], _ => simp [bigrA] at hx
            | [a], _ => simp [bigrA] at hx
            | a :: b :: r, h => exact absurd rfl (h a b r)
        have := key _ x hx; omega
      have HSm := Lib.hid hsm; clear hsm
      go_wp2_with fail
      refine (set_any Any1 _ (gramsAll T) _ HV.out (by omega) HSm.out).mono ?_
      rintro e w3 ⟨v3, rfl, ho3⟩
      have HV3 := Lib.hid (Vec.owns (S := Any1) (k := 1) (enc := encS) (fun _ => rfl) ho3.1 (fun _ _ _ => trivial))
      have HB3 := Lib.hid ((HB1.out.trans (HO.out.2.mono HB1.out.size)).trans (ho3.2.mono (Nat.le_trans HB1.out.size HO.out.2.size)))
      clear ho3
      go_wp2_with fail
      go_ret
      exact ⟨v3, rfl, HV3.out, HB3.out⟩
end Go.Proofs.YtfgoiojmbphmnaaGreatDoor
end
section
/- schema.Grams: what it returns, of every input. -/
set_option linter.unusedSimpArgs false
set_option linter.unusedVariables false
set_option maxRecDepth 100000
namespace Go.Proofs.YtfgoiojmbphmnaaGreatDoor
open Go.RowKit Cal
attribute [local go_sem] toList_mk mk_size bytes_append
set_option maxHeartbeats 400000 in
theorem kind4_any (s : ByteArray) (w : World) (hs : s.size ≤ 1000) :
    Calls Tryz.prog 114 #[.string s] w fun e w' => ∃ v, e = .returned v ∧ Vec w' Any1 1 encS v [61 :: s.data.toList] ∧ Below w.heap.size w w' := by
  have hs2 : (⟨#[61]⟩ : ByteArray) ++ s = ⟨(61 :: s.data.toList).toArray⟩ := by
    apply ByteArray.ext; simp
  go_enter Tryz.func114, Tryz.ntmps114
  go_wp2
  go_ret
  exact ⟨_, rfl, vec_block (L := [61 :: s.data.toList]) (blk_new rfl) 1 rfl, (Below.refl _ _).alloc (Nat.le_refl _) _⟩
/-- the grams of a value, and the error -/
def gramsN (s : SchemaL) (f : Int) (l : List UInt8) : List (List UInt8) × Int := if (findN s f).2 = 0 then (if normalB s f l = true then (gramsK (findN s f).1 l, 0) else ([], 7)) else ([], (findN s f).2)
def GramsIs (p : List (List UInt8) × Int) (w : World) (e : Ending) (w' : World) : Prop := ∃ v, e = .returned (.tuple #[v, .int .i64 p.2]) ∧ Vec w' Any1 1 encS v p.1 ∧ Below w.heap.size w w'
theorem own_small {p : List UInt8 × Int} {l : List UInt8} (h : isOwn p l = true) (hf : FormOk p) : l.length ≤ 64 ∧ p = (l, 0) := by
  obtain ⟨a, b⟩ := p
  unfold isOwn at h
  cases hb : (b == (0 : Int))
  · rw [hb] at h; cases h
  · rw [hb] at h
    simp only [cond_true, beq_iff_eq] at h hb
    subst h hb
    exact ⟨hf.1, rfl⟩
theorem join_ascii {M : List (List UInt8)} (h : ∀ t ∈ M, okT t) : ascii (joinL M) := fun b hb => okB_lt (join_ok M h b hb)
/-- what a value in normal form is like -/
theorem own_facts {k : Int} {r : RulesL} {l : List UInt8} (h : ownK k r l = true) (hk : k = 1 ∨ k = 2 ∨ k = 3 ∨ k = 4) : l.length ≤ 64 ∧ (k = 1 ∨ k = 4 → ascii l) ∧ (k = 2 → l.length = 8) := by
  unfold ownK at h
  rcases hk with rfl | rfl | rfl | rfl
  · obtain ⟨h1, h2⟩ := own_small (show isOwn (nameN r l) l = true from h) (nameN_form r l)
    obtain ⟨M, g1, g2, _⟩ := nameN_toks h2
    exact ⟨h1, fun _ => by rw [g2]; exact join_ascii g1, fun e => by omega⟩
  · have hr : readB l = true := h
    unfold readB at hr
    cases hd : decide (l.length = 8)
    · rw [hd] at hr; cases hr
    · have : l.length = 8 := by simpa using hd
      exact ⟨by omega, fun e => by omega, fun _ => this⟩
  · obtain ⟨h1, h2⟩ := own_small (show isOwn (codeN l) l = true from h) (codeN_form l)
    exact ⟨h1, fun e => by omega, fun e => by omega⟩
  · obtain ⟨h1, h2⟩ := own_small (show isOwn (addrN r l) l = true from h) (addrN_form r l)
    obtain ⟨M, g1, g2, _⟩ := addrN_toks h2
    exact ⟨h1, fun _ => by rw [g2]; exact join_ascii g1, fun e => by omega⟩
set_option maxHeartbeats 8000000 in
theorem grams_s (S : Nat → Prop) (vf vt vn vs : Value) (s : SchemaL) (f : Int) (x : ByteArray) (w : World) (h : SchemaAt w S vf vt vn vs s) (hx : x.size ≤ 9223372036854775000) :
    Calls Tryz.prog 18 #[.agg #[vf, vt, vn, vs], .int .i64 f, .string x] w (GramsIs (gramsN s f x.data.toList) w) := by
  have HS := Lib.hid h.any
  have HL := Lib.hid (Lib.toList_data x)
  clear h
  have K := find_s Any1 vf vt vn vs s f (w.alloc (.cells #[vf, vt, vn, vs] 33)) (HS.out.below ((Below.refl _ _).alloc (Nat.le_refl _) _))
  have hkk := findN_kind (s := s) (f := f)
  have hval : gramsN s f x.data.toList = if (findN s f).2 = 0 then (if normalB s f x.data.toList = true then (gramsK (findN s f).1 x.data.toList, 0) else ([], 7)) else ([], (findN s f).2) := rfl
  have hown : (findN s f).2 = 0 → x.data.toList ≠ [] → normalB s f x.data.toList = ownK (findN s f).1 s.rules x.data.toList := fun h0 h1 => by unfold normalB; rw [if_pos h0, if_neg h1]
  obtain ⟨⟨kd, er⟩, hp⟩ : ∃ p, findN s f = p := ⟨_, rfl⟩
  rw [hp] at K hkk hval hown
  dsimp only at hkk hval hown
  change Calls _ _ _ _ fun e w' => e = .returned (.tuple #[.agg (kindAt kd), .int .i64 er]) ∧ _ at K
  have HK := Lib.hid K
  have HVal := Lib.hid hval; have HOwn := Lib.hid hown
  obtain ⟨ko, ks⟩ := kindAt_one kd
  have KO := Lib.hid ko; have KS := Lib.hid ks
  clear K hp hval ko ks hown
  by_cases he : er = 0
  · subst he
    have hkd := hkk rfl
    clear hkk
    cases hno : normalB s f x.data.toList
    · have HE := Lib.hid (show gramsN s f x.data.toList = ([], 7) by rw [HVal.out, if_pos rfl, hno, if_neg (by simp)])
      have HN := Lib.hid hno
      clear hno hkd
      rw [HE.out]
      go_enter Tryz.func18, Tryz.ntmps18
      go_wp2_with fail
      refine HK.out.mono ?_
      rintro e w1 ⟨rfl, hb1⟩
      have HB1 := Lib.hid (((Below.refl w.heap.size w).alloc (Nat.le_refl _) (.cells #[vf, vt, vn, vs] 33)).trans (hb1.mono (by simp)))
      have HX1 := Lib.hid (blk_below (b := w.heap.size) (o := .cells #[vf, vt, vn, vs] 33 (0, 0)) hb1 (by simp) (blk_new rfl))
      clear hb1 HK
      have z0 := lt_of_blk HX1.out
      obtain ⟨p0, p1, p2, p3⟩ := cells4 HX1.out
      go_wp2_with (refine wpList_store_row rfl 79 (.tmp 8) (.tmp 14) rfl w1.heap.size (kindAt kd) rfl rfl 79 kind0 (heap_alloc_new w1 _) (by rw [KS.out]; kernel_rfl) (by rw [KS.out]; rfl) KO.out ?_; rw [World.setRow_alloc_new])
      have HB2 := Lib.hid (HB1.out.alloc HB1.out.size (.cells (kindAt kd) 79))
      refine (normal_s Any1 vf vt vn vs s f x _ (HS.out.below HB2.out) hx).mono ?_
      rw [HN.out]
      rintro e w3 ⟨rfl, hb3⟩
      have HB3 := Lib.hid (HB2.out.trans (hb3.mono HB2.out.size))
      clear hb3 p0 p1 p2 p3
      go_wp2_with fail
      go_ret2
      exact ⟨_, rfl, Vec.nil _ _ _ _, HB3.out⟩
    · by_cases hx0 : x.data.toList = []
      · have e1 : x.toList = [] := by rw [HL.out, hx0]
        have HE := Lib.hid (show gramsN s f x.data.toList = ([], 0) by rw [HVal.out, if_pos rfl, hno, if_pos rfl]; unfold gramsK; rw [if_pos hx0])
        have HN := Lib.hid hno
        clear hno hkd hx0
        rw [HE.out]
        go_enter Tryz.func18, Tryz.ntmps18
        go_wp2_with fail
        refine HK.out.mono ?_
        rintro e w1 ⟨rfl, hb1⟩
        have HB1 := Lib.hid (((Below.refl w.heap.size w).alloc (Nat.le_refl _) (.cells #[vf, vt, vn, vs] 33)).trans (hb1.mono (by simp)))
        have HX1 := Lib.hid (blk_below (b := w.heap.size) (o := .cells #[vf, vt, vn, vs] 33 (0, 0)) hb1 (by simp) (blk_new rfl))
        clear hb1 HK
        have z0 := lt_of_blk HX1.out
        obtain ⟨p0, p1, p2, p3⟩ := cells4 HX1.out
        go_wp2_with (refine wpList_store_row rfl 79 (.tmp 8) (.tmp 14) rfl w1.heap.size (kindAt kd) rfl rfl 79 kind0 (heap_alloc_new w1 _) (by rw [KS.out]; kernel_rfl) (by rw [KS.out]; rfl) KO.out ?_; rw [World.setRow_alloc_new])
        have HB2 := Lib.hid (HB1.out.alloc HB1.out.size (.cells (kindAt kd) 79))
        refine (normal_s Any1 vf vt vn vs s f x _ (HS.out.below HB2.out) hx).mono ?_
        rw [HN.out]
        rintro e w3 ⟨rfl, hb3⟩
        have HB3 := Lib.hid (HB2.out.trans (hb3.mono HB2.out.size))
        clear hb3 p0 p1 p2 p3
        go_wp2_with fail
        go_ret2
        exact ⟨_, rfl, Vec.nil _ _ _ _, HB3.out⟩
      · have e1 : (x.toList == []) = false := by rw [HL.out]; simpa using hx0
        have e2 : x.toList.isEmpty = false := by rw [HL.out]; simpa using hx0
        have ho := HOwn.out rfl hx0
        rw [hno] at ho
        obtain ⟨g1, g2, g3⟩ := own_facts ho.symm hkd
        have hl : x.data.toList.length = x.size := by simp
        rw [hl] at g1 g3
        have HG2 := Lib.hid g2
        have HE := Lib.hid (show gramsN s f x.data.toList = (gramsK kd x.data.toList, 0) by rw [HVal.out, if_pos rfl, hno, if_pos rfl])
        have HGK := Lib.hid (show gramsK kd x.data.toList = if kd = 2 then posL 0 x.data.toList else if kd = 3 then [61 :: x.data.toList] else gramsL x.data.toList by unfold gramsK; rw [if_neg hx0])
        have HN := Lib.hid hno
        clear hno hx0 ho hl g2
        rw [HE.out, HGK.out]
        rcases hkd with rfl | rfl | rfl | rfl
        · rw [if_neg (by omega), if_neg (by omega)]
          (first | have HAs := Lib.hid (HG2.out (by omega)) | skip)
          clear HG2 HE HGK HOwn HVal
          go_enter Tryz.func18, Tryz.ntmps18
          go_wp2_with fail
          refine HK.out.mono ?_
          rintro e w1 ⟨rfl, hb1⟩
          have HB1 := Lib.hid (((Below.refl w.heap.size w).alloc (Nat.le_refl _) (.cells #[vf, vt, vn, vs] 33)).trans (hb1.mono (by simp)))
          have HX1 := Lib.hid (blk_below (b := w.heap.size) (o := .cells #[vf, vt, vn, vs] 33 (0, 0)) hb1 (by simp) (blk_new rfl))
          clear hb1 HK
          have z0 := lt_of_blk HX1.out
          obtain ⟨p0, p1, p2, p3⟩ := cells4 HX1.out
          go_wp2_with (refine wpList_store_row rfl 79 (.tmp 8) (.tmp 14) rfl w1.heap.size (kindAt 1) rfl rfl 79 kind0 (heap_alloc_new w1 _) (by rw [KS.out]; kernel_rfl) (by rw [KS.out]; rfl) KO.out ?_; rw [World.setRow_alloc_new])
          have HB2 := Lib.hid (HB1.out.alloc HB1.out.size (.cells (kindAt 1) 79))
          refine (normal_s Any1 vf vt vn vs s f x _ (HS.out.below HB2.out) hx).mono ?_
          rw [HN.out]
          rintro e w3 ⟨rfl, hb3⟩
          have HB3 := Lib.hid (HB2.out.trans (hb3.mono HB2.out.size))
          have HX3 := Lib.hid (blk_below (b := w1.heap.size) (o := .cells (kindAt 1) 79 (0, 0)) hb3 (by simp) (blk_new rfl))
          have cf : w3.cell? ⟨w1.heap.size, 3, none⟩ = some (fnV 105) := by rw [cell_of_row _ _ _ _ _ _ HX3.out]; rfl
          clear hb3 p0 p1 p2 p3
          go_wp2_with fail
          refine (ggrams_any x _ g1 HAs.out).mono ?_
          rintro e w4 ⟨v, rfl, ho⟩
          have HO := Lib.hid ho; clear ho
          go_wp2_with fail
          go_ret2
          exact ⟨v, rfl, HO.out.1, HB3.out.trans ((HO.out.2).mono HB3.out.size)⟩
        · rw [if_pos rfl]
          have g4 : x.size ≤ 26 := by have := g3 rfl; omega
          (first | have HAs := Lib.hid (HG2.out (by omega)) | skip)
          clear HG2 HE HGK HOwn HVal
          go_enter Tryz.func18, Tryz.ntmps18
          go_wp2_with fail
          refine HK.out.mono ?_
          rintro e w1 ⟨rfl, hb1⟩
          have HB1 := Lib.hid (((Below.refl w.heap.size w).alloc (Nat.le_refl _) (.cells #[vf, vt, vn, vs] 33)).trans (hb1.mono (by simp)))
          have HX1 := Lib.hid (blk_below (b := w.heap.size) (o := .cells #[vf, vt, vn, vs] 33 (0, 0)) hb1 (by simp) (blk_new rfl))
          clear hb1 HK
          have z0 := lt_of_blk HX1.out
          obtain ⟨p0, p1, p2, p3⟩ := cells4 HX1.out
          go_wp2_with (refine wpList_store_row rfl 79 (.tmp 8) (.tmp 14) rfl w1.heap.size (kindAt 2) rfl rfl 79 kind0 (heap_alloc_new w1 _) (by rw [KS.out]; kernel_rfl) (by rw [KS.out]; rfl) KO.out ?_; rw [World.setRow_alloc_new])
          have HB2 := Lib.hid (HB1.out.alloc HB1.out.size (.cells (kindAt 2) 79))
          refine (normal_s Any1 vf vt vn vs s f x _ (HS.out.below HB2.out) hx).mono ?_
          rw [HN.out]
          rintro e w3 ⟨rfl, hb3⟩
          have HB3 := Lib.hid (HB2.out.trans (hb3.mono HB2.out.size))
          have HX3 := Lib.hid (blk_below (b := w1.heap.size) (o := .cells (kindAt 2) 79 (0, 0)) hb3 (by simp) (blk_new rfl))
          have cf : w3.cell? ⟨w1.heap.size, 3, none⟩ = some (fnV 109) := by rw [cell_of_row _ _ _ _ _ _ HX3.out]; rfl
          clear hb3 p0 p1 p2 p3
          go_wp2_with fail
          refine (positional_any x _ (by omega)).mono ?_
          rintro e w4 ⟨v, rfl, ho⟩
          have HO := Lib.hid ho; clear ho
          go_wp2_with fail
          go_ret2
          exact ⟨v, rfl, Vec.owns (k := 1) (enc := encS) (fun _ => rfl) HO.out.1 (fun _ _ _ => trivial), HB3.out.trans ((HO.out.2).mono HB3.out.size)⟩
        · rw [if_neg (by omega), if_pos rfl]
          (first | have HAs := Lib.hid (HG2.out (by omega)) | skip)
          clear HG2 HE HGK HOwn HVal
          go_enter Tryz.func18, Tryz.ntmps18
          go_wp2_with fail
          refine HK.out.mono ?_
          rintro e w1 ⟨rfl, hb1⟩
          have HB1 := Lib.hid (((Below.refl w.heap.size w).alloc (Nat.le_refl _) (.cells #[vf, vt, vn, vs] 33)).trans (hb1.mono (by simp)))
          have HX1 := Lib.hid (blk_below (b := w.heap.size) (o := .cells #[vf, vt, vn, vs] 33 (0, 0)) hb1 (by simp) (blk_new rfl))
          clear hb1 HK
          have z0 := lt_of_blk HX1.out
          obtain ⟨p0, p1, p2, p3⟩ := cells4 HX1.out
          go_wp2_with (refine wpList_store_row rfl 79 (.tmp 8) (.tmp 14) rfl w1.heap.size (kindAt 3) rfl rfl 79 kind0 (heap_alloc_new w1 _) (by rw [KS.out]; kernel_rfl) (by rw [KS.out]; rfl) KO.out ?_; rw [World.setRow_alloc_new])
          have HB2 := Lib.hid (HB1.out.alloc HB1.out.size (.cells (kindAt 3) 79))
          refine (normal_s Any1 vf vt vn vs s f x _ (HS.out.below HB2.out) hx).mono ?_
          rw [HN.out]
          rintro e w3 ⟨rfl, hb3⟩
          have HB3 := Lib.hid (HB2.out.trans (hb3.mono HB2.out.size))
          have HX3 := Lib.hid (blk_below (b := w1.heap.size) (o := .cells (kindAt 3) 79 (0, 0)) hb3 (by simp) (blk_new rfl))
          have cf : w3.cell? ⟨w1.heap.size, 3, none⟩ = some (fnV 114) := by rw [cell_of_row _ _ _ _ _ _ HX3.out]; rfl
          clear hb3 p0 p1 p2 p3
          go_wp2_with fail
          refine (kind4_any x _ (by omega)).mono ?_
          rintro e w4 ⟨v, rfl, ho⟩
          have HO := Lib.hid ho; clear ho
          go_wp2_with fail
          go_ret2
          exact ⟨v, rfl, HO.out.1, HB3.out.trans ((HO.out.2).mono HB3.out.size)⟩
        · rw [if_neg (by omega), if_neg (by omega)]
          (first | have HAs := Lib.hid (HG2.out (by omega)) | skip)
          clear HG2 HE HGK HOwn HVal
          go_enter Tryz.func18, Tryz.ntmps18
          go_wp2_with fail
          refine HK.out.mono ?_
          rintro e w1 ⟨rfl, hb1⟩
          have HB1 := Lib.hid (((Below.refl w.heap.size w).alloc (Nat.le_refl _) (.cells #[vf, vt, vn, vs] 33)).trans (hb1.mono (by simp)))
          have HX1 := Lib.hid (blk_below (b := w.heap.size) (o := .cells #[vf, vt, vn, vs] 33 (0, 0)) hb1 (by simp) (blk_new rfl))
          clear hb1 HK
          have z0 := lt_of_blk HX1.out
          obtain ⟨p0, p1, p2, p3⟩ := cells4 HX1.out
          go_wp2_with (refine wpList_store_row rfl 79 (.tmp 8) (.tmp 14) rfl w1.heap.size (kindAt 4) rfl rfl 79 kind0 (heap_alloc_new w1 _) (by rw [KS.out]; kernel_rfl) (by rw [KS.out]; rfl) KO.out ?_; rw [World.setRow_alloc_new])
          have HB2 := Lib.hid (HB1.out.alloc HB1.out.size (.cells (kindAt 4) 79))
          refine (normal_s Any1 vf vt vn vs s f x _ (HS.out.below HB2.out) hx).mono ?_
          rw [HN.out]
          rintro e w3 ⟨rfl, hb3⟩
          have HB3 := Lib.hid (HB2.out.trans (hb3.mono HB2.out.size))
          have HX3 := Lib.hid (blk_below (b := w1.heap.size) (o := .cells (kindAt 4) 79 (0, 0)) hb3 (by simp) (blk_new rfl))
          have cf : w3.cell? ⟨w1.heap.size, 3, none⟩ = some (fnV 105) := by rw [cell_of_row _ _ _ _ _ _ HX3.out]; rfl
          clear hb3 p0 p1 p2 p3
          go_wp2_with fail
          refine (ggrams_any x _ g1 HAs.out).mono ?_
          rintro e w4 ⟨v, rfl, ho⟩
          have HO := Lib.hid ho; clear ho
          go_wp2_with fail
          go_ret2
          exact ⟨v, rfl, HO.out.1, HB3.out.trans ((HO.out.2).mono HB3.out.size)⟩
  · have hne : (er != 0) = true := by simpa using he
    have HE := Lib.hid (show gramsN s f x.data.toList = ([], er) by rw [HVal.out, if_neg he])
    clear he hkk
    rw [HE.out]
    go_enter Tryz.func18, Tryz.ntmps18
    go_wp2_with fail
    refine HK.out.mono ?_
    rintro e w1 ⟨rfl, hb1⟩
    have HB1 := Lib.hid (((Below.refl w.heap.size w).alloc (Nat.le_refl _) (.cells #[vf, vt, vn, vs] 33)).trans (hb1.mono (by simp)))
    clear hb1 HK
    go_wp2_with (refine wpList_store_row rfl 79 (.tmp 8) (.tmp 14) rfl w1.heap.size (kindAt kd) rfl rfl 79 kind0 (heap_alloc_new w1 _) (by rw [KS.out]; kernel_rfl) (by rw [KS.out]; rfl) KO.out ?_; rw [World.setRow_alloc_new])
    go_ret2
    exact ⟨_, rfl, Vec.nil _ _ _ _, HB1.out.alloc HB1.out.size _⟩
end Go.Proofs.YtfgoiojmbphmnaaGreatDoor
end
section
/- The law SchemaGrams, walked: for every list of numbers it returns true and leaves what was there. -/
set_option linter.unusedSimpArgs false
set_option linter.unusedVariables false
set_option maxRecDepth 100000
namespace Go.Proofs.YtfgoiojmbphmnaaGreatDoor
open Go.RowKit Cal
attribute [local go_sem] toList_mk mk_size str_append
theorem asc_facts {x y : List UInt8} (h : Op.bytesLess y x = true) : Op.bytesLess x y = false ∧ (x == y) = false := by
  rw [bytesLess_eq, decide_eq_true_iff] at h
  refine ⟨?_, ?_⟩
  · rw [bytesLess_eq, decide_eq_false_iff_not]; exact List.lt_asymm h
  · simp only [beq_eq_false_iff_ne, ne_eq]; intro e; subst e; exact List.lt_irrefl _ h
set_option maxHeartbeats 16000000 in
theorem sgrams_walk (a : Option Addr) (n cap : Nat) (zs : List Int) (w : World) (hr : IsRow .i64 w a n cap zs) :
    Calls Tryz.prog 4 #[.slice a n cap] w fun e w' => e = .returned (.bool true) ∧ Below w.heap.size w w' := by
  by_cases hn : n ≤ 400
  · have hd : decide (n ≤ 400) = true := by simpa using hn
    have HR := Lib.hid hr; clear hr
    go_enter Tryz.func4, Tryz.ntmps4
    go_wp2_with fail
    refine (awake_s _).mono ?_; rintro e w1 ⟨rfl, hb1⟩
    go_wp2_with fail
    refine (few_any a n cap _).mono ?_; rintro e w' ⟨rfl, rfl⟩
    go_wp2_with fail
    refine (new_any a n cap _).mono ?_; rintro e w' ⟨rfl, rfl⟩
    have Hdk := Lib.hid (deck_law (cap := cap) hn HR.out hb1)
    have HB1 := Lib.hid (hb1.alloc hb1.size (.cells #[.slice a n cap, .int .i64 0, .int .u64 11400714819323198485] 71))
    have zB1 := hb1.size
    clear hb1 HR hd
    go_wp2_with fail
    refine (schema_deal _ _ Hdk.out).mono ?_
    rintro e w2 ⟨vf, vt, vn, vs, s, rfl, hS, hSD, mv⟩
    obtain ⟨af, cf, rfl⟩ := hS.1.slice
    obtain ⟨at', ct, rfl⟩ := hS.2.1.slice
    obtain ⟨an, cn, rfl⟩ := hS.2.2.1.slice
    obtain ⟨as', cs, rfl⟩ := hS.2.2.2.slice
    have zD : w1.heap.size < w2.heap.size := mv.deck.lt
    have hSne : ∀ b, (w1.alloc (.cells #[.slice a n cap, .int .i64 0, .int .u64 11400714819323198485] 71)).heap.size ≤ b → b ≠ w1.heap.size := fun b h => by simp at h; omega
    have HSne := Lib.hid hSne
    have M2 := Lib.hid mv
    have HSD := Lib.hid hSD
    obtain ⟨L, hL⟩ : ∃ L, s.fields.length = L := ⟨_, rfl⟩
    have hL1 : 1 ≤ L := by rw [← hL]; exact hSD.some
    have hL4 : L ≤ 4 := by rw [← hL]; exact hSD.fields.len
    obtain ⟨b, off, rfl, hSb, hb, hc⟩ := fields_cell hS.1 (by omega)
    have hbD := hSne b hSb
    rw [hL] at hS ⊢
    have HC := Lib.hid hc; have HS := Lib.hid hS; have HL := Lib.hid hL
    clear hc hS hL hSD mv hSne hSb
    go_wp2_with fail
    refine (next_any _ _ _ (M2.out.alloc _).deck (by omega) (by omega)).mono ?_
    rintro e w3 ⟨f, rfl, f0, f1, mv⟩
    obtain ⟨f, rfl⟩ := Int.eq_ofNat_of_zero_le f0
    have hf : f < L := by omega
    have X3 := Lib.hid (mv.blk (by omega) (blk_new rfl))
    have M3 := Lib.hid ((M2.out.alloc (.cells #[.slice (some ⟨b, off, none⟩) L cf, .slice at' s.rules.titles.length ct, .slice an s.rules.nicks.length cn, .slice as' s.rules.streets.length cs] 33)).trans mv)
    have S3 := Lib.hid ((HS.out.below ((Below.refl _ _).alloc (Nat.le_refl _) (.cells #[.slice (some ⟨b, off, none⟩) L cf, .slice at' s.rules.titles.length ct, .slice an s.rules.nicks.length cn, .slice as' s.rules.streets.length cs] 33))).moved HSne.out mv)
    have z3 := lt_of_blk X3.out
    have kc : w3.cell? ⟨b, off + f * 2 + 1, none⟩ = some (.int .i64 (s.fields.getD f default).2) := by
      have h1 : w3.heap[b]? = w2.heap[b]? := (mv.grown.block b (by simp; omega) (by simp; omega)).trans (heap_alloc_old _ _ hb)
      exact (World.cell?_of_block (w := w2) (a := ⟨b, off + f * 2 + 1, none⟩) h1).trans (HC.out f (by rw [HL.out]; exact hf))
    have hfd := Lib.hid (findN_in HSD.out.check (f := f) (by rw [HL.out]; exact hf))
    obtain ⟨kf, hkf⟩ : ∃ kf, (s.fields.getD f default).2 = kf := ⟨_, rfl⟩
    rw [hkf] at kc hfd
    have K3 := Lib.hid (show Drawn w1.heap.size (w1.alloc (.cells #[.slice a n cap, .int .i64 0, .int .u64 11400714819323198485] 71)) w2.heap.size _ _ _ _ _ s b (off + f * 2 + 1) kf w3 from ⟨M3.out, X3.out, S3.out, kc, HSne.out, by omega, hbD⟩)
    clear hkf mv HC HS M2 M3 X3 S3 kc HSne
    obtain ⟨p0, p1, p2, p3, kc⟩ := K3.out.held
    go_wp2_with fail
    refine wp_region_noPanic ?_
    refine wp_region_held_drew (S := (fun w' => w'.cell? ⟨w2.heap.size, 0, none⟩ = some (.slice (some ⟨b, off, none⟩) L cf) ∧ w'.cell? ⟨w2.heap.size, 1, none⟩ = some (.slice at' s.rules.titles.length ct) ∧ w'.cell? ⟨w2.heap.size, 2, none⟩ = some (.slice an s.rules.nicks.length cn) ∧ w'.cell? ⟨w2.heap.size, 3, none⟩ = some (.slice as' s.rules.streets.length cs) ∧ w'.cell? ⟨b, off + f * 2 + 1, none⟩ = some (.int .i64 kf))) (by kernel_rfl) (⟨p0, p1, p2, p3, kc⟩) (fun hHeld => ?_)
    refine wpAnyH_take (i := 0) (v := ?_) rfl (by kernel_rfl) (by kernel_rfl) (by kernel_rfl) (fun _ _ _ h => h) (Or.inl ⟨by rfl, ?_⟩) (by assumption) ?_
    rotate_left 1
    · (intro wS hSw; (try dsimp only at hSw); go_simp; try with_reducible rfl)
    try simp only [List.getElem_toArray, List.getElem_cons_zero, List.getElem_cons_succ, Act.put, List.setIfInBounds_toArray, List.set_cons_zero, List.set_cons_succ]
    refine wpAnyH_take (i := 1) (v := ?_) rfl (by kernel_rfl) (by kernel_rfl) (by kernel_rfl) (fun _ _ _ h => h) (Or.inl ⟨by rfl, ?_⟩) (by assumption) ?_
    rotate_left 1
    · (intro wS hSw; (try dsimp only at hSw); go_simp; try with_reducible rfl)
    try simp only [List.getElem_toArray, List.getElem_cons_zero, List.getElem_cons_succ, Act.put, List.setIfInBounds_toArray, List.set_cons_zero, List.set_cons_succ]
    refine wpAnyH_take (i := 2) (v := ?_) rfl (by kernel_rfl) (by kernel_rfl) (by kernel_rfl) (fun _ _ _ h => h) (Or.inl ⟨by rfl, ?_⟩) (by assumption) ?_
    rotate_left 1
    · (intro wS hSw; (try dsimp only at hSw); go_simp; try with_reducible rfl)
    try simp only [List.getElem_toArray, List.getElem_cons_zero, List.getElem_cons_succ, Act.put, List.setIfInBounds_toArray, List.set_cons_zero, List.set_cons_succ]
    refine wpAnyH_take (i := 3) (v := ?_) rfl (by kernel_rfl) (by kernel_rfl) (by kernel_rfl) (fun _ _ _ h => h) (Or.inl ⟨by rfl, ?_⟩) (by assumption) ?_
    rotate_left 1
    · (intro wS hSw; (try dsimp only at hSw); go_simp; try with_reducible rfl)
    try simp only [List.getElem_toArray, List.getElem_cons_zero, List.getElem_cons_succ, Act.put, List.setIfInBounds_toArray, List.set_cons_zero, List.set_cons_succ]
    refine wpAnyH_take (i := 4) (v := ?_) rfl (by kernel_rfl) (by kernel_rfl) (by kernel_rfl) (fun _ _ _ h => h) (Or.inl ⟨by rfl, ?_⟩) (by assumption) ?_
    rotate_left 1
    · (intro wS hSw; (try dsimp only at hSw); go_simp; try with_reducible rfl)
    try simp only [List.getElem_toArray, List.getElem_cons_zero, List.getElem_cons_succ, Act.put, List.setIfInBounds_toArray, List.set_cons_zero, List.set_cons_succ]
    refine wpAnyH_take (i := 5) (v := ?_) rfl (by kernel_rfl) (by kernel_rfl) (by kernel_rfl) (fun _ _ _ h => h) (Or.inl ⟨by rfl, ?_⟩) (by assumption) ?_
    rotate_left 1
    · (intro wS hSw; (try dsimp only at hSw); go_simp; try with_reducible rfl)
    try simp only [List.getElem_toArray, List.getElem_cons_zero, List.getElem_cons_succ, Act.put, List.setIfInBounds_toArray, List.set_cons_zero, List.set_cons_succ]
    refine wpAnyH_take (i := 6) (v := ?_) rfl (by kernel_rfl) (by kernel_rfl) (by kernel_rfl) (fun _ _ _ h => h) (Or.inl ⟨by rfl, ?_⟩) (by assumption) ?_
    rotate_left 1
    · (intro wS hSw; (try dsimp only at hSw); go_simp; try with_reducible rfl)
    try simp only [List.getElem_toArray, List.getElem_cons_zero, List.getElem_cons_succ, Act.put, List.setIfInBounds_toArray, List.set_cons_zero, List.set_cons_succ]
    refine wpAnyH_take (i := 7) (v := ?_) rfl (by kernel_rfl) (by kernel_rfl) (by kernel_rfl) (fun _ _ _ h => h) (Or.inl ⟨by rfl, ?_⟩) (by assumption) ?_
    rotate_left 1
    · (intro wS hSw; (try dsimp only at hSw); go_simp; try with_reducible rfl)
    try simp only [List.getElem_toArray, List.getElem_cons_zero, List.getElem_cons_succ, Act.put, List.setIfInBounds_toArray, List.set_cons_zero, List.set_cons_succ]
    refine wpAnyH_take (i := 8) (v := ?_) rfl (by kernel_rfl) (by kernel_rfl) (by kernel_rfl) (fun _ _ _ h => h) (Or.inl ⟨by rfl, ?_⟩) (by assumption) ?_
    rotate_left 1
    · (intro wS hSw; (try dsimp only at hSw); go_simp; try with_reducible rfl)
    try simp only [List.getElem_toArray, List.getElem_cons_zero, List.getElem_cons_succ, Act.put, List.setIfInBounds_toArray, List.set_cons_zero, List.set_cons_succ]
    refine wpAnyH_ready (rs := [9]) (by kernel_rfl) (by simp) ?_
    refine AllReadyH.cons rfl (fun K hK => ?_) AllReadyH.nil
    go_simp
    refine (raw_deal _ kf _ (K3.out.m.drew).deck).mono ?_; rintro e w4 ⟨z, rfl, hz, mv⟩; have K4 := Lib.hid (K3.out.moved (((Moved.start K3.out.m.deck).drew).trans mv)); clear mv K3
    refine hK.out _ _ (K4.out.held) (fun hHeld => ?_)
    clear hK K
    try simp only [List.getElem_toArray, List.getElem_cons_zero, List.getElem_cons_succ, Act.put, List.setIfInBounds_toArray, List.set_cons_zero, List.set_cons_succ]
    have hform := valueN_form s f z
    obtain ⟨⟨v, e1⟩, hp⟩ : ∃ p, valueN s f z = p := ⟨_, rfl⟩
    rw [hp] at hform
    have HP := Lib.hid hp; have HFm := Lib.hid hform
    clear hp hform
    refine wpAnyH_ready (rs := [10]) (by kernel_rfl) (by simp) ?_
    refine AllReadyH.cons rfl (fun K hK => ?_) AllReadyH.nil
    go_simp
    refine (value_any _ _ _ _ _ s f ⟨z.toArray⟩ _ K4.out.s (by rw [mk_size]; omega)).mono ?_; rw [show (⟨z.toArray⟩ : ByteArray).data.toList = z by simp, HP.out]; unfold pairV; rintro e w8 ⟨rfl, hb8⟩; have K8 := Lib.hid (K4.out.below hb8); clear hb8 K4
    refine hK.out _ _ (K8.out.held) (fun hHeld => ?_)
    clear hK K
    try simp only [List.getElem_toArray, List.getElem_cons_zero, List.getElem_cons_succ, Act.put, List.setIfInBounds_toArray, List.set_cons_zero, List.set_cons_succ]
    refine wpAnyH_take (i := 11) (v := ?_) rfl (by kernel_rfl) (by kernel_rfl) (by kernel_rfl) (fun _ _ _ h => h) (Or.inl ⟨by rfl, ?_⟩) (by assumption) ?_
    rotate_left 1
    · (intro wS hSw; (try dsimp only at hSw); go_simp; try with_reducible rfl)
    try simp only [List.getElem_toArray, List.getElem_cons_zero, List.getElem_cons_succ, Act.put, List.setIfInBounds_toArray, List.set_cons_zero, List.set_cons_succ]
    refine wpAnyH_take (i := 12) (v := ?_) rfl (by kernel_rfl) (by kernel_rfl) (by kernel_rfl) (fun _ _ _ h => h) (Or.inl ⟨by rfl, ?_⟩) (by assumption) ?_
    rotate_left 1
    · (intro wS hSw; (try dsimp only at hSw); go_simp; try with_reducible rfl)
    try simp only [List.getElem_toArray, List.getElem_cons_zero, List.getElem_cons_succ, Act.put, List.setIfInBounds_toArray, List.set_cons_zero, List.set_cons_succ]
    refine wpAnyH_take (i := 13) (v := ?_) rfl (by kernel_rfl) (by kernel_rfl) (by kernel_rfl) (fun _ _ _ h => h) (Or.inl ⟨by rfl, ?_⟩) (by assumption) ?_
    rotate_left 1
    · (intro wS hSw; (try dsimp only at hSw); go_simp; try with_reducible rfl)
    try simp only [List.getElem_toArray, List.getElem_cons_zero, List.getElem_cons_succ, Act.put, List.setIfInBounds_toArray, List.set_cons_zero, List.set_cons_succ]
    refine wpAnyH_take (i := 14) (v := ?_) rfl (by kernel_rfl) (by kernel_rfl) (by kernel_rfl) (fun _ _ _ h => h) (Or.inl ⟨by rfl, ?_⟩) (by assumption) ?_
    rotate_left 1
    · (intro wS hSw; (try dsimp only at hSw); go_simp; try with_reducible rfl)
    try simp only [List.getElem_toArray, List.getElem_cons_zero, List.getElem_cons_succ, Act.put, List.setIfInBounds_toArray, List.set_cons_zero, List.set_cons_succ]
    refine wpAnyH_take (i := 15) (v := ?_) rfl (by kernel_rfl) (by kernel_rfl) (by kernel_rfl) (fun _ _ _ h => h) (Or.inl ⟨by rfl, ?_⟩) (by assumption) ?_
    rotate_left 1
    · (intro wS hSw; (try dsimp only at hSw); go_simp; try with_reducible rfl)
    try simp only [List.getElem_toArray, List.getElem_cons_zero, List.getElem_cons_succ, Act.put, List.setIfInBounds_toArray, List.set_cons_zero, List.set_cons_succ]
    refine wpAnyH_done (by kernel_rfl) ?_ _
    refine NoPanic.normal ?_
    clear p0 p1 p2 p3 kc
    obtain ⟨p0, p1, p2, p3, kc⟩ := K8.out.held
    by_cases he : e1 = 0
    · subst he
      have hvl : v.length ≤ 64 := HFm.out.1
      obtain ⟨hn1, _, _⟩ := value_normal HP.out
      obtain ⟨hl1, hl2, hl3⟩ := gramsK_law HP.out hfd.out
      have hgn : gramsN s f v = (gramsK kf v, 0) := by unfold gramsN; rw [hfd.out, if_pos rfl, if_pos hn1]
      obtain ⟨G, hG⟩ : ∃ G, gramsK kf v = G := ⟨_, rfl⟩
      rw [hG] at hgn hl1 hl2 hl3
      have HGN := Lib.hid hgn; have HAsc := Lib.hid hl1; have HNil := Lib.hid hl3
      clear hn1 hl1 hl3 hgn hG
      go_wp2_with fail
      refine (grams_s _ _ _ _ _ s f ⟨v.toArray⟩ _ K8.out.s (by rw [mk_size]; omega)).mono ?_
      rw [show (⟨v.toArray⟩ : ByteArray).data.toList = v by simp, HGN.out]
      rintro e w9 ⟨gv, rfl, hgv, hb9⟩
      obtain ⟨ag, cg, rfl⟩ := hgv.slice
      have K9 := Lib.hid (K8.out.below hb9)
      have HV := Lib.hid hgv
      clear hb9 hgv K8 p0 p1 p2 p3 kc
      go_wp2_with fail
      go_loopw [10] (fun i wr => ∃ m : Nat, i = .int .i64 (m + 1) ∧ Below w9.heap.size w9 wr) (fun i _ => G.length - (intOf i).toNat)
      case atStart => exact ⟨0, rfl, Below.refl _ _⟩
      case round =>
        obtain ⟨m, rfl, hbw⟩ := hrel
        have HBw := Lib.hid hbw; clear hbw
        by_cases hlt : m + 1 < G.length
        · have hq : decide ((m : Int) + 1 < G.length) = true := by simp; omega
          obtain ⟨bg, og, rfl, _, hbg, hcg⟩ := vec_cell1 HV.out (by omega)
          have ca := (HBw.out.cell (p := ⟨bg, og + (m + 1), none⟩) hbg).trans (hcg (m + 1) hlt)
          have cb := (HBw.out.cell (p := ⟨bg, og + m, none⟩) hbg).trans (hcg m (by omega))
          obtain ⟨h1, h2⟩ := asc_facts (HAsc.out m hlt)
          obtain ⟨x, hx⟩ : ∃ x, G.getD (m + 1) [] = x := ⟨_, rfl⟩
          obtain ⟨y, hy⟩ : ∃ y, G.getD m [] = y := ⟨_, rfl⟩
          rw [hx] at ca h1 h2
          rw [hy] at cb h1 h2
          have hi1 : (0 : Int) ≤ (m : Int) + 1 := by omega
          have hi2 : (m : Int) + 1 < (G.length : Int) := by omega
          have hi3 : (m : Int) < (G.length : Int) := by omega
          clear hcg hx hy
          go_wp2_with fail
          go_quiet (fail)
          go_wp2_with fail
          go_roundw
          case rel => exact ⟨m + 1, by go_num, below_drewN HBw.out _⟩
          case measure => simp [intOf]; omega
        · have hq : decide ((m : Int) + 1 < G.length) = false := by simp; omega
          have hq2 : decide ((G.length : Int) ≤ 80) = true := by simp; omega
          by_cases hv : v = []
          · subst hv
            obtain rfl : G = [] := HNil.out.2 rfl
            go_wp2_with fail
            go_ret
            exact ⟨rfl, (K9.out.below HBw.out).m.base HB1.out zB1⟩
          · have hv1 : (v == []) = false := by simpa using hv
            have hv2 : v.isEmpty = false := by simpa using hv
            have hg1 : ((G.length : Int) == 0) = false := by
              simp only [beq_eq_false_iff_ne, ne_eq]; intro e; exact hv (HNil.out.1 (List.length_eq_zero_iff.1 (by omega)))
            clear hv
            go_wp2_with fail
            go_ret
            exact ⟨rfl, (K9.out.below HBw.out).m.base HB1.out zB1⟩
    · have ee : (e1 != 0) = true := by simpa using he
      clear he
      go_wp2_with fail
      go_ret
      exact ⟨rfl, K8.out.m.base HB1.out zB1⟩
  · have hd : decide (n ≤ 400) = false := by simpa using hn
    clear hr hn
    go_enter Tryz.func4, Tryz.ntmps4
    go_wp2_with fail
    refine (awake_s _).mono ?_; rintro e w1 ⟨rfl, hb1⟩
    go_wp2_with fail
    refine (few_any a n cap _).mono ?_; rintro e w' ⟨rfl, rfl⟩
    go_wp2_with fail
    refine (awake_s _).mono ?_; rintro e w2 ⟨rfl, hb2⟩
    go_wp2_with fail
    go_ret
    exact ⟨rfl, hb1.trans (hb2.mono hb1.size)⟩
end Go.Proofs.YtfgoiojmbphmnaaGreatDoor
end
section
namespace Go.Proofs.YtfgoiojmbphmnaaGreatDoor.schemaGrams
open Go.ChangeShapes Go.WideShapes Go.ChangeAt Go.RowKit Go.Joins
open Go.ChangeMaps (open_string shut_string)
set_option linter.unusedVariables false

theorem own : ownKnob Tryz.prog.godebug = none := by kernel_rfl
theorem laidOut : laidOutB Tryz.prog = true := by kernel_rfl

set_option maxRecDepth 100000 in
theorem lifted (os : Os) (started : os.Started) (H : Type) (enc : TypeId × Value → H) :
    ReturnsInHanded {} Tryz.checked os 4 .any (fun w args => (Rows.schemaGramsSpec.pre enc Tryz.prog Tryz.f4 Rows.schemaGramsRow.domain false w args ∧ laidMetH Tryz.prog Rows.schemaGramsRow.laid w) ∧ sizedMet enc Tryz.prog Tryz.f4 (OpenSpec.ofChange Rows.schemaGramsSpec) false w args) (Rows.schemaGramsSpec.post enc Tryz.prog Tryz.f4 false true false false) := by
  refine returnsInHanded_of_change_and (C := Tryz.checked) (X := fun w _ => laidMetH Tryz.prog Rows.schemaGramsRow.laid w) (fun _ _ _ hh h => h.of_heap hh) own started (by kernel_rfl) Tryz.func4
    (ChangeSpec.witness_shaped (enc := enc) (C := Tryz.checked) (os := os) (X := fun w _ => laidMetH Tryz.prog Rows.schemaGramsRow.laid w) false (World.laidAll Tryz.prog os Rows.schemaGramsRow.laid) #[.slice none 0 0] 8 (World.laidAll_os _ _ _)
      (World.shaped_of_ZipB (by kernel_rfl) (by kernel_rfl)) (by kernel_rfl) (by kernel_rfl) (by kernel_rfl)
      (by rw [MakeChecks.laidMetH_plain _ _ _ (by kernel_rfl)]; exact laidMet_laidAll _ (by kernel_rfl) (by kernel_rfl))) ?_
  intro W base args ds gs before hval0 hW hcnd _ hLaid _
  have hval : ∀ (j : Nat) t v, Tryz.f4.params[j]? = some t → args[j]? = some v → Value.okWide Tryz.prog W .any base t v := hval0
  have hW' := hW
  obtain ⟨p, q, hA0, hV, rfl, hfz, hnd⟩ := hW
  have hA : DataW.TrodAll enc Tryz.prog W 0 (fun _ => true) true Tryz.f4.params.toList args.toList ds p := hA0
  rw [Tryz.params4] at hA hval
  obtain ⟨v0, vs0, d0, ds0, p0, q0, hargs, rfl, rfl, h0, r0⟩ := trodAll_cons hA
  obtain ⟨rfl, rfl, rfl⟩ := trodAll_nil r0
  obtain rfl : args = #[v0] := by cases args; simp_all
  obtain ⟨rfl, rfl⟩ := trodVars_none hV
  obtain ⟨a0, len0, cap0, rfl⟩ := okWide_slice Tryz.underlying22 (hval 0 22 v0 rfl rfl)
  have k0 := h0
  have lt0 : ∀ x ∈ p0, x.block < W.heap.size := by obtain ⟨m, hm⟩ := k0; exact DataW.trod_lt m _ _ _ hm
  obtain ⟨z0, w0⟩ : ∃ zs, IsRow .i64 W a0 len0 cap0 zs := by
    obtain ⟨fuel, hf⟩ := h0
    rcases open_ints Tryz.underlying22 Tryz.underlying3 (by kernel_rfl) hf with ⟨hcs, _⟩ | ⟨x, l, c, zs, hcs, _, hl, hm, hz, _, hcell, hwz⟩
    · simp [Value.cells] at hcs
      obtain ⟨rfl, rfl, rfl⟩ := hcs
      exact ⟨[], .inl ⟨rfl, rfl, rfl, rfl⟩⟩
    · simp [Value.cells] at hcs
      obtain ⟨rfl, rfl, rfl⟩ := hcs
      exact ⟨zs, .inr ⟨_, rfl, hl, hm, by simpa using hz, hcell, hwz⟩⟩
  clear hA0 hval0
  refine (sgrams_walk a0 len0 cap0 z0 W w0).mono fun e W' ⟨he, bel⟩ => ?_
  subst he
  exact ⟨_, rfl, _, _, _, [], _, [], hW', trodAll_mk1 (shut_bool Tryz.underlying4 _), (trodAll_cons_mk (Below.trod laidOut (by kernel_rfl) (of_decide_eq_true (by kernel_rfl)) k0 bel lt0) trodAll_mk0), rfl, bel.frame _, fun h => by cases h⟩

theorem over : Rows.schemaGramsRow.holds Tryz.pinned (OpenSpec.ofChange Rows.schemaGramsSpec) :=
  OpenClaim.holds_of_wide 4 Tryz.f4 rfl rfl rfl rfl rfl rfl rfl ⟨rfl, rfl, rfl, rfl, rfl⟩ rfl rfl rfl rfl rfl (by kernel_rfl) Tryz.func4 (by kernel_rfl)
    (of_decide_eq_true (by kernel_rfl)) (by unfold Func.isWrapper; first | (rw [if_pos (by decide +kernel)]; kernel_rfl) | (rw [if_neg (by decide +kernel)]; exact ⟨rfl, rfl⟩))
    (fun os started H enc _ => lifted os started H enc)

/-- THE STATEMENT -/
theorem proved : Rows.SchemaGramsCardSaid :=
  Claim7.holds_tied_plain_at .later [] [.data, .pinned] true (true, "d80584c64c476ce7af35335222562c676e5987e6d7256348884298adb1664843") false
    over (fun _ h => by cases h) (by kernel_rfl) (fun _ h => by cases h) schemaGrams_row_tie rfl ⟨rfl, rfl⟩ (by kernel_rfl) rfl
    (fun f fn hf hfn => by
      obtain rfl : f = 4 := Option.some.inj ((show Tryz.prog.funcNamed Rows.schemaGramsRow.func = some 4 by kernel_rfl).symm.trans hf) |>.symm
      obtain rfl : fn = Tryz.f4 := (Option.some.inj (Tryz.func4.symm.trans hfn)).symm
      exact ⟨by kernel_rfl, fun j t ht => by
        rw [Tryz.params4] at ht
        have hm : t ∈ [22] := by simpa using Array.mem_of_getElem? ht
        have hall : ([22].all fun u => !Tryz.prog.wantsStandIn u) = true := by kernel_rfl
        exact (show Tryz.prog.wantsStandIn t = false by simpa using List.all_eq_true.1 hall t hm)⟩)
    (by kernel_rfl)
#print axioms proved
end Go.Proofs.YtfgoiojmbphmnaaGreatDoor.schemaGrams
end
