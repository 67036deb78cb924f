/- Parts of one proof: MakeZ, MakeZZ, Drawn, Split, SchP, IterL, SchQ, SchR, HeldK, SchS. -/
import Derived.Test.YtfgoiojmbphmnaaGreatDoorPartSchemaExact3
import Derived.Deep.AppendLies
import Derived.Deep.RegionLaw
import Derived.Lib.Split
import Derived.Shelf.SlIter.Nil
import Derived.Shelf.SortM.Plain
import Derived.Shelf.SortM.SortNone
import Derived.Ground.GgzProg
import Derived.Ground.SlgmProg
import Derived.Test.YtfgoiojmbphmnaaGreatDoorProg
import Derived.Shelf.SlIter.Collect
import Derived.OrdersHeld
import Derived.Deep.RegionHeld
import Derived.IntWalk
section
/- recordlinkmake: Schema: some valid schema of one to four fields. -/
set_option linter.unusedSimpArgs false
set_option linter.unusedVariables false
set_option maxRecDepth 100000
namespace Go.Proofs.YtfgoiojmbphmnaaGreatDoor
open Go.RowKit
attribute [local go_sem] toList_mk mk_size str_append
theorem infoF : (Tryz.prog.info? 42).map (fun i => (i.zero, i.size, i.bytes)) = some (some (.agg #[.string ⟨#[]⟩, .int .i64 0]), 2, 24) := by kernel_rfl
/-- a schema that is dealt -/
structure SchemaD (s : SchemaL) : Prop where
  fields : FieldsD s.fields
  some : 1 ≤ s.fields.length
  rules : RulesD s.rules
theorem SchemaD.check {s : SchemaL} (h : SchemaD s) : checkS s = 0 := h.fields.check h.some h.rules.check
def nil4 : Array Value := #[.slice none 0 0, .slice none 0 0, .slice none 0 0, .slice none 0 0]
/-- while a schema is dealt: the result's block, the schema's, the names', the row of the fields -/
structure SMid (D : Nat) (w : World) (y : Nat) (vt vn vs : Value) (r : RulesL) (vf : Value) (F : List F2) (wr : World) : Prop where
  z : wr.heap[w.heap.size]? = some (.cells nil4 33 (0, 0))
  s : wr.heap[y]? = some (.cells #[vf, vt, vn, vs] 33 (0, 0))
  n : RowB wr (y + 1) namesD
  own : wr.ownsRow (y + 2) 42 2 vf F.length (F.flatMap encF)
  rules : RulesAt wr (fun b => w.heap.size < b ∧ b < y) vt vn vs r
  fields : FieldsD F
  moved : Moved D w wr
  lt : w.heap.size < y
theorem own_same {w w' : World} {B e size n : Nat} {v : Value} {xs : List Value} (h : w.ownsRow B e size v n xs) (hs : ∀ g, B ≤ g → g < w.heap.size → w'.heap[g]? = w.heap[g]?) : w'.ownsRow B e size v n xs := by
  refine ⟨h.1, ?_⟩
  rcases h.2 with h0 | ⟨g, cap, cur, hv, hg, hh, rest⟩
  · exact .inl h0
  · exact .inr ⟨g, cap, cur, hv, hg, (hs g hg (lt_of_blk hh)).trans hh, rest⟩
theorem own_slice {w : World} {B e size n : Nat} {v : Value} {xs : List Value} (h : w.ownsRow B e size v n xs) : ∃ a c, v = .slice a n c := by
  rcases h.2 with ⟨rfl, rfl⟩ | ⟨g, cap, cur, hv, _⟩
  · exact ⟨none, 0, rfl⟩
  · exact ⟨_, _, hv⟩
theorem own_far {w : World} {B e size n : Nat} {v : Value} {xs : List Value} (h : w.ownsRow B e size v n xs) {k : Nat} (hk : k < B) : some k ≠ v.ownBlock := by
  rcases h.2 with ⟨rfl, rfl⟩ | ⟨g, cap, cur, rfl, hg, _⟩
  · simp [Value.ownBlock]
  · simp [Value.ownBlock]; omega
theorem SMid.gone {D : Nat} {w : World} {y : Nat} {vt vn vs : Value} {r : RulesL} {vf : Value} {F : List F2} {wr wd : World} (h : SMid D w y vt vn vs r vf F wr) (hD : D < w.heap.size) (m : Moved D wr wd) : SMid D w y vt vn vs r vf F wd := by
  have hy := h.lt
  have hb : ∀ b, b < wr.heap.size → w.heap.size ≤ b → wd.heap[b]? = wr.heap[b]? := fun b hb hS => m.grown.block b hb (by simp; omega)
  refine ⟨m.blk (by omega) h.z, m.blk (by omega) h.s, m.blk (by omega) h.n, own_same h.own fun g h1 h2 => hb g h2 (by omega), ?_, h.fields, h.moved.trans m, h.lt⟩
  exact ⟨h.rules.1.move m.size fun b hb' hS => ⟨hb b hb' (by have := hS.1; omega), hS⟩, h.rules.2.1.move m.size fun b hb' hS => ⟨hb b hb' (by have := hS.1; omega), hS⟩, h.rules.2.2.move m.size fun b hb' hS => ⟨hb b hb' (by have := hS.1; omega), hS⟩⟩
theorem SMid.step {D : Nat} {w : World} {y : Nat} {vt vn vs : Value} {r : RulesL} {vf v : Value} {F : List F2} {x : F2} {wr wA w2 : World} (h : SMid D w y vt vn vs r vf F wr) (hD : D < w.heap.size) (hb : Below wr.heap.size wr wA) (hg : wA.grownBy w2 vf.ownBlock)
    (hown : w2.ownsRow (y + 2) 42 2 v (F.length + 1) (F.flatMap encF ++ encF x)) (hx : FieldsD (F ++ [x])) : SMid D w y vt vn vs r v (F ++ [x]) (w2.setCell ⟨y, 0, none⟩ v) := by
  have hy := h.lt
  have zn : y + 1 < wr.heap.size := lt_of_blk h.n
  have hz := hb.size; have hz2 := hg.size
  have k1 : ∀ k, k < y + 2 → w2.heap[k]? = wr.heap[k]? := fun k hk => (hg.block k (by omega) (own_far h.own hk)).trans (hb.block k (by omega))
  have k2 : ∀ k, k < y + 2 → k ≠ y → (w2.setCell ⟨y, 0, none⟩ v).heap[k]? = wr.heap[k]? := fun k hk hne => (heap_setCell_other _ _ _ _ hne).trans (k1 k hk)
  have hs : (w2.setCell ⟨y, 0, none⟩ v).heap.size = w2.heap.size := by simp [World.setCell]
  refine ⟨(k2 _ (by omega) (by omega)).trans h.z, blk_set (i := 0) (v := v) ((k1 y (by omega)).trans h.s), (k2 _ (by omega) (by omega)).trans h.n, ?_, ?_, hx, ?_, hy⟩
  · rw [List.length_append, List.flatMap_append, show [x].flatMap encF = encF x by simp]
    exact own_same hown fun g h1 h2 => heap_setCell_other _ _ _ _ (by simp; omega)
  · have mv : ∀ b, b < wr.heap.size → (w.heap.size < b ∧ b < y) → (w2.setCell ⟨y, 0, none⟩ v).heap[b]? = wr.heap[b]? ∧ (w.heap.size < b ∧ b < y) := fun b _ hS => ⟨k2 b (by omega) (by omega), hS⟩
    exact ⟨h.rules.1.move (by omega) mv, h.rules.2.1.move (by omega) mv, h.rules.2.2.move (by omega) mv⟩
  · have m := h.moved
    refine ⟨⟨hg.os.trans (hb.os.trans m.grown.os), hg.tape.trans (hb.tape.trans m.grown.tape), hg.output.trans (hb.output.trans m.grown.output), by have := m.size; omega, fun k hk hr => ?_⟩, m.deck.same fun k hk => k2 k (by omega) (by omega), m.lt⟩
    exact (k2 k (by omega) (by omega)).trans (m.grown.block k hk hr)
def SchemaPost (D : Nat) (w : World) (e : Ending) (w' : World) : Prop := ∃ vf vt vn vs s, e = .returned (.agg #[vf, vt, vn, vs]) ∧ SchemaAt w' (fun b => w.heap.size ≤ b) vf vt vn vs s ∧ SchemaD s ∧ Moved D w w'
end Go.Proofs.YtfgoiojmbphmnaaGreatDoor
end
section
/- recordlinkmake: Schema: the walk. -/
set_option linter.unusedSimpArgs false
set_option linter.unusedVariables false
set_option maxRecDepth 100000
namespace Go.Proofs.YtfgoiojmbphmnaaGreatDoor
open Go.RowKit
attribute [local go_sem] toList_mk mk_size str_append
def kindsD : List Int := [1, 1, 2, 4, 3]
theorem kindsD_bd (k : Nat) (hk : k < 5) : 1 ≤ kindsD.getD k 0 ∧ kindsD.getD k 0 ≤ 4 := by
  have : ∀ j : Fin 5, 1 ≤ kindsD.getD j 0 ∧ kindsD.getD j 0 ≤ 4 := by decide
  exact this ⟨k, hk⟩
theorem kinds_cell {w : World} {b : Nat} (h : w.heap[b]? = some (.cells (kindsD.map (Value.int .i64)).toArray 3 (0, 0))) (k : Nat) (hk : k < 5) : w.cell? ⟨b, k, none⟩ = some (.int .i64 (kindsD.getD k 0)) := by
  rw [cell_of_row _ _ _ _ _ _ h, List.getElem?_toArray, List.getElem?_map]
  have : k < kindsD.length := hk
  rw [List.getD, List.getElem?_eq_getElem this]; rfl
set_option maxHeartbeats 8000000 in
theorem schema_deal (D : Nat) (w : World) (h : DeckAt w D) :
    Calls Tryz.prog 11 #[.pointer (some ⟨D, 0, none⟩)] w (SchemaPost D w) := by
  have zD := h.lt
  have M0 := Lib.hid (Moved.start h); clear h
  go_enter Tryz.func11, Tryz.ntmps11
  go_wp2_with fail
  refine (rules_deal D _ (M0.out.alloc _).deck).mono ?_
  rintro e w1 ⟨vt, vn, vs, r, rfl, hr, hd, mv⟩
  obtain ⟨at', ct, rfl⟩ := hr.1.slice
  obtain ⟨an, cn, rfl⟩ := hr.2.1.slice
  obtain ⟨as', cs, rfl⟩ := hr.2.2.slice
  have zw : w.heap.size < w1.heap.size := by have := mv.size; simp at this; omega
  have X1 := Lib.hid (show w1.heap[w.heap.size]? = some (.cells nil4 33 (0, 0)) from mv.blk (by omega) (blk_new rfl))
  have M1 := Lib.hid ((M0.out.alloc _).trans mv)
  have HR := Lib.hid hr; have HRD := Lib.hid hd
  clear hr hd mv
  go_wp2_with fail
  have K0 := Lib.hid (show SMid D w w1.heap.size (.slice at' r.titles.length ct) (.slice an r.nicks.length cn) (.slice as' r.streets.length cs) r (.slice none 0 0) [] ((w1.alloc (.cells #[.slice none 0 0, .slice at' r.titles.length ct, .slice an r.nicks.length cn, .slice as' r.streets.length cs] 33)).alloc (.cells (namesD.flatMap encS).toArray 9)) from
    ⟨blk_old (blk_old X1.out), blk_old (blk_new rfl), blk_new (by simp), ⟨rfl, .inl ⟨rfl, rfl⟩⟩, by
      have hb : Below w1.heap.size w1 ((w1.alloc (.cells #[.slice none 0 0, .slice at' r.titles.length ct, .slice an r.nicks.length cn, .slice as' r.streets.length cs] 33)).alloc (.cells (namesD.flatMap encS).toArray 9)) := ((Below.refl _ _).alloc (Nat.le_refl _) _).alloc (by simp) _
      have mvv : ∀ b, b < w1.heap.size → (w.alloc (.cells nil4 33)).heap.size ≤ b → _ ∧ (w.heap.size < b ∧ b < w1.heap.size) := fun b h1 h2 => ⟨hb.block b h1, by simp at h2; omega, h1⟩
      exact ⟨HR.out.1.move hb.size mvv, HR.out.2.1.move hb.size mvv, HR.out.2.2.move hb.size mvv⟩, FieldsD.nil, (M1.out.alloc _).alloc _, zw⟩)
  refine (next_any D _ 4 K0.out.moved.deck (by omega) (by omega)).mono ?_
  rintro e w2 ⟨q, rfl, q0, q1, mv⟩
  obtain ⟨q, rfl⟩ := Int.eq_ofNat_of_zero_le q0
  have K1 := Lib.hid (K0.out.gone zD mv)
  clear mv K0 X1 M1 HR M0
  go_wp2_with fail
  go_loopw [6] (fun i wr => ∃ (k : Nat) (F : List F2) (vf : Value), i = .int .i64 k ∧ k ≤ 1 + q ∧ F.length = k ∧ SMid D w w1.heap.size (.slice at' r.titles.length ct) (.slice an r.nicks.length cn) (.slice as' r.streets.length cs) r vf F wr) (fun i _ => 1 + q - (intOf i).toNat)
  case atStart => exact ⟨0, [], _, rfl, by omega, rfl, K1.out⟩
  case round =>
    obtain ⟨k, F, vf, rfl, hk, hF, hm⟩ := hrel
    have HF := Lib.hid hF; have KM := Lib.hid hm
    clear hm hF K1
    by_cases hlt : k < 1 + q
    · have hq : decide ((k : Int) < 1 + q) = true := by simp; omega
      have hix : (k : Int) < 5 := by omega
      have hc : (wr.alloc (.cells #[.int .i64 1, .int .i64 1, .int .i64 2, .int .i64 4, .int .i64 3] 3)).cell? ⟨wr.heap.size, k, none⟩ = _ := kinds_cell (w := wr.alloc (.cells (kindsD.map (Value.int .i64)).toArray 3)) (b := wr.heap.size) (blk_new rfl) k (by omega)
      obtain ⟨kb1, kb2⟩ := kindsD_bd k (by omega)
      obtain ⟨kd, hkd⟩ : ∃ kd, kindsD.getD k 0 = kd := ⟨_, rfl⟩
      rw [hkd] at hc kb1 kb2
      clear hkd
      go_wp2_with fail
      refine (one_any D _ 4 (KM.out.moved.alloc _).deck (by omega) (by omega)).mono ?_
      rintro e w3 ⟨u, rfl, mv⟩
      have KN := Lib.hid (KM.out.gone zD (((Moved.start KM.out.moved.deck).alloc _).trans mv))
      clear hc mv
      go_upto_if 25 with (fail)
      go_cut [7] (fun s7 wx => ∃ kd : Int, s7 = .int .i64 kd ∧ 1 ≤ kd ∧ kd ≤ 4 ∧ SMid D w w1.heap.size (.slice at' r.titles.length ct) (.slice an r.nicks.length cn) (.slice as' r.streets.length cs) r vf F wx)
      case first =>
        cases u
        · go_wp2_with fail
          go_meet
          exact ⟨kd, rfl, kb1, kb2, KN.out⟩
        · go_wp2_with fail
          refine (next_any D _ 4 KN.out.moved.deck (by omega) (by omega)).mono ?_
          rintro e w4 ⟨p, rfl, p0, p1, mv⟩
          have KO := Lib.hid (KN.out.gone zD mv)
          clear mv
          go_wp2_with fail
          go_meet
          exact ⟨1 + p, rfl, by omega, by omega, KO.out⟩
      case rest =>
        obtain ⟨kx, rfl, kx1, kx2, hm⟩ := hcut
        have KX := Lib.hid hm
        clear hm KM KN kb1 kb2
        obtain ⟨av, cv, hav⟩ := own_slice KX.out.own
        rw [HF.out] at hav
        subst hav
        have cY := (cells4 KX.out.s).1
        have cN := KX.out.n.cell k (by show k < 5; omega)
        have zY := lt_of_blk KX.out.n
        have zY0 : w1.heap.size < wc.heap.size := by omega
        obtain ⟨nm, hnm⟩ : ∃ nm, namesD.getD k [] = nm := ⟨_, rfl⟩
        rw [hnm] at cN
        have HNM := Lib.hid hnm; clear hnm
        go_wp2_with fail
        have hown := own_below KX.out.own (((Below.refl _ _).alloc (Nat.le_refl _) (.cells #[strV nm, .int .i64 kx] 42)).drew)
        have hnews : ∀ j u, [strV nm, Value.int .i64 kx][j]? = some u → ((wc.alloc (.cells #[strV nm, .int .i64 kx] 42)).drew).cell? ((⟨wc.heap.size, 0, none⟩ : Addr).add j) = some u := fun j u hu => by
          rw [add_plain, World.cell?_drew, cell_of_row _ _ _ _ _ _ (heap_alloc_new wc _), Nat.zero_add]; simpa using hu
        have hone : ∀ u ∈ [strV nm, Value.int .i64 kx], u.oneCell' = true := by intro u hu; simp at hu; rcases hu with rfl | rfl <;> rfl
        obtain ⟨i0, hi, hz0, hz1, hz2⟩ := info_parts infoF
        have hbA := ((Below.refl _ wc).alloc (Nat.le_refl _) (.cells #[strV nm, .int .i64 kx] 42)).drew
        have HBA := Lib.hid hbA; have HOwn := Lib.hid hown; have HNews := Lib.hid hnews; have HOne := Lib.hid hone; have HI := Lib.hid hi; have HZ0 := Lib.hid hz0; have HZ1 := Lib.hid hz1; have HZ2 := Lib.hid hz2
        have fY := (frozen_of_row _ _ _ _ _ KX.out.s : wc.frozen? ⟨w1.heap.size, 0, none⟩ = false)
        clear hbA hown hnews hone hi hz0 hz1 hz2
        rw [HF.out] at HOwn
        go_region_law (((refine step_append_lies _ rfl (.tmp 30) (.tmp 37) 27 (by rfl) (w1.heap.size + 2) 42 i0 (.agg #[.string ⟨#[]⟩, .int .i64 0]) 2 24 Tryz.underlying27 HI.out HZ0.out HZ1.out HZ2.out rfl (by decide) (.slice av k cv) k (F.flatMap encF) (by rfl) HOwn.out ⟨wc.heap.size, 0, none⟩ 1 1 [strV nm, .int .i64 kx] (by rfl) rfl HNews.out HOne.out (by omega) (by unfold maxLen; omega) (by omega) (by simp; omega) (wc.heap.size + 1) (by simp) ?_); intro g cap w5 hown5 hg5 hat5 hlt5; have cY5 := (hg5.cell_far ⟨w1.heap.size, 0, none⟩ (by simp; omega) (own_far HOwn.out (by show w1.heap.size < _; omega))).trans ((HBA.out.cell (p := ⟨w1.heap.size, 0, none⟩) (by show w1.heap.size < _; omega)).trans cY); have fY5 := (hg5.frozen_far ⟨w1.heap.size, 0, none⟩ (by simp; omega) (own_far HOwn.out (by show w1.heap.size < _; omega))).trans ((HBA.out.frozen (p := ⟨w1.heap.size, 0, none⟩) (by show w1.heap.size < _; omega)).trans fY)))
        all_goals
          have hfd := KX.out.fields.snoc (by rw [HF.out]; omega) kx1 kx2
          rw [HF.out, HNM.out] at hfd
          have hown6 := hown5
          rw [show F.flatMap encF ++ [strV nm, .int .i64 kx] = F.flatMap encF ++ encF (nm, kx) from rfl, ← HF.out] at hown6
          have KS := Lib.hid (KX.out.step (x := (nm, kx)) zD HBA.out hg5 hown6 hfd)
          rw [HF.out] at KS
          clear hfd hown6 hown5 hg5 hat5 cY5 fY5
          go_wp2_with fail
          go_roundw
          case rel => exact ⟨k + 1, F ++ [(nm, kx)], _, by go_num, by omega, by rw [List.length_append, HF.out]; rfl, KS.out⟩
          case measure => simp [intOf]; omega
    · have hq : decide ((k : Int) < 1 + q) = false := by simp; omega
      obtain ⟨av, cv, hav⟩ := own_slice KM.out.own
      subst hav
      have HZ := Lib.hid KM.out.z
      have HM := Lib.hid KM.out.moved
      have HR := Lib.hid KM.out.rules
      have HO := Lib.hid KM.out.own
      have HFd := Lib.hid KM.out.fields
      obtain ⟨c0, c1, c2, c3⟩ := cells4 KM.out.s
      obtain ⟨d0, d1, d2, d3⟩ := cells4 KM.out.z
      have g0 := (frozen_of_row _ _ _ _ _ KM.out.z : wr.frozen? ⟨w.heap.size, 0, none⟩ = false)
      have g1 := (frozen_of_row _ _ _ _ _ KM.out.z : wr.frozen? ⟨w.heap.size, 1, none⟩ = false)
      have g2 := (frozen_of_row _ _ _ _ _ KM.out.z : wr.frozen? ⟨w.heap.size, 2, none⟩ = false)
      have g3 := (frozen_of_row _ _ _ _ _ KM.out.z : wr.frozen? ⟨w.heap.size, 3, none⟩ = false)
      have z0 := lt_of_blk KM.out.z
      have z1 := lt_of_blk KM.out.s
      clear KM
      go_wp2_with fail
      have hz := (blk_set (i := 3) (v := (.slice as' r.streets.length cs)) (blk_set (i := 2) (v := (.slice an r.nicks.length cn)) (blk_set (i := 1) (v := (.slice at' r.titles.length ct)) (blk_set (i := 0) (v := (.slice av F.length cv)) HZ.out))))
      have hm := ((((HM.out.set (a := ⟨w.heap.size, 0, none⟩) (Nat.le_refl _) (.slice av F.length cv)).set (a := ⟨w.heap.size, 1, none⟩) (Nat.le_refl _) (.slice at' r.titles.length ct)).set (a := ⟨w.heap.size, 2, none⟩) (Nat.le_refl _) (.slice an r.nicks.length cn)).set (a := ⟨w.heap.size, 3, none⟩) (Nat.le_refl _) (.slice as' r.streets.length cs))
      have hv := (((((Vec.owns (k := 2) (enc := encF) (S := fun b => w.heap.size < b) (fun _ => rfl) HO.out (fun b h1 _ => by omega)).set1 (a := ⟨w.heap.size, 0, none⟩) (fun b h => Nat.ne_of_gt h) (.slice av F.length cv)).set1 (a := ⟨w.heap.size, 1, none⟩) (fun b h => Nat.ne_of_gt h) (.slice at' r.titles.length ct)).set1 (a := ⟨w.heap.size, 2, none⟩) (fun b h => Nat.ne_of_gt h) (.slice an r.nicks.length cn)).set1 (a := ⟨w.heap.size, 3, none⟩) (fun b h => Nat.ne_of_gt h) (.slice as' r.streets.length cs))
      have ht := (((((HR.out.1.weaken (S' := fun b => w.heap.size < b) fun b h => h.1).set1 (a := ⟨w.heap.size, 0, none⟩) (fun b h => Nat.ne_of_gt h) (.slice av F.length cv)).set1 (a := ⟨w.heap.size, 1, none⟩) (fun b h => Nat.ne_of_gt h) (.slice at' r.titles.length ct)).set1 (a := ⟨w.heap.size, 2, none⟩) (fun b h => Nat.ne_of_gt h) (.slice an r.nicks.length cn)).set1 (a := ⟨w.heap.size, 3, none⟩) (fun b h => Nat.ne_of_gt h) (.slice as' r.streets.length cs))
      have hn := (((((HR.out.2.1.weaken (S' := fun b => w.heap.size < b) fun b h => h.1).set1 (a := ⟨w.heap.size, 0, none⟩) (fun b h => Nat.ne_of_gt h) (.slice av F.length cv)).set1 (a := ⟨w.heap.size, 1, none⟩) (fun b h => Nat.ne_of_gt h) (.slice at' r.titles.length ct)).set1 (a := ⟨w.heap.size, 2, none⟩) (fun b h => Nat.ne_of_gt h) (.slice an r.nicks.length cn)).set1 (a := ⟨w.heap.size, 3, none⟩) (fun b h => Nat.ne_of_gt h) (.slice as' r.streets.length cs))
      have hs := (((((HR.out.2.2.weaken (S' := fun b => w.heap.size < b) fun b h => h.1).set1 (a := ⟨w.heap.size, 0, none⟩) (fun b h => Nat.ne_of_gt h) (.slice av F.length cv)).set1 (a := ⟨w.heap.size, 1, none⟩) (fun b h => Nat.ne_of_gt h) (.slice at' r.titles.length ct)).set1 (a := ⟨w.heap.size, 2, none⟩) (fun b h => Nat.ne_of_gt h) (.slice an r.nicks.length cn)).set1 (a := ⟨w.heap.size, 3, none⟩) (fun b h => Nat.ne_of_gt h) (.slice as' r.streets.length cs))
      have hw : ∀ b, w.heap.size < b → w.heap.size ≤ b := fun b h => Nat.le_of_lt h
      have hF1 : 1 ≤ F.length := by have := HF.out; omega
      exact bodyPost_row1 rfl rfl hz Tryz.underlying33 rfl (by kernel_rfl) ⟨_, _, _, _, ⟨F, r⟩, rfl, ⟨hv.weaken hw, ht.weaken hw, hn.weaken hw, hs.weaken hw⟩, ⟨HFd.out, hF1, HRD.out⟩, hm⟩
end Go.Proofs.YtfgoiojmbphmnaaGreatDoor
end
section
/- What the laws that deal a schema share: where they stand behind it. -/
set_option linter.unusedSimpArgs false
set_option linter.unusedVariables false
set_option maxRecDepth 100000
namespace Go.Proofs.YtfgoiojmbphmnaaGreatDoor
open Go.RowKit Cal
attribute [local go_sem] toList_mk mk_size str_append
theorem SchemaAt.moved {D : Nat} {w w' : World} {S : Nat → Prop} {vf vt vn vs : Value} {s : SchemaL} (h : SchemaAt w S vf vt vn vs s) (hS : ∀ b, S b → b ≠ D) (m : Moved D w w') : SchemaAt w' S vf vt vn vs s :=
  have mv : ∀ b, b < w.heap.size → S b → w'.heap[b]? = w.heap[b]? ∧ S b := fun b hb hs => ⟨m.grown.block b hb (by have := hS b hs; simp; omega), hs⟩
  ⟨h.1.move m.size mv, h.2.1.move m.size mv, h.2.2.1.move m.size mv, h.2.2.2.move m.size mv⟩
theorem fields_cell {w : World} {S : Nat → Prop} {a : Option Addr} {n cap : Nat} {F : List F2} (h : Vec w S 2 encF (.slice a n cap) F) (h0 : 0 < F.length) : ∃ b off, a = some ⟨b, off, none⟩ ∧ S b ∧ b < w.heap.size ∧ ∀ j, j < F.length → w.cell? ⟨b, off + j * 2 + 1, none⟩ = some (.int .i64 (F.getD j default).2) := by
  obtain ⟨b, off, e, hS, hb, hc⟩ := vec_cell2 h h0
  exact ⟨b, off, e, hS, hb, fun j hj => hc j hj 1 _ rfl⟩
/-- where a law stands that has dealt a schema: the deck in block D, the schema in block y, the kind of a field in cell o of block b -/
structure Drawn (D : Nat) (w : World) (y : Nat) (S : Nat → Prop) (vf vt vn vs : Value) (s : SchemaL) (b o : Nat) (kf : Int) (wr : World) : Prop where
  m : Moved D w wr
  x : wr.heap[y]? = some (.cells #[vf, vt, vn, vs] 33 (0, 0))
  s : SchemaAt wr S vf vt vn vs s
  c : wr.cell? ⟨b, o, none⟩ = some (.int .i64 kf)
  ne : ∀ b, S b → b ≠ D
  yD : y ≠ D
  bD : b ≠ D
theorem Drawn.moved {D : Nat} {w : World} {y : Nat} {S : Nat → Prop} {vf vt vn vs : Value} {s : SchemaL} {b o : Nat} {kf : Int} {wr wd : World} (h : Drawn D w y S vf vt vn vs s b o kf wr) (m : Moved D wr wd) : Drawn D w y S vf vt vn vs s b o kf wd :=
  ⟨h.m.trans m, m.blk h.yD h.x, h.s.moved h.ne m, (World.cell?_of_block (w := wr) (a := ⟨b, o, none⟩) (m.grown.block b (World.block_lt_of_cell? _ ⟨b, o, none⟩ h.c) (by have := h.bD; simp; omega))).trans h.c, h.ne, h.yD, h.bD⟩
theorem Drawn.below {D : Nat} {w : World} {y : Nat} {S : Nat → Prop} {vf vt vn vs : Value} {s : SchemaL} {b o : Nat} {kf : Int} {wr wd : World} (h : Drawn D w y S vf vt vn vs s b o kf wr) (hb : Below wr.heap.size wr wd) : Drawn D w y S vf vt vn vs s b o kf wd :=
  h.moved ((Moved.start h.m.deck).below hb)
theorem Drawn.held {D : Nat} {w : World} {y : Nat} {S : Nat → Prop} {vf vt vn vs : Value} {s : SchemaL} {b o : Nat} {kf : Int} {wr : World} (h : Drawn D w y S vf vt vn vs s b o kf wr) :
    wr.cell? ⟨y, 0, none⟩ = some vf ∧ wr.cell? ⟨y, 1, none⟩ = some vt ∧ wr.cell? ⟨y, 2, none⟩ = some vn ∧ wr.cell? ⟨y, 3, none⟩ = some vs ∧ wr.cell? ⟨b, o, none⟩ = some (.int .i64 kf) := by
  obtain ⟨p0, p1, p2, p3⟩ := cells4 h.x
  exact ⟨p0, p1, p2, p3, h.c⟩
end Go.Proofs.YtfgoiojmbphmnaaGreatDoor
end
section
/- Plain: a text cut at a byte (strings.Cut, strings.Split at a separator of one byte). -/
set_option linter.unusedSimpArgs false
set_option linter.unusedVariables false
namespace Go.Proofs.YtfgoiojmbphmnaaGreatDoor
/-- the parts of a text between single bytes c; p is the part that has begun -/
def splC (c : UInt8) : List UInt8 → List UInt8 → List (List UInt8)
  | p, [] => [p]
  | p, x :: r => if x == c then p :: splC c [] r else splC c (p ++ [x]) r
theorem splC_ne (c : UInt8) (l : List UInt8) : ∀ p, splC c p l ≠ [] := by
  induction l with
  | nil => intro p; simp [splC]
  | cons x l ih => intro p; simp only [splC]; split <;> simp [ih]
theorem splC_run (c : UInt8) (t : List UInt8) (h : c ∉ t) : ∀ p r, splC c p (t ++ r) = splC c (p ++ t) r := by
  induction t with
  | nil => intro p r; simp
  | cons x t ih =>
    intro p r
    have hx : (x == c) = false := by
      have : c ≠ x := fun e => h (by simp [e])
      simpa using fun e => this e.symm
    rw [List.cons_append, splC, hx, if_neg (by simp), ih (fun hb => h (List.mem_cons_of_mem _ hb)), List.append_assoc]
    rfl
theorem splC_no (c : UInt8) (t : List UInt8) (h : c ∉ t) (p : List UInt8) : splC c p t = [p ++ t] := by
  have := splC_run c t h p []
  rw [List.append_nil] at this
  rw [this]; rfl
theorem splC_at (c : UInt8) (a b : List UInt8) (h : c ∉ a) (p : List UInt8) : splC c p (a ++ c :: b) = (p ++ a) :: splC c [] b := by
  rw [splC_run c a h]; simp [splC]
/-- where c stands first -/
theorem byte_cases (c : UInt8) (l : List UInt8) : c ∉ l ∨ ∃ a b, l = a ++ c :: b ∧ c ∉ a := by
  by_cases h : c ∈ l
  · right
    induction l with
    | nil => simp at h
    | cons x l ih =>
      by_cases e : x = c
      · exact ⟨[], l, by rw [e]; rfl, by simp⟩
      · have h' : c ∈ l := by
          rcases List.mem_cons.1 h with h1 | h1
          · exact absurd h1.symm e
          · exact h1
        obtain ⟨a, b, e1, e2⟩ := ih h'
        exact ⟨x :: a, b, by rw [e1]; rfl, by
          intro hm
          rcases List.mem_cons.1 hm with h1 | h1
          · exact e h1.symm
          · exact e2 h1⟩
  · exact .inl h
theorem index_not (c : UInt8) (l : List UInt8) (h : c ∉ l) : Lib.index l [c] = -1 := by
  induction l with
  | nil => rfl
  | cons x l ih =>
    have hx : c ≠ x := fun e => h (by simp [e])
    have h1 := ih fun hb => h (List.mem_cons_of_mem _ hb)
    unfold Lib.index
    rw [if_neg (by simp [List.isPrefixOf, hx]), if_pos (by rw [h1]; rfl)]
theorem index_at (c : UInt8) (a b : List UInt8) (h : c ∉ a) : Lib.index (a ++ c :: b) [c] = a.length := by
  induction a with
  | nil => simp [Lib.index, List.isPrefixOf]
  | cons x a ih =>
    have hx : c ≠ x := fun e => h (by simp [e])
    have h1 := ih fun hb => h (List.mem_cons_of_mem _ hb)
    rw [List.cons_append]
    unfold Lib.index
    rw [if_neg (by simp [List.isPrefixOf, hx]), h1, if_neg (by simp)]
    simp
theorem count_not (c : UInt8) (l : List UInt8) (h : c ∉ l) (f : Nat) : Lib.countFrom [c] f l = 0 := by
  cases f with
  | zero => rfl
  | succ f => unfold Lib.countFrom; rw [index_not c l h]; rfl
theorem count_at (c : UInt8) (a b : List UInt8) (h : c ∉ a) (f : Nat) : Lib.countFrom [c] (f + 1) (a ++ c :: b) = 1 + Lib.countFrom [c] f b := by
  rw [Lib.countFrom, index_at c a b h, if_neg (by simp)]
  congr 2
  simp
theorem splitK_spl (c : UInt8) : ∀ (n : Nat) (l : List UInt8), l.length ≤ n → ∀ f, l.length < f → Lib.splitK [c] 0 (Lib.countFrom [c] f l) l = splC c [] l ∧ Lib.countFrom [c] f l + 1 = (splC c [] l).length := by
  intro n
  induction n with
  | zero =>
    intro l hl f hf
    have : l = [] := List.length_eq_zero_iff.1 (by omega)
    subst this
    rw [count_not c [] (by simp)]
    exact ⟨rfl, rfl⟩
  | succ n ih =>
    intro l hl f hf
    rcases byte_cases c l with h | ⟨a, b, rfl, h⟩
    · rw [count_not c l h, splC_no c l h]
      exact ⟨rfl, rfl⟩
    · obtain ⟨g, rfl⟩ : ∃ g, f = g + 1 := ⟨f - 1, by omega⟩
      rw [List.length_append, List.length_cons] at hl hf
      obtain ⟨h1, h2⟩ := ih b (by omega) g (by omega)
      rw [count_at c a b h, splC_at c a b h, show 1 + Lib.countFrom [c] g b = Lib.countFrom [c] g b + 1 by omega]
      refine ⟨?_, by rw [List.length_cons, ← h2]⟩
      rw [Lib.splitK, index_at c a b h, if_neg (by simp)]
      rw [show (a ++ c :: b).take (((a.length : Int)).toNat + 0) = a by simp]
      rw [show (a ++ c :: b).drop (((a.length : Int)).toNat + [c].length) = b by simp]
      rw [h1]; rfl
/-- a text cut at its first byte c -/
theorem cut_not (c : UInt8) (l : List UInt8) (h : c ∉ l) : Lib.cut l [c] = (l, [], false) := by
  unfold Lib.cut; rw [index_not c l h]; rfl
theorem cut_at (c : UInt8) (a b : List UInt8) (h : c ∉ a) : Lib.cut (a ++ c :: b) [c] = (a, b, true) := by
  unfold Lib.cut
  rw [index_at c a b h, if_pos (by omega)]
  simp
end Go.Proofs.YtfgoiojmbphmnaaGreatDoor
end
section
/- Plain law: the text of a valid schema leads back to it; a text that is read is the text of what is read. -/
set_option linter.unusedSimpArgs false
set_option linter.unusedVariables false
set_option maxRecDepth 100000
namespace Go.Proofs.YtfgoiojmbphmnaaGreatDoor
open Go.RowKit Cal
def kindNum (x : List UInt8) : Int := if x = kindW 1 then 1 else if x = kindW 2 then 2 else if x = kindW 3 then 3 else if x = kindW 4 then 4 else 0
def fieldW : List UInt8 := [102, 105, 101, 108, 100]
def titleW : List UInt8 := [116, 105, 116, 108, 101]
def nickW : List UInt8 := [110, 105, 99, 107, 110, 97, 109, 101]
def streetW : List UInt8 := [115, 116, 114, 101, 101, 116]
def addF (s : SchemaL) (x : F2) : SchemaL := ⟨s.fields ++ [x], s.rules⟩
def addT (s : SchemaL) (x : List UInt8) : SchemaL := ⟨s.fields, ⟨s.rules.titles ++ [x], s.rules.nicks, s.rules.streets⟩⟩
def addN (s : SchemaL) (x : P2) : SchemaL := ⟨s.fields, ⟨s.rules.titles, s.rules.nicks ++ [x], s.rules.streets⟩⟩
def addS (s : SchemaL) (x : P2) : SchemaL := ⟨s.fields, ⟨s.rules.titles, s.rules.nicks, s.rules.streets ++ [x]⟩⟩
/-- what a line declares: the place of its sort, -1 for none; and the schema with it -/
def readN (s : SchemaL) (W : List (List UInt8)) : Int × SchemaL :=
  if [] ∈ W then (-1, s) else
  match W with
  | [a, b, c] =>
    if a = fieldW then (if kindNum c = 0 then (-1, s) else (0, addF s (b, kindNum c)))
    else if a = nickW then (2, addN s (b, c)) else if a = streetW then (3, addS s (b, c)) else (-1, s)
  | [a, b] => if a = titleW then (1, addT s b) else (-1, s)
  | _ => (-1, s)
def parseA : List UInt8 → SchemaL → Int → List UInt8 → Option SchemaL
  | p, s, _, [] => if p = [] then some s else none
  | p, s, last, c :: r => if c == 10 then (if (readN s (splC 32 [] p)).1 < last then none else parseA [] (readN s (splC 32 [] p)).2 (readN s (splC 32 [] p)).1 r) else parseA (p ++ [c]) s last r
def nilS : SchemaL := ⟨[], ⟨[], [], []⟩⟩
def parseN (t : List UInt8) : SchemaL × Int :=
  if 65536 < t.length then (nilS, 1) else match parseA [] nilS 0 t with
    | none => (nilS, 14)
    | some s => if checkS s = 0 then (s, 0) else (nilS, checkS s)
theorem splA_ne (l : List UInt8) : ∀ p, splC 32 p l ≠ [] := splC_ne 32 l
theorem join_spl (l : List UInt8) : ∀ p, joinL (splC 32 p l) = p ++ l := by
  induction l with
  | nil => intro p; simp [splC, joinL]
  | cons c l ih =>
    intro p
    simp only [splC]
    split
    · rename_i hc
      have hc' : c = 32 := by simpa using hc
      have := ih []
      cases h : splC 32 [] l with
      | nil => exact absurd h (splA_ne l [])
      | cons a L =>
        rw [h] at this
        simp only [joinL]
        rw [this, hc']; simp
    · rw [ih]; simp
/-- a word: not empty, of letters -/
def okW (t : List UInt8) : Prop := t ≠ [] ∧ ∀ b ∈ t, b ≠ 32 ∧ b ≠ 10
theorem splA_run (t : List UInt8) (h : ∀ b ∈ t, b ≠ 32 ∧ b ≠ 10) : ∀ p r, splC 32 p (t ++ r) = splC 32 (p ++ t) r := by
  induction t with
  | nil => intro p r; simp
  | cons c t ih =>
    intro p r
    have hc : (c == 32) = false := by simpa using (h c List.mem_cons_self).1
    rw [List.cons_append, splC, hc, if_neg (by simp), ih (fun b hb => h b (List.mem_cons_of_mem _ hb)), List.append_assoc]
    rfl
theorem spl_join : ∀ (L : List (List UInt8)), (∀ t ∈ L, okW t) → L ≠ [] → splC 32 [] (joinL L) = L := by
  intro L
  induction L with
  | nil => intro _ h; exact absurd rfl h
  | cons t L ih =>
    intro h _
    obtain ⟨h1, h2⟩ := h t List.mem_cons_self
    cases L with
    | nil =>
      rw [show joinL [t] = t ++ [] by simp [joinL], splA_run t h2]; simp [splC]
    | cons u L =>
      have hr := ih (fun x hx => h x (List.mem_cons_of_mem _ hx)) (by simp)
      show splC 32 [] (t ++ [32] ++ joinL (u :: L)) = _
      rw [List.append_assoc, splA_run t h2]
      simp only [List.nil_append, List.cons_append, splC]
      rw [hr]; rfl
theorem parseA_run (t : List UInt8) (h : ∀ b ∈ t, b ≠ 10) : ∀ p s last r, parseA p s last (t ++ r) = parseA (p ++ t) s last r := by
  induction t with
  | nil => intro p s last r; simp
  | cons c t ih =>
    intro p s last r
    have hc : (c == 10) = false := by simpa using h c List.mem_cons_self
    rw [List.cons_append, parseA, hc, if_neg (by simp), ih (fun b hb => h b (List.mem_cons_of_mem _ hb)), List.append_assoc]
    rfl
theorem join_no10 : ∀ (L : List (List UInt8)), (∀ t ∈ L, okW t) → ∀ b ∈ joinL L, b ≠ 10 := by
  intro L
  induction L with
  | nil => intro _ b hb; simp [joinL] at hb
  | cons t L ih =>
    intro h b hb
    obtain ⟨h1, h2⟩ := h t List.mem_cons_self
    cases L with
    | nil => exact (h2 b (by simpa [joinL] using hb)).2
    | cons u L =>
      simp only [joinL, List.mem_append, List.mem_singleton] at hb
      rcases hb with (hb | hb) | hb
      · exact (h2 b hb).2
      · subst hb; decide
      · exact ih (fun x hx => h x (List.mem_cons_of_mem _ hx)) b hb
/-- a line that is made of words -/
theorem parse_line (L : List (List UInt8)) (h : ∀ t ∈ L, okW t) (hL : L ≠ []) (s : SchemaL) (last : Int) (r : List UInt8) :
    parseA [] s last (joinL L ++ [10] ++ r) = if (readN s L).1 < last then none else parseA [] (readN s L).2 (readN s L).1 r := by
  rw [List.append_assoc, parseA_run _ (join_no10 L h)]
  simp only [List.nil_append, List.cons_append, parseA]
  rw [spl_join L h hL]; rfl
theorem kindNum_W (k : Int) (h1 : 1 ≤ k) (h4 : k ≤ 4) : kindNum (kindW k) = k ∧ okW (kindW k) := by
  obtain rfl | rfl | rfl | rfl : k = 1 ∨ k = 2 ∨ k = 3 ∨ k = 4 := by omega
  all_goals exact ⟨by decide, by unfold okW; decide⟩
theorem kindW_num (x : List UInt8) (h : kindNum x ≠ 0) : kindW (kindNum x) = x ∧ 1 ≤ kindNum x ∧ kindNum x ≤ 4 := by
  unfold kindNum at h ⊢
  split
  · rename_i e; exact ⟨e.symm, by omega, by omega⟩
  · split
    · rename_i e; exact ⟨e.symm, by omega, by omega⟩
    · split
      · rename_i e; exact ⟨e.symm, by omega, by omega⟩
      · split
        · rename_i e; exact ⟨e.symm, by omega, by omega⟩
        · rename_i h1 h2 h3 h4; simp [h1, h2, h3, h4] at h
theorem readN_field (s : SchemaL) (b : List UInt8) (k : Int) (hb : okW b) (h1 : 1 ≤ k) (h4 : k ≤ 4) : readN s [fieldW, b, kindW k] = (0, addF s (b, k)) := by
  obtain ⟨k1, k2⟩ := kindNum_W k h1 h4
  unfold readN
  rw [if_neg (by simp only [List.mem_cons, List.not_mem_nil, or_false]; rintro (h | h | h); exact absurd h (by decide); exact hb.1 h.symm; exact k2.1 h.symm)]
  dsimp only
  rw [if_pos rfl, k1, if_neg (by omega)]
theorem readN_title (s : SchemaL) (b : List UInt8) (hb : okW b) : readN s [titleW, b] = (1, addT s b) := by
  unfold readN
  rw [if_neg (by simp only [List.mem_cons, List.not_mem_nil, or_false]; rintro (h | h); exact absurd h (by decide); exact hb.1 h.symm)]
  dsimp only
  rw [if_pos rfl]
theorem readN_nick (s : SchemaL) (b c : List UInt8) (hb : okW b) (hc : okW c) : readN s [nickW, b, c] = (2, addN s (b, c)) := by
  unfold readN
  rw [if_neg (by simp only [List.mem_cons, List.not_mem_nil, or_false]; rintro (h | h | h); exact absurd h (by decide); exact hb.1 h.symm; exact hc.1 h.symm)]
  dsimp only
  rw [if_neg (by decide), if_pos rfl]
theorem readN_street (s : SchemaL) (b c : List UInt8) (hb : okW b) (hc : okW c) : readN s [streetW, b, c] = (3, addS s (b, c)) := by
  unfold readN
  rw [if_neg (by simp only [List.mem_cons, List.not_mem_nil, or_false]; rintro (h | h | h); exact absurd h (by decide); exact hb.1 h.symm; exact hc.1 h.symm)]
  dsimp only
  rw [if_neg (by decide), if_neg (by decide), if_pos rfl]
theorem back_fields (R : List UInt8) : ∀ (F F0 : List F2), (∀ x ∈ F, okW x.1 ∧ 1 ≤ x.2 ∧ x.2 ≤ 4) → ∀ T N S, parseA [] ⟨F0, ⟨T, N, S⟩⟩ 0 (F.flatMap fieldLine ++ R) = parseA [] ⟨F0 ++ F, ⟨T, N, S⟩⟩ 0 R := by
  intro F
  induction F with
  | nil => intro F0 _ T N S; simp
  | cons x F ih =>
    intro F0 h T N S
    obtain ⟨h1, h2, h3⟩ := h x List.mem_cons_self
    obtain ⟨k1, k2⟩ := kindNum_W x.2 h2 h3
    have hw : ∀ t ∈ [fieldW, x.1, kindW x.2], okW t := by
      intro t ht; simp at ht
      rcases ht with rfl | rfl | rfl
      · unfold okW; decide
      · exact h1
      · exact k2
    rw [List.flatMap_cons, List.append_assoc]
    unfold fieldLine
    rw [show ([102, 105, 101, 108, 100] : List UInt8) = fieldW from rfl, parse_line _ hw (by simp)]
    rw [readN_field _ _ _ h1 h2 h3]
    dsimp only
    rw [if_neg (by decide)]
    have := ih (F0 ++ [(x.1, x.2)]) (fun y hy => h y (List.mem_cons_of_mem _ hy)) T N S
    unfold fieldLine at this
    unfold addF
    rw [show ([102, 105, 101, 108, 100] : List UInt8) = fieldW from rfl] at this
    rw [this]; simp
theorem back_titles (R : List UInt8) (F : List F2) (N S : List P2) : ∀ (T T0 : List (List UInt8)), (∀ x ∈ T, okW x) → ∀ last, last ≤ 1 → ∃ l', l' ≤ 1 ∧ parseA [] ⟨F, ⟨T0, N, S⟩⟩ last (T.flatMap titleLine ++ R) = parseA [] ⟨F, ⟨T0 ++ T, N, S⟩⟩ l' R := by
  intro T
  induction T with
  | nil => intro T0 _ last hl; exact ⟨last, hl, by simp⟩
  | cons x T ih =>
    intro T0 h last hl
    have h1 := h x List.mem_cons_self
    have hw : ∀ t ∈ [titleW, x], okW t := by
      intro t ht; simp at ht
      rcases ht with rfl | rfl
      · unfold okW; decide
      · exact h1
    obtain ⟨l', hl', he⟩ := ih (T0 ++ [x]) (fun y hy => h y (List.mem_cons_of_mem _ hy)) 1 (by omega)
    refine ⟨l', hl', ?_⟩
    rw [List.flatMap_cons, List.append_assoc]
    unfold titleLine at he ⊢
    rw [show ([116, 105, 116, 108, 101] : List UInt8) = titleW from rfl] at he ⊢
    rw [parse_line _ hw (by simp)]
    rw [readN_title _ _ h1]
    dsimp only
    rw [if_neg (by omega)]
    unfold addT
    dsimp only
    rw [he]; simp
theorem back_nicks (R : List UInt8) (F : List F2) (T : List (List UInt8)) (S : List P2) : ∀ (N N0 : List P2), (∀ x ∈ N, okW x.1 ∧ okW x.2) → ∀ last, last ≤ 2 → ∃ l', l' ≤ 2 ∧ parseA [] ⟨F, ⟨T, N0, S⟩⟩ last (N.flatMap nickLine ++ R) = parseA [] ⟨F, ⟨T, N0 ++ N, S⟩⟩ l' R := by
  intro N
  induction N with
  | nil => intro N0 _ last hl; exact ⟨last, hl, by simp⟩
  | cons x N ih =>
    intro N0 h last hl
    obtain ⟨h1, h2⟩ := h x List.mem_cons_self
    have hw : ∀ t ∈ [nickW, x.1, x.2], okW t := by
      intro t ht; simp at ht
      rcases ht with rfl | rfl | rfl
      · unfold okW; decide
      · exact h1
      · exact h2
    obtain ⟨l', hl', he⟩ := ih (N0 ++ [x]) (fun y hy => h y (List.mem_cons_of_mem _ hy)) 2 (by omega)
    refine ⟨l', hl', ?_⟩
    rw [List.flatMap_cons, List.append_assoc]
    unfold nickLine at he ⊢
    rw [show ([110, 105, 99, 107, 110, 97, 109, 101] : List UInt8) = nickW from rfl] at he ⊢
    rw [parse_line _ hw (by simp)]
    rw [readN_nick _ _ _ h1 h2]
    dsimp only
    rw [if_neg (by omega)]
    unfold addN
    dsimp only
    rw [he]; simp
theorem back_streets (R : List UInt8) (F : List F2) (T : List (List UInt8)) (N : List P2) : ∀ (S S0 : List P2), (∀ x ∈ S, okW x.1 ∧ okW x.2) → ∀ last, last ≤ 3 → ∃ l', l' ≤ 3 ∧ parseA [] ⟨F, ⟨T, N, S0⟩⟩ last (S.flatMap streetLine ++ R) = parseA [] ⟨F, ⟨T, N, S0 ++ S⟩⟩ l' R := by
  intro S
  induction S with
  | nil => intro S0 _ last hl; exact ⟨last, hl, by simp⟩
  | cons x S ih =>
    intro S0 h last hl
    obtain ⟨h1, h2⟩ := h x List.mem_cons_self
    have hw : ∀ t ∈ [streetW, x.1, x.2], okW t := by
      intro t ht; simp at ht
      rcases ht with rfl | rfl | rfl
      · unfold okW; decide
      · exact h1
      · exact h2
    obtain ⟨l', hl', he⟩ := ih (S0 ++ [x]) (fun y hy => h y (List.mem_cons_of_mem _ hy)) 3 (by omega)
    refine ⟨l', hl', ?_⟩
    rw [List.flatMap_cons, List.append_assoc]
    unfold streetLine at he ⊢
    rw [show ([115, 116, 114, 101, 101, 116] : List UInt8) = streetW from rfl] at he ⊢
    rw [parse_line _ hw (by simp)]
    rw [readN_street _ _ _ h1 h2]
    dsimp only
    rw [if_neg (by omega)]
    unfold addS
    dsimp only
    rw [he]; simp
theorem letters_ok {t : List UInt8} (h : (lettersL t == t) = true) : ∀ b ∈ t, b ≠ 32 ∧ b ≠ 10 := by
  intro b hb
  have e : lettersL t = t := by simpa using h
  rw [← e] at hb
  have := (List.mem_filter.1 hb).2
  rw [low_iff, decide_eq_true_iff] at this
  constructor <;> (intro e; subst e; simp at this)
theorem token_okW {t : List UInt8} (h : tokenB t = true) : okW t := by
  unfold tokenB at h
  cases h1 : t.isEmpty
  · simp [h1] at h
    exact ⟨by simpa using h1, letters_ok (by simpa using h.2)⟩
  · simp [h1] at h
theorem word_okW {t : List UInt8} (h : wordB t = true) : okW t := by
  unfold wordB at h
  cases h1 : t.isEmpty
  · simp [h1] at h
    exact ⟨by simpa using h1, letters_ok (by simpa using h.2)⟩
  · simp [h1] at h
theorem check_words {s : SchemaL} (h : checkS s = 0) : (∀ x ∈ s.fields, okW x.1 ∧ 1 ≤ x.2 ∧ x.2 ≤ 4) ∧ (∀ t ∈ s.rules.titles, okW t) ∧ (∀ p ∈ s.rules.nicks, okW p.1 ∧ okW p.2) ∧ (∀ p ∈ s.rules.streets, okW p.1 ∧ okW p.2) := by
  obtain ⟨_, h2, h3⟩ := check_fields h
  obtain ⟨_, t1, t2, t3, _⟩ := check_zero h3
  have pr : ∀ L : List P2, pairsB L = true → ∀ p ∈ L, okW p.1 ∧ okW p.2 := fun L hL => getD_mem fun j hj => by
    have := pairs_at hL j hj
    unfold pairAtB at this
    simp only [Bool.and_eq_true] at this
    exact ⟨token_okW this.1.1.1, token_okW this.1.1.2⟩
  refine ⟨getD_mem fun j hj => ?_, ?_, pr _ t2, pr _ t3⟩
  · have h5 := field_kind h2 j hj
    have := List.all_eq_true.1 h2 j (List.mem_range.2 hj)
    unfold fieldAtB at this
    simp only [Bool.and_eq_true] at this
    exact ⟨word_okW this.1.1.1, h5⟩
  · refine getD_mem fun j hj => ?_
    have := List.all_eq_true.1 t1 j (List.mem_range.2 hj)
    unfold titleAt at this
    simp only [Bool.and_eq_true] at this
    exact token_okW this.1
theorem text_bound {s : SchemaL} (h : checkS s = 0) : (textL s).length ≤ 14000 := by
  obtain ⟨g1, g2, g3⟩ := check_fields h
  obtain ⟨⟨n1, n2, n3⟩, _⟩ := check_zero g3
  obtain ⟨l1, l2, l3, l4⟩ := check_lens h
  have B1 := flat_bound (g := fieldLine) (m := 40) s.fields (fun x hx => by have := l1 x hx; have := kindW_len x.2; unfold fieldLine; rw [List.length_append, join3_len]; simp; omega)
  have B2 := flat_bound (g := titleLine) (m := 80) s.rules.titles (fun x hx => by have := l2 x hx; unfold titleLine; rw [List.length_append, join2_len]; simp; omega)
  have B3 := flat_bound (g := nickLine) (m := 160) s.rules.nicks (fun x hx => by have := l3 x hx; unfold nickLine; rw [List.length_append, join3_len]; simp; omega)
  have B4 := flat_bound (g := streetLine) (m := 160) s.rules.streets (fun x hx => by have := l4 x hx; unfold streetLine; rw [List.length_append, join3_len]; simp; omega)
  unfold textL
  simp only [List.length_append]
  omega
/-- the text of a valid schema leads back to it -/
theorem parse_text {s : SchemaL} (h : checkS s = 0) : parseN (textL s) = (s, 0) := by
  obtain ⟨w1, w2, w3, w4⟩ := check_words h
  have hb := text_bound h
  have hp : parseA [] nilS 0 (textL s) = some s := by
    unfold textL nilS
    rw [back_fields _ s.fields [] w1]
    obtain ⟨l1, k1, e1⟩ := back_titles (s.rules.nicks.flatMap nickLine ++ s.rules.streets.flatMap streetLine) ([] ++ s.fields) [] [] s.rules.titles [] w2 0 (by omega)
    rw [e1]
    obtain ⟨l2, k2, e2⟩ := back_nicks (s.rules.streets.flatMap streetLine) ([] ++ s.fields) ([] ++ s.rules.titles) [] s.rules.nicks [] w3 l1 (by omega)
    rw [e2]
    obtain ⟨l3, k3, e3⟩ := back_streets [] ([] ++ s.fields) ([] ++ s.rules.titles) ([] ++ s.rules.nicks) s.rules.streets [] w4 l2 (by omega)
    rw [List.append_nil] at e3
    rw [e3]
    simp [parseA]
  unfold parseN
  rw [if_neg (by omega), hp]
  dsimp only
  rw [if_pos h]
/-- nothing of a later sort is there yet -/
def Inv (s : SchemaL) (last : Int) : Prop := 0 ≤ last ∧ (last < 1 → s.rules.titles = []) ∧ (last < 2 → s.rules.nicks = []) ∧ (last < 3 → s.rules.streets = [])
theorem read_text {s : SchemaL} {last : Int} (hI : Inv s last) (W : List (List UInt8)) (h : ¬ (readN s W).1 < last) :
    Inv (readN s W).2 (readN s W).1 ∧ textL (readN s W).2 = textL s ++ (joinL W ++ [10]) := by
  obtain ⟨i0, i1, i2, i3⟩ := hI
  obtain ⟨F, ⟨T, N, S⟩⟩ := s
  dsimp only at i1 i2 i3
  unfold readN at h ⊢
  split at h
  · exfalso; apply h; show (-1 : Int) < last; omega
  · rename_i hn
    rw [if_neg hn]
    split at h
    · rename_i a b c
      split at h
      · rename_i ha
        subst ha
        rw [if_pos rfl]
        split at h
        · exfalso; apply h; show (-1 : Int) < last; omega
        · rename_i hk
          rw [if_neg hk]
          obtain ⟨e, k1, k4⟩ := kindW_num c hk
          have h' : last = 0 := by simp at h; omega
          subst h'
          have e1 := i1 (by omega); have e2 := i2 (by omega); have e3 := i3 (by omega)
          subst e1 e2 e3
          refine ⟨⟨show (0 : Int) ≤ 0 by decide, fun _ => rfl, fun _ => rfl, fun _ => rfl⟩, ?_⟩
          simp [textL, addF, fieldLine, e, fieldW]
      · rename_i ha
        rw [if_neg ha]
        split at h
        · rename_i hb
          subst hb
          rw [if_pos rfl]
          have h' : last ≤ 2 := by simp at h; omega
          have e3 := i3 (by omega)
          subst e3
          refine ⟨⟨show (0 : Int) ≤ 2 by decide, fun h => absurd (show (2 : Int) < 1 from h) (by decide), fun h => absurd (show (2 : Int) < 2 from h) (by decide), fun _ => rfl⟩, ?_⟩
          simp [textL, addN, nickLine, nickW]
        · rename_i hb
          rw [if_neg hb]
          split at h
          · rename_i hc
            subst hc
            rw [if_pos rfl]
            refine ⟨⟨show (0 : Int) ≤ 3 by decide, fun h => absurd (show (3 : Int) < 1 from h) (by decide), fun h => absurd (show (3 : Int) < 2 from h) (by decide), fun h => absurd (show (3 : Int) < 3 from h) (by decide)⟩, ?_⟩
            simp [textL, addS, streetLine, streetW]
          · exfalso; apply h; show (-1 : Int) < last; omega
    · rename_i a b
      split at h
      · rename_i ha
        subst ha
        rw [if_pos rfl]
        have h' : last ≤ 1 := by simp at h; omega
        have e2 := i2 (by omega); have e3 := i3 (by omega)
        subst e2 e3
        refine ⟨⟨show (0 : Int) ≤ 1 by decide, fun h => absurd (show (1 : Int) < 1 from h) (by decide), fun _ => rfl, fun _ => rfl⟩, ?_⟩
        simp [textL, addT, titleLine, titleW]
      · exfalso; apply h; show (-1 : Int) < last; omega
    · exfalso; apply h; show (-1 : Int) < last; omega
theorem parseA_text (t : List UInt8) : ∀ p s last s', Inv s last → parseA p s last t = some s' → textL s' = textL s ++ (p ++ t) := by
  induction t with
  | nil =>
    intro p s last s' _ h
    simp only [parseA] at h
    split at h
    · rename_i hp; subst hp; cases h; simp
    · cases h
  | cons c t ih =>
    intro p s last s' hI h
    simp only [parseA] at h
    split at h
    · rename_i hc
      have hc' : c = 10 := by simpa using hc
      split at h
      · cases h
      · rename_i hk
        obtain ⟨hI', ht⟩ := read_text hI (splC 32 [] p) hk
        rw [ih _ _ _ _ hI' h, ht, join_spl, hc']; simp
    · rw [ih _ _ _ _ hI h]; simp
/-- a text that is read is the text of what is read, and that is valid -/
theorem parse_back {t : List UInt8} {s : SchemaL} (h : parseN t = (s, 0)) : checkS s = 0 ∧ textL s = t := by
  unfold parseN at h
  split at h
  · simp at h
  · split at h
    · simp at h
    · rename_i s' hs
      split at h
      · rename_i hc
        obtain ⟨rfl, _⟩ := Prod.mk.inj h
        refine ⟨hc, ?_⟩
        have := parseA_text t [] nilS 0 s' ⟨by omega, fun _ => rfl, fun _ => rfl, fun _ => rfl⟩ hs
        rw [this]; rfl
      · rename_i hc; exact absurd (Prod.mk.inj h).2 hc
end Go.Proofs.YtfgoiojmbphmnaaGreatDoor
end
section
/-
  DERIVED: THE SHELF's CONTRACTS AT THIS DUMP, IN PLAIN WORDS (tools/lay-plain.mjs out of 'TryzIter.lean', which tools/lay-shelf.mjs wrote): THE SAME DECLARATIONS UNDER THE SAME NAMES: 'import', 'namespace', 'open', 'def', 'theorem' AND NOTHING ELSE: no command of the shelf's: FOR A HAND-IN. Each laying: the table of numbers ('.._ren') and one theorem, a field a fact of the dump's own or the kernel's comparison; each contract: ONE APPLICATION.
-/
namespace Go.Proofs
open Go.Shelf
def Tryz.keys160_ren : Go.Shelf.Ren := ⟨fun | 7 => 160 | 10 => 176 | n => n, fun | 23 => 151 | 26 => 9 | 3 => 152 | 28 => 141 | 0 => 0 | 27 => 127 | 33 => 64 | 4 => 4 | n => n, fun | n => n⟩
theorem Tryz.keys160 : Go.Proofs.SlLaysZ.n7 Tryz.prog Tryz.keys160_ren := {
  mixed := by kernel_rfl
  f7 := ⟨Tryz.f160.name, by decide, Tryz.func160.trans (congrArg some (by kernel_rfl))⟩
  f10 := ⟨Tryz.f176.name, by decide, Tryz.func176.trans (congrArg some (by kernel_rfl))⟩
  t0 := Tryz.underlying0
  a0 := Tryz.isAgg0
  z0 := Tryz.sizeOf0
  v0 := Tryz.zeroValue0
  t4 := Tryz.underlying4
  a4 := Tryz.isAgg4
  z4 := Tryz.sizeOf4
  v4 := Tryz.zeroValue4
  t23 := Tryz.underlying151
  a23 := Tryz.isAgg151
  z23 := Tryz.sizeOf151
  v23 := Tryz.zeroValue151
  t26 := Tryz.underlying9
  a26 := Tryz.isAgg9
  z26 := Tryz.sizeOf9
  v26 := Tryz.zeroValue9
  t27 := Tryz.underlying127
  a27 := Tryz.isAgg127
  z27 := Tryz.sizeOf127
  v27 := Tryz.zeroValue127
  t28 := Tryz.underlying141
  a28 := Tryz.isAgg141
  z28 := Tryz.sizeOf141
  v28 := Tryz.zeroValue141
  t33 := Tryz.underlying64
  a33 := Tryz.isAgg64
  z33 := Tryz.sizeOf64
  v33 := Tryz.zeroValue64 }
def Tryz.sorted159_ren : Go.Shelf.Ren := ⟨fun | 6 => 159 | 8 => 120 | 9 => 175 | 11 => 147 | 13 => 186 | 12 => 185 | 23 => 199 | 24 => 200 | 14 => 190 | 15 => 191 | 16 => 192 | 17 => 193 | 18 => 194 | 19 => 195 | 20 => 196 | 21 => 197 | 22 => 198 | 25 => 202 | 26 => 203 | 27 => 204 | 28 => 205 | 29 => 206 | 30 => 207 | 31 => 210 | n => n, fun | 26 => 9 | 28 => 141 | 24 => 28 | 0 => 0 | 3 => 3 | 37 => 74 | 48 => 172 | 50 => 69 | 4 => 4 | 40 => 185 | 39 => 184 | 45 => 133 | 5 => 5 | 9 => 9 | 51 => 194 | 55 => 197 | 57 => 199 | 58 => 200 | 33 => 64 | n => n, fun | n => n⟩
theorem Tryz.sorted159 : Go.Proofs.SlLaysZ.n6 Tryz.prog Tryz.sorted159_ren := {
  mixed := by kernel_rfl
  f6 := ⟨Tryz.f159.name, by decide, Tryz.func159.trans (congrArg some (by kernel_rfl))⟩
  f8 := ⟨Tryz.f120.name, by decide, Tryz.func120.trans (congrArg some (by kernel_rfl))⟩
  f11 := ⟨Tryz.f147.name, by decide, Tryz.func147.trans (congrArg some (by kernel_rfl))⟩
  t0 := Tryz.underlying0
  a0 := Tryz.isAgg0
  z0 := Tryz.sizeOf0
  v0 := Tryz.zeroValue0
  t24 := Tryz.underlying28
  a24 := Tryz.isAgg28
  z24 := Tryz.sizeOf28
  v24 := Tryz.zeroValue28
  t26 := Tryz.underlying9
  a26 := Tryz.isAgg9
  z26 := Tryz.sizeOf9
  v26 := Tryz.zeroValue9
  t28 := Tryz.underlying141
  a28 := Tryz.isAgg141
  z28 := Tryz.sizeOf141
  v28 := Tryz.zeroValue141
  i26 := by kernel_rfl }
def Tryz.sort175_ren : Go.Shelf.Ren := ⟨fun | 6 => 175 | 8 => 186 | 9 => 185 | 19 => 199 | 20 => 200 | 21 => 190 | 22 => 191 | 23 => 192 | 24 => 193 | 25 => 194 | 26 => 195 | 27 => 196 | 28 => 197 | 29 => 198 | 36 => 202 | 31 => 203 | 32 => 204 | 37 => 205 | 38 => 206 | 39 => 207 | 41 => 210 | n => n, fun | 27 => 28 | 29 => 9 | 3 => 3 | 32 => 74 | 26 => 28 | 0 => 0 | 44 => 172 | 46 => 69 | 4 => 4 | 36 => 185 | 35 => 184 | 41 => 133 | 5 => 5 | 9 => 9 | 53 => 194 | 57 => 197 | 63 => 199 | 64 => 200 | n => n, fun | n => n⟩
theorem Tryz.sort175 : Go.Proofs.SlLaysM.n6 Tryz.prog Tryz.sort175_ren := {
  mixed := by kernel_rfl
  f6 := ⟨Tryz.f175.name, by decide, Tryz.func175.trans (congrArg some (by kernel_rfl))⟩
  f8 := Tryz.func186.trans (congrArg some (by kernel_rfl))
  f9 := ⟨Tryz.f185.name, by decide, Tryz.func185.trans (congrArg some (by kernel_rfl))⟩
  f19 := Tryz.func199.trans (congrArg some (by kernel_rfl))
  f20 := Tryz.func200.trans (congrArg some (by kernel_rfl))
  f21 := ⟨Tryz.f190.name, by decide, Tryz.func190.trans (congrArg some (by kernel_rfl))⟩
  f22 := ⟨Tryz.f191.name, by decide, Tryz.func191.trans (congrArg some (by kernel_rfl))⟩
  f23 := ⟨Tryz.f192.name, by decide, Tryz.func192.trans (congrArg some (by kernel_rfl))⟩
  f24 := ⟨Tryz.f193.name, by decide, Tryz.func193.trans (congrArg some (by kernel_rfl))⟩
  f25 := ⟨Tryz.f194.name, by decide, Tryz.func194.trans (congrArg some (by kernel_rfl))⟩
  f26 := ⟨Tryz.f195.name, by decide, Tryz.func195.trans (congrArg some (by kernel_rfl))⟩
  f27 := ⟨Tryz.f196.name, by decide, Tryz.func196.trans (congrArg some (by kernel_rfl))⟩
  f28 := ⟨Tryz.f197.name, by decide, Tryz.func197.trans (congrArg some (by kernel_rfl))⟩
  f29 := ⟨Tryz.f198.name, by decide, Tryz.func198.trans (congrArg some (by kernel_rfl))⟩
  f31 := Tryz.func203.trans (congrArg some (by kernel_rfl))
  f32 := Tryz.func204.trans (congrArg some (by kernel_rfl))
  f36 := ⟨Tryz.f202.name, by decide, Tryz.func202.trans (congrArg some (by kernel_rfl))⟩
  f37 := ⟨Tryz.f205.name, by decide, Tryz.func205.trans (congrArg some (by kernel_rfl))⟩
  f38 := ⟨Tryz.f206.name, by decide, Tryz.func206.trans (congrArg some (by kernel_rfl))⟩
  f39 := ⟨Tryz.f207.name, by decide, Tryz.func207.trans (congrArg some (by kernel_rfl))⟩
  f41 := ⟨Tryz.f210.name, by decide, Tryz.func210.trans (congrArg some (by kernel_rfl))⟩
  t0 := Tryz.underlying0
  a0 := Tryz.isAgg0
  z0 := Tryz.sizeOf0
  v0 := Tryz.zeroValue0
  t3 := Tryz.underlying3
  a3 := Tryz.isAgg3
  z3 := Tryz.sizeOf3
  v3 := Tryz.zeroValue3
  t4 := Tryz.underlying4
  a4 := Tryz.isAgg4
  z4 := Tryz.sizeOf4
  v4 := Tryz.zeroValue4
  t5 := Tryz.underlying5
  a5 := Tryz.isAgg5
  z5 := Tryz.sizeOf5
  v5 := Tryz.zeroValue5
  t9 := Tryz.underlying9
  a9 := Tryz.isAgg9
  z9 := Tryz.sizeOf9
  v9 := Tryz.zeroValue9
  t26 := Tryz.underlying28
  a26 := Tryz.isAgg28
  z26 := Tryz.sizeOf28
  v26 := Tryz.zeroValue28
  t27 := Tryz.underlying28
  a27 := Tryz.isAgg28
  z27 := Tryz.sizeOf28
  v27 := Tryz.zeroValue28
  t29 := Tryz.underlying9
  a29 := Tryz.isAgg9
  z29 := Tryz.sizeOf9
  v29 := Tryz.zeroValue9
  t32 := Tryz.underlying74
  a32 := Tryz.isAgg74
  z32 := Tryz.sizeOf74
  v32 := Tryz.zeroValue74
  t35 := Tryz.underlying184
  a35 := Tryz.isAgg184
  z35 := Tryz.sizeOf184
  v35 := Tryz.zeroValue184
  t36 := Tryz.underlying185
  a36 := Tryz.isAgg185
  z36 := Tryz.sizeOf185
  v36 := Tryz.zeroValue185
  t41 := Tryz.underlying133
  a41 := Tryz.isAgg133
  z41 := Tryz.sizeOf133
  v41 := Tryz.zeroValue133
  t44 := Tryz.underlying172
  a44 := Tryz.isAgg172
  z44 := Tryz.sizeOf172
  v44 := Tryz.zeroValue172
  t46 := Tryz.underlying69
  a46 := Tryz.isAgg69
  z46 := Tryz.sizeOf69
  v46 := Tryz.zeroValue69
  t53 := Tryz.underlying194
  a53 := Tryz.isAgg194
  z53 := Tryz.sizeOf194
  v53 := Tryz.zeroValue194
  t57 := Tryz.underlying197
  a57 := Tryz.isAgg197
  z57 := Tryz.sizeOf197
  v57 := Tryz.zeroValue197
  t63 := Tryz.underlying199
  a63 := Tryz.isAgg199
  z63 := Tryz.sizeOf199
  v63 := Tryz.zeroValue199
  t64 := Tryz.underlying200
  a64 := Tryz.isAgg200
  z64 := Tryz.sizeOf200
  v64 := Tryz.zeroValue200 }
def Tryz.collect_ren : Go.Shelf.Ren := ⟨fun | 8 => 120 | 11 => 147 | n => n, fun | 26 => 9 | 28 => 141 | 24 => 28 | 0 => 0 | 33 => 64 | 4 => 4 | n => n, fun | n => n⟩
theorem Tryz.collect : Go.Proofs.SlLaysZ.n8 Tryz.prog Tryz.collect_ren := {
  mixed := by kernel_rfl
  f8 := ⟨Tryz.f120.name, by decide, Tryz.func120.trans (congrArg some (by kernel_rfl))⟩
  f11 := ⟨Tryz.f147.name, by decide, Tryz.func147.trans (congrArg some (by kernel_rfl))⟩
  t0 := Tryz.underlying0
  a0 := Tryz.isAgg0
  z0 := Tryz.sizeOf0
  v0 := Tryz.zeroValue0
  t24 := Tryz.underlying28
  a24 := Tryz.isAgg28
  z24 := Tryz.sizeOf28
  v24 := Tryz.zeroValue28
  t26 := Tryz.underlying9
  a26 := Tryz.isAgg9
  z26 := Tryz.sizeOf9
  v26 := Tryz.zeroValue9
  t28 := Tryz.underlying141
  a28 := Tryz.isAgg141
  z28 := Tryz.sizeOf141
  v28 := Tryz.zeroValue141
  i26 := by kernel_rfl }
end Go.Proofs
end
section
/- A schema that is being read: a block of four lists, which the call owns; what an append to one of them leaves. The words of the kinds, collected. -/
set_option linter.unusedSimpArgs false
set_option linter.unusedVariables false
set_option maxRecDepth 100000
namespace Go.Proofs.YtfgoiojmbphmnaaGreatDoor
open Go.RowKit Cal
attribute [local go_sem] toList_mk mk_size
structure PAt (B Y : Nat) (vf vt vn vs : Value) (s : SchemaL) (w : World) : Prop where
  y : w.heap[Y]? = some (.cells #[vf, vt, vn, vs] 33 (0, 0))
  f : w.ownsRow B 42 2 vf s.fields.length (s.fields.flatMap encF)
  t : w.ownsRow B 9 1 vt s.rules.titles.length (s.rules.titles.flatMap encS)
  n : w.ownsRow B 83 2 vn s.rules.nicks.length (s.rules.nicks.flatMap encP)
  s : w.ownsRow B 83 2 vs s.rules.streets.length (s.rules.streets.flatMap encP)
  ne : vn.ownBlock = none ∨ vn.ownBlock ≠ vs.ownBlock
  B : B ≤ Y
theorem PAt.below {B Y : Nat} {vf vt vn vs : Value} {s : SchemaL} {w w' : World} (h : PAt B Y vf vt vn vs s w) (hb : Below w.heap.size w w') : PAt B Y vf vt vn vs s w' :=
  ⟨blk_below hb (lt_of_blk h.y) h.y, own_below h.f hb, own_below h.t hb, own_below h.n hb, own_below h.s hb, h.ne, h.B⟩
theorem own_ne {w : World} {B B' e e' k k' m n : Nat} {u v : Value} {ys xs : List Value} (h : w.ownsRow B e k u m ys) (h' : w.ownsRow B' e' k' v n xs) (hne : e ≠ e') : u.ownBlock = none ∨ u.ownBlock ≠ v.ownBlock := by
  rcases h.2 with ⟨rfl, _⟩ | ⟨g, cap, cur, rfl, _, hg, _⟩
  · exact .inl rfl
  · refine .inr fun e1 => ?_
    rcases h'.2 with ⟨rfl, _⟩ | ⟨g', cap', cur', rfl, _, hg', _⟩
    · simp [Value.ownBlock] at e1
    · have : g = g' := by simpa [Value.ownBlock] using e1
      subst this
      rw [hg] at hg'
      injection hg' with e2
      injection e2 with _ e3
      exact hne e3
theorem own_type {w : World} {B e k n Y : Nat} {v : Value} {xs : List Value} {cs : Array Value} {t : TypeId} (h : w.ownsRow B e k v n xs) (hY : w.heap[Y]? = some (.cells cs t (0, 0))) (ht : t ≠ e) : some Y ≠ v.ownBlock := by
  intro e1
  rcases h.2 with ⟨rfl, _⟩ | ⟨g', cap', cur', rfl, _, hh, _⟩
  · simp [Value.ownBlock] at e1
  · have : Y = g' := by simpa [Value.ownBlock] using e1
    subst this
    rw [hh] at hY; injection hY with e2; injection e2 with _ e3; exact ht e3.symm
theorem PAt.far_f {B Y : Nat} {vf vt vn vs : Value} {s : SchemaL} {w : World} (h : PAt B Y vf vt vn vs s w) : some Y ≠ vf.ownBlock := own_type h.f h.y (by decide)
theorem PAt.far_t {B Y : Nat} {vf vt vn vs : Value} {s : SchemaL} {w : World} (h : PAt B Y vf vt vn vs s w) : some Y ≠ vt.ownBlock := own_type h.t h.y (by decide)
theorem PAt.far_n {B Y : Nat} {vf vt vn vs : Value} {s : SchemaL} {w : World} (h : PAt B Y vf vt vn vs s w) : some Y ≠ vn.ownBlock := own_type h.n h.y (by decide)
theorem PAt.far_s {B Y : Nat} {vf vt vn vs : Value} {s : SchemaL} {w : World} (h : PAt B Y vf vt vn vs s w) : some Y ≠ vs.ownBlock := own_type h.s h.y (by decide)
theorem row_step {w wA w2 : World} {B e k m Y i : Nat} {u x v : Value} {ys : List Value} {cs : Array Value} {t : TypeId} (h : w.ownsRow B e k u m ys) (hb : Below w.heap.size w wA) (hg : wA.grownBy w2 x.ownBlock) (hx : u.ownBlock = none ∨ u.ownBlock ≠ x.ownBlock)
    (hY : w.heap[Y]? = some (.cells cs t (0, 0))) (ht : t ≠ e) : (w2.setCell ⟨Y, i, none⟩ v).ownsRow B e k u m ys := by
  refine ⟨h.1, ?_⟩
  rcases h.2 with h0 | ⟨g, cap, cur, rfl, hg1, hh, rest⟩
  · exact .inl h0
  · have hlt := lt_of_blk hh
    have hne : g ≠ Y := by
      intro e1; subst e1; rw [hh] at hY; injection hY with e2; injection e2 with _ e3; exact ht e3.symm
    have hx' : some g ≠ x.ownBlock := by
      rcases hx with h1 | h1
      · simp [Value.ownBlock] at h1
      · simpa [Value.ownBlock] using h1
    refine .inr ⟨g, cap, cur, rfl, hg1, ?_, rest⟩
    rw [heap_setCell_other _ _ _ _ hne, hg.block g (by have := hb.size; omega) hx', hb.block g hlt]
    exact hh
theorem row_new {w2 : World} {B e k m Y i : Nat} {u v : Value} {ys : List Value} (h : w2.ownsRow B e k u m ys) (hY : u.ownBlock ≠ some Y) : (w2.setCell ⟨Y, i, none⟩ v).ownsRow B e k u m ys := by
  refine ⟨h.1, ?_⟩
  rcases h.2 with h0 | ⟨g, cap, cur, rfl, hg1, hh, rest⟩
  · exact .inl h0
  · exact .inr ⟨g, cap, cur, rfl, hg1, by rw [heap_setCell_other _ _ _ _ (by intro e; exact hY (by simp [Value.ownBlock, e]))]; exact hh, rest⟩
/-- what an append to one of the lists and the store behind it give: the new list's block is the old one's or new -/
structure Step1 (B Y i e k : Nat) (x : Value) (w w' : World) (n : Nat) (xs : List Value) (v : Value) : Prop where
  own : w'.ownsRow B e k v n xs
  blk : ∀ {e' k' m : Nat} {u : Value} {ys : List Value}, w.ownsRow B e' k' u m ys → (u.ownBlock = none ∨ u.ownBlock ≠ x.ownBlock) → e' ≠ 33 → w'.ownsRow B e' k' u m ys ∧ (u.ownBlock = none ∨ u.ownBlock ≠ v.ownBlock) ∧ (v.ownBlock = none ∨ v.ownBlock ≠ u.ownBlock)
  bel : Below B w w'
theorem step1 {B Y i e k : Nat} {x : Value} {w wA w2 : World} {n m g cap : Nat} {xs ys : List Value} {cs : Array Value} (hY : w.heap[Y]? = some (.cells cs 33 (0, 0))) (hB : B ≤ Y) (he : e ≠ 33) (hx : w.ownsRow B e k x m ys)
    (hb : Below w.heap.size w wA) (hg : wA.grownBy w2 x.ownBlock) (hown : w2.ownsRow B e k (.slice (some ⟨g, 0, none⟩) n cap) n xs) (hat : x.ownBlock = some g ∨ g = wA.heap.size) (hBw : B ≤ w.heap.size) :
    Step1 B Y i e k x w (w2.setCell ⟨Y, i, none⟩ (.slice (some ⟨g, 0, none⟩) n cap)) n xs (.slice (some ⟨g, 0, none⟩) n cap) := by
  have zY := lt_of_blk hY
  have hsz := hb.size
  have hgY : g ≠ Y := by
    rcases hat with h | h
    · intro e1; subst e1
      rcases hx.2 with ⟨rfl, _⟩ | ⟨g', cap', cur', rfl, _, hh, _⟩
      · simp [Value.ownBlock] at h
      · have : g' = g := by simpa [Value.ownBlock] using h
        subst this
        rw [hh] at hY; injection hY with e2; injection e2 with _ e3; exact he e3
    · omega
  refine ⟨row_new hown (by simp [Value.ownBlock]; exact hgY), ?_, ?_⟩
  · intro e' k' m' u ys' hu hne he'
    refine ⟨row_step hu hb hg hne hY (fun e => he' e.symm), ?_⟩
    have key : u.ownBlock ≠ some g := by
      intro e1
      rcases hat with h | h
      · rcases hne with h1 | h1
        · rw [h1] at e1; cases e1
        · exact h1 (e1.trans h.symm)
      · rcases hu.2 with ⟨rfl, _⟩ | ⟨g', cap', cur', rfl, _, hh, _⟩
        · simp [Value.ownBlock] at e1
        · have := lt_of_blk hh
          have : g' = g := by simpa [Value.ownBlock] using e1
          omega
    exact ⟨.inr (by simpa [Value.ownBlock] using key), .inr (by simpa [Value.ownBlock] using fun h => key h.symm)⟩
  · have k1 : ∀ k, k < B → w2.heap[k]? = w.heap[k]? := fun k hk => (hg.block k (by omega) (own_far hx hk)).trans (hb.block k (by omega))
    refine ⟨hg.os.trans hb.os, hg.tape.trans hb.tape, hg.output.trans hb.output, ?_, fun k hk => ?_⟩
    · have := hg.size; simp [World.setCell]; omega
    · rw [heap_setCell_other _ _ _ _ (show k ≠ Y by omega)]; exact k1 k hk
theorem PAt.addF {B Y : Nat} {vf vt vn vs : Value} {s : SchemaL} {w wA w2 : World} (h : PAt B Y vf vt vn vs s w) (hBw : B ≤ w.heap.size) (x : F2) {g cap : Nat} (hb : Below w.heap.size w wA) (hg : wA.grownBy w2 vf.ownBlock)
    (hown : w2.ownsRow B 42 2 (.slice (some ⟨g, 0, none⟩) (s.fields.length + 1) cap) (s.fields.length + 1) (s.fields.flatMap encF ++ encF x)) (hat : vf.ownBlock = some g ∨ g = wA.heap.size) :
    PAt B Y (.slice (some ⟨g, 0, none⟩) (s.fields.length + 1) cap) vt vn vs (addF s x) (w2.setCell ⟨Y, 0, none⟩ (.slice (some ⟨g, 0, none⟩) (s.fields.length + 1) cap)) ∧ Below B w (w2.setCell ⟨Y, 0, none⟩ (.slice (some ⟨g, 0, none⟩) (s.fields.length + 1) cap)) := by
  have S1 := step1 (i := 0) h.y h.B (by decide) h.f hb hg hown hat hBw
  have hy2 : w2.heap[Y]? = _ := ((hg.block Y (by have := hb.size; have := lt_of_blk h.y; omega) (by
    intro e1
    rcases h.f.2 with ⟨rfl, _⟩ | ⟨g', cap', cur', rfl, _, hh, _⟩
    · simp [Value.ownBlock] at e1
    · have : Y = g' := by simpa [Value.ownBlock] using e1
      subst this
      have := h.y; rw [hh] at this; injection this with e2; injection e2 with _ e3; revert e3; decide)).trans (hb.block Y (lt_of_blk h.y))).trans h.y
  have o1 := S1.blk h.t (own_ne h.t h.f (by decide)) (by decide)
  have o2 := S1.blk h.n (own_ne h.n h.f (by decide)) (by decide)
  have o3 := S1.blk h.s (own_ne h.s h.f (by decide)) (by decide)
  refine ⟨⟨blk_set (i := 0) hy2, ?_, o1.1, o2.1, o3.1, h.ne, h.B⟩, S1.bel⟩
  simpa [Proofs.YtfgoiojmbphmnaaGreatDoor.addF] using S1.own
theorem PAt.addT {B Y : Nat} {vf vt vn vs : Value} {s : SchemaL} {w wA w2 : World} (h : PAt B Y vf vt vn vs s w) (hBw : B ≤ w.heap.size) (x : List UInt8) {g cap : Nat} (hb : Below w.heap.size w wA) (hg : wA.grownBy w2 vt.ownBlock)
    (hown : w2.ownsRow B 9 1 (.slice (some ⟨g, 0, none⟩) (s.rules.titles.length + 1) cap) (s.rules.titles.length + 1) (s.rules.titles.flatMap encS ++ encS x)) (hat : vt.ownBlock = some g ∨ g = wA.heap.size) :
    PAt B Y vf (.slice (some ⟨g, 0, none⟩) (s.rules.titles.length + 1) cap) vn vs (addT s x) (w2.setCell ⟨Y, 1, none⟩ (.slice (some ⟨g, 0, none⟩) (s.rules.titles.length + 1) cap)) ∧ Below B w (w2.setCell ⟨Y, 1, none⟩ (.slice (some ⟨g, 0, none⟩) (s.rules.titles.length + 1) cap)) := by
  have S1 := step1 (i := 1) h.y h.B (by decide) h.t hb hg hown hat hBw
  have hy2 : w2.heap[Y]? = _ := ((hg.block Y (by have := hb.size; have := lt_of_blk h.y; omega) (by
    intro e1
    rcases h.t.2 with ⟨rfl, _⟩ | ⟨g', cap', cur', rfl, _, hh, _⟩
    · simp [Value.ownBlock] at e1
    · have : Y = g' := by simpa [Value.ownBlock] using e1
      subst this
      have := h.y; rw [hh] at this; injection this with e2; injection e2 with _ e3; revert e3; decide)).trans (hb.block Y (lt_of_blk h.y))).trans h.y
  have o1 := S1.blk h.f (own_ne h.f h.t (by decide)) (by decide)
  have o2 := S1.blk h.n (own_ne h.n h.t (by decide)) (by decide)
  have o3 := S1.blk h.s (own_ne h.s h.t (by decide)) (by decide)
  refine ⟨⟨blk_set (i := 1) hy2, o1.1, ?_, o2.1, o3.1, h.ne, h.B⟩, S1.bel⟩
  simpa [Proofs.YtfgoiojmbphmnaaGreatDoor.addT] using S1.own
theorem ne_symm {u v : Value} (h : u.ownBlock = none ∨ u.ownBlock ≠ v.ownBlock) : v.ownBlock = none ∨ v.ownBlock ≠ u.ownBlock := by
  rcases h with h | h
  · by_cases hv : v.ownBlock = none
    · exact .inl hv
    · exact .inr (by rw [h]; exact hv)
  · exact .inr fun e => h e.symm
theorem PAt.addN {B Y : Nat} {vf vt vn vs : Value} {s : SchemaL} {w wA w2 : World} (h : PAt B Y vf vt vn vs s w) (hBw : B ≤ w.heap.size) (x : P2) {g cap : Nat} (hb : Below w.heap.size w wA) (hg : wA.grownBy w2 vn.ownBlock)
    (hown : w2.ownsRow B 83 2 (.slice (some ⟨g, 0, none⟩) (s.rules.nicks.length + 1) cap) (s.rules.nicks.length + 1) (s.rules.nicks.flatMap encP ++ encP x)) (hat : vn.ownBlock = some g ∨ g = wA.heap.size) :
    PAt B Y vf vt (.slice (some ⟨g, 0, none⟩) (s.rules.nicks.length + 1) cap) vs (addN s x) (w2.setCell ⟨Y, 2, none⟩ (.slice (some ⟨g, 0, none⟩) (s.rules.nicks.length + 1) cap)) ∧ Below B w (w2.setCell ⟨Y, 2, none⟩ (.slice (some ⟨g, 0, none⟩) (s.rules.nicks.length + 1) cap)) := by
  have S1 := step1 (i := 2) h.y h.B (by decide) h.n hb hg hown hat hBw
  have hy2 : w2.heap[Y]? = _ := ((hg.block Y (by have := hb.size; have := lt_of_blk h.y; omega) (by
    intro e1
    rcases h.n.2 with ⟨rfl, _⟩ | ⟨g', cap', cur', rfl, _, hh, _⟩
    · simp [Value.ownBlock] at e1
    · have : Y = g' := by simpa [Value.ownBlock] using e1
      subst this
      have := h.y; rw [hh] at this; injection this with e2; injection e2 with _ e3; revert e3; decide)).trans (hb.block Y (lt_of_blk h.y))).trans h.y
  have o1 := S1.blk h.f (own_ne h.f h.n (by decide)) (by decide)
  have o2 := S1.blk h.t (own_ne h.t h.n (by decide)) (by decide)
  have o3 := S1.blk h.s (ne_symm h.ne) (by decide)
  refine ⟨⟨blk_set (i := 2) hy2, o1.1, o2.1, ?_, o3.1, o3.2.2, h.B⟩, S1.bel⟩
  simpa [Proofs.YtfgoiojmbphmnaaGreatDoor.addN] using S1.own
theorem PAt.addS {B Y : Nat} {vf vt vn vs : Value} {s : SchemaL} {w wA w2 : World} (h : PAt B Y vf vt vn vs s w) (hBw : B ≤ w.heap.size) (x : P2) {g cap : Nat} (hb : Below w.heap.size w wA) (hg : wA.grownBy w2 vs.ownBlock)
    (hown : w2.ownsRow B 83 2 (.slice (some ⟨g, 0, none⟩) (s.rules.streets.length + 1) cap) (s.rules.streets.length + 1) (s.rules.streets.flatMap encP ++ encP x)) (hat : vs.ownBlock = some g ∨ g = wA.heap.size) :
    PAt B Y vf vt vn (.slice (some ⟨g, 0, none⟩) (s.rules.streets.length + 1) cap) (addS s x) (w2.setCell ⟨Y, 3, none⟩ (.slice (some ⟨g, 0, none⟩) (s.rules.streets.length + 1) cap)) ∧ Below B w (w2.setCell ⟨Y, 3, none⟩ (.slice (some ⟨g, 0, none⟩) (s.rules.streets.length + 1) cap)) := by
  have S1 := step1 (i := 3) h.y h.B (by decide) h.s hb hg hown hat hBw
  have hy2 : w2.heap[Y]? = _ := ((hg.block Y (by have := hb.size; have := lt_of_blk h.y; omega) (by
    intro e1
    rcases h.s.2 with ⟨rfl, _⟩ | ⟨g', cap', cur', rfl, _, hh, _⟩
    · simp [Value.ownBlock] at e1
    · have : Y = g' := by simpa [Value.ownBlock] using e1
      subst this
      have := h.y; rw [hh] at this; injection this with e2; injection e2 with _ e3; revert e3; decide)).trans (hb.block Y (lt_of_blk h.y))).trans h.y
  have o1 := S1.blk h.f (own_ne h.f h.s (by decide)) (by decide)
  have o2 := S1.blk h.t (own_ne h.t h.s (by decide)) (by decide)
  have o3 := S1.blk h.n h.ne (by decide)
  refine ⟨⟨blk_set (i := 3) hy2, o1.1, o2.1, o3.1, ?_, o3.2.1, h.B⟩, S1.bel⟩
  simpa [Proofs.YtfgoiojmbphmnaaGreatDoor.addS] using S1.own
theorem PAt.schema {B Y : Nat} {vf vt vn vs : Value} {s : SchemaL} {w : World} (h : PAt B Y vf vt vn vs s w) : SchemaAt w (fun b => B ≤ b) vf vt vn vs s :=
  ⟨Vec.owns (k := 2) (enc := encF) (S := fun b => B ≤ b) (fun _ => rfl) h.f (fun b hb _ => hb), Vec.owns (k := 1) (enc := encS) (S := fun b => B ≤ b) (fun _ => rfl) h.t (fun b hb _ => hb), Vec.owns (k := 2) (enc := encP) (S := fun b => B ≤ b) (fun _ => rfl) h.n (fun b hb _ => hb), Vec.owns (k := 2) (enc := encP) (S := fun b => B ≤ b) (fun _ => rfl) h.s (fun b hb _ => hb)⟩
def wordsL : List (List UInt8) := [kindW 1, kindW 2, kindW 3, kindW 4]
theorem idx_kind (x : List UInt8) : Lib.idxBy (fun _ y => y == x) wordsL default = kindNum x - 1 := by
  unfold Lib.idxBy wordsL
  simp only [Lib.idxByFrom, beq_iff_eq]
  by_cases h1 : x = kindW 1
  · subst h1; rfl
  · by_cases h2 : x = kindW 2
    · subst h2; rfl
    · by_cases h3 : x = kindW 3
      · subst h3; rfl
      · by_cases h4 : x = kindW 4
        · subst h4; rfl
        · have e : kindNum x = 0 := by unfold kindNum; rw [if_neg h1, if_neg h2, if_neg h3, if_neg h4]
          rw [if_neg (fun e => h1 e.symm), if_neg (fun e => h2 e.symm), if_neg (fun e => h3 e.symm), if_neg (fun e => h4 e.symm), e]; rfl
end Go.Proofs.YtfgoiojmbphmnaaGreatDoor
end
section
/- schema.words, an iterator; slices.Collect of it. -/
set_option linter.unusedSimpArgs false
set_option linter.unusedVariables false
set_option maxRecDepth 100000
namespace Go.Proofs.YtfgoiojmbphmnaaGreatDoor
open Go.RowKit Cal
attribute [local go_sem] toList_mk mk_size
theorem words_get (k : Nat) (h : k < 4) : kindW ((k : Int) + 1) = wordsL.getD k [] := by
  obtain rfl | rfl | rfl | rfl : k = 0 ∨ k = 1 ∨ k = 2 ∨ k = 3 := by omega
  all_goals rfl
theorem words_take (k : Nat) (h : k < 4) : wordsL.take (k + 1) = wordsL.take k ++ [wordsL.getD k []] := by
  obtain rfl | rfl | rfl | rfl : k = 0 ∨ k = 1 ∨ k = 2 ∨ k = 3 := by omega
  all_goals rfl
set_option maxHeartbeats 2000000 in
theorem words_gives (n : Nat) (w : World) : SeqGives Fence.wide n Tryz.prog 121 #[] encStr (fun xs => xs = wordsL) 4 w := by
  intro l J W hW hJ hY h0
  refine callsIn_of_wp Tryz.func121 rfl trivial ?_ rfl
  simp only [Tryz.ntmps121, List.size_toArray, List.length_cons, List.length_nil, Nat.reduceAdd, Nat.reduceSub, Array.replicate_succ, Array.replicate_zero, List.push_toArray, List.append_toArray, List.nil_append, List.cons_append]
  gi_wp2
  gi_loopw [2] (fun i wr => ∃ k : Nat, k ≤ 4 ∧ i = .int .i64 (k + 1) ∧ J (wordsL.take k) wr) (fun i _ => 5 - (intOf i).toNat)
  case atStart => exact ⟨0, by omega, rfl, h0⟩
  case round =>
    obtain ⟨k, hk, rfl, hJs⟩ := hrel
    have HJs := Lib.hid hJs; clear hJs
    by_cases hlt : k < 4
    · have hq : decide ((k : Int) + 1 ≤ 4) = true := by simp; omega
      have hix := index_kind ((k : Int) + 1) (by omega) (by omega)
      have hfd := field_kindW ((k : Int) + 1) (by omega) (by omega)
      obtain ⟨x, hx⟩ : ∃ x, kindW ((k : Int) + 1) = x := ⟨_, rfl⟩
      rw [hx] at hfd
      have HX := Lib.hid hx; clear hx
      have hy0 : ∀ w2, Below wr.heap.size wr w2 → YieldAt Fence.wide (n - 1) Tryz.prog l #[encStr x] w2 fun e W' => e = .returned (.bool true) ∧ J (wordsL.take k ++ [x]) W' ∧ KeepsWalks w2 W' := fun w2 hb2 =>
        hY _ x w2 (hJ _ wr w2 none HJs.out (grown_below hb2) (fun r e => by cases e)) (by rw [List.length_take]; show min k 4 < 4; omega)
      have HY0 := Lib.hid hy0; clear hy0
      gi_wp2
      refine ⟨trivial, fun h => by simp [Fence.wide] at h, (callsIn_wide.2 (kinds_any _)).mono ?_⟩
      rintro e w2 ⟨rfl, hb2⟩
      obtain ⟨fn, tmps, assign, body, hy, hR⟩ := HY0.out w2 hb2
      have HR := Lib.hid hR
      clear hR hJ hY h0 hb2
      gi_wp2
      refine ⟨fun h => by simp [Fence.wide] at h, HR.out.mono ?_⟩
      rintro e W3 ⟨rfl, hJ3, hk3⟩
      have HJ3 := Lib.hid hJ3
      clear hJ3 hk3
      gi_wp2
      go_roundw
      case rel => exact ⟨k + 1, by omega, by go_num, by rw [words_take k hlt, ← words_get k hlt, HX.out]; exact HJ3.out⟩
      case measure => simp [intOf]; omega
    · have hq : decide ((k : Int) + 1 ≤ 4) = false := by simp; omega
      obtain rfl : k = 4 := by omega
      gi_wp2
      go_end0
      exact ⟨⟨_, rfl⟩, wordsL, rfl, HJs.out⟩
theorem collect_words (w : World) :
    Calls Tryz.prog 120 #[fnV 121] w fun e w' => ∃ v, e = .returned v ∧ OwnAt w v wordsL w' := by
  have h := callsIn_wide.1 (AnyZ.collect_in Tryz.collect Fence.wide 3 trivial trivial rfl (by omega) 121 #[] trivial (enters_of Tryz.func121 (by kernel_rfl) rfl) (fun xs => xs = wordsL) 4 (by decide) (by decide) w (words_gives 1 w))
  refine h.mono ?_
  rintro e w' ⟨v, ss, rfl, rfl, ho, _, hb⟩
  exact ⟨v, rfl, ho, hb⟩
end Go.Proofs.YtfgoiojmbphmnaaGreatDoor
end
section
/- A region that draws its order: an operation that yields in every world that meets S may be taken first, where S is asked only until operation k has come up (k waits for it, directly or through others). -/
set_option linter.unusedSimpArgs false
set_option linter.unusedVariables false
namespace Go.Proofs.YtfgoiojmbphmnaaGreatDoor
open Go
section
variable {P : Program} {ops : Array Oper} {Q : Exit → Act → World → Prop} {md : Region.Mode} {S : World → Prop} {k : Nat}
/-- whatever is listed, all that it waits for is listed -/
def Closed (md : Region.Mode) (ops : Array Oper) (l : Array Bool) : Prop :=
  ∀ j o, ops[j]? = some o → l.getD j false = true → ∀ e ∈ o.after, Region.binds md e = true → l.getD e.on false = true
def closedB (md : Region.Mode) (ops : Array Oper) (l : Array Bool) : Bool :=
  (List.range ops.size).all fun j => match ops[j]? with
    | none => true
    | some o => !l.getD j false || o.after.all fun e => !Region.binds md e || l.getD e.on false
theorem closed_spec {l : Array Bool} (h : closedB md ops l = true) : Closed md ops l := by
  intro j o ho hl e he hb
  have hj : j < ops.size := (Array.getElem?_eq_some_iff.1 ho).1
  have h1 := List.all_eq_true.1 h j (List.mem_range.2 hj)
  simp only [ho] at h1
  rw [hl] at h1
  simp only [Bool.not_true, Bool.false_or, Array.all_eq_true_iff_forall_mem] at h1
  have h2 := h1 e he
  rw [hb] at h2
  simpa using h2
theorem closed_step {l : Array Bool} {j : Nat} (h : Closed md ops l) (hj : j ∈ Region.ready md ops l) : Closed md ops (l.setIfInBounds j true) := by
  intro i o ho hl e he hb
  by_cases hij : i = j
  · subst hij
    obtain ⟨_, o', ho', hall⟩ := mem_ready.1 hj
    rw [ho] at ho'; cases ho'
    exact getD_set_true (hall e he hb)
  · rw [getD_set_ne false (fun e => hij e.symm)] at hl
    exact getD_set_true (h i o ho hl e he hb)
/-- k waits for i -/
def reachB (md : Region.Mode) (ops : Array Oper) : Nat → Nat → Nat → Bool
  | 0, _, _ => false
  | f + 1, i, k => match ops[k]? with
    | none => false
    | some o => o.after.any fun e => Region.binds md e && (e.on == i || reachB md ops f i e.on)
theorem reach_spec {l : Array Bool} (hc : Closed md ops l) : ∀ (f i k : Nat), reachB md ops f i k = true → l.getD k false = true → l.getD i false = true := by
  intro f
  induction f with
  | zero => intro i k h; simp [reachB] at h
  | succ f ih =>
    intro i k h hk
    unfold reachB at h
    cases ho : ops[k]? with
    | none => simp [ho] at h
    | some o =>
      simp only [ho] at h
      obtain ⟨e, he, hb⟩ := Array.any_eq_true'.1 h
      simp only [Bool.and_eq_true, Bool.or_eq_true, beq_iff_eq] at hb
      have h1 := hc k o ho hk e he hb.1
      rcases hb.2 with h2 | h2
      · rw [← h2]; exact h1
      · exact ih i e.on h2 h1
def wpAnyK (P : Program) (md : Region.Mode) (ops : Array Oper) (Q : Exit → Act → World → Prop) (S : World → Prop) (k : Nat) : Nat → Array Bool → Act → World → Prop
  | 0, listed, a, w => Region.ready md ops listed = [] ∧ Q .normal a w
  | fuel + 1, listed, a, w =>
    (Region.ready md ops listed = [] → Q .normal a w) ∧
    ∀ i ∈ Region.ready md ops listed, wpOp P ops Q i (fun a' w' => ((listed.setIfInBounds i true).getD k false = false → S w') ∧ wpAnyK P md ops Q S k fuel (listed.setIfInBounds i true) a' w') a w
theorem wpAny_of_k : ∀ (fuel : Nat) (listed : Array Bool) (a : Act) (w : World), wpAnyK P md ops Q S k fuel listed a w → wpAny P md ops Q fuel listed a w
  | 0, _, _, _, h => h
  | fuel + 1, _, _, _, h => ⟨h.1, fun i hi => wpOp_mono (fun a' w' h' => wpAny_of_k fuel _ a' w' h'.2) (h.2 i hi)⟩
/-- behind k it is a plain 'wpAny' -/
theorem wpAnyK_off : ∀ (fuel : Nat) (listed : Array Bool) (a : Act) (w : World), listed.getD k false = true → wpAny P md ops Q fuel listed a w → wpAnyK P md ops Q S k fuel listed a w
  | 0, _, _, _, _, h => h
  | fuel + 1, _, _, _, hk, h => ⟨h.1, fun i hi => wpOp_mono (fun a' w' h' => ⟨fun h0 => (by rw [getD_set_true hk] at h0; cases h0), wpAnyK_off fuel _ a' w' (getD_set_true hk) h'⟩) (h.2 i hi)⟩
theorem wpAnyK_first {i : Nat} {oi : Oper} {v : Value} (hi : ops[i]? = some oi) (hsel : ∀ (j : Nat) (o : Oper) cs b, ops[j]? = some o → o.op ≠ .select cs b)
    (hQ : ∀ c a w, Q (.panic c) (a.put oi.dst v) w → Q (.panic c) a w) (f : Nat) (hreach : reachB md ops f i k = true) (hik : i ≠ k) :
    ∀ (fuel : Nat) (listed : Array Bool) (a : Act) (w : World), Closed md ops listed →
      (∀ j oj, ops[j]? = some oj → j ≠ i → listed.getD j true = false → (∀ e ∈ oj.after, Region.binds md e = true → e.on ≠ i) → oi.apart ops oj = true) →
      i ∈ Region.ready md ops listed → YieldsIf P ops S oi v a → S w →
      wpAnyK P md ops Q S k fuel (listed.setIfInBounds i true) (a.put oi.dst v) w → wpAnyK P md ops Q S k (fuel + 1) listed a w := by
  intro fuel
  induction fuel with
  | zero =>
    intro listed a w _ _ hr hy hS H
    refine ⟨fun h => (by rw [h] at hr; cases hr), fun j hj => ?_⟩
    by_cases hji : j = i
    · subst hji; exact hy.wpOp hi hS ⟨fun _ => hS, H⟩
    · have := ready_mono hj hji
      rw [H.1] at this
      cases this
  | succ fuel ih =>
    intro listed a w hcl hfree hr hy hS H
    refine ⟨fun h => (by rw [h] at hr; cases hr), fun j hj => ?_⟩
    by_cases hji : j = i
    · subst hji; exact hy.wpOp hi hS ⟨fun _ => hS, H⟩
    · have h1 := H.2 j (ready_mono hj hji)
      have hcl' := closed_step hcl hj
      obtain ⟨hjun, oj, hoj, hall⟩ := mem_ready.1 hj
      have hil : i < listed.size := by
        have h0 := (mem_ready.1 hr).1
        rcases Nat.lt_or_ge i listed.size with h' | h'
        · exact h'
        · simp [Array.getElem?_eq_none h'] at h0
      have hif : (listed.setIfInBounds j true).getD i false = false := by
        rw [getD_set_ne false hji]
        have h0 := (mem_ready.1 hr).1
        simp [hil] at h0 ⊢; exact h0
      have hnot : ∀ e ∈ oj.after, Region.binds md e = true → e.on ≠ i := fun e he hb heq => by
        have h1 := hall e he hb
        have h0 := (mem_ready.1 hr).1
        rw [heq] at h1
        simp [hil] at h0 h1; rw [h0] at h1; cases h1
      have hkf : ((listed.setIfInBounds i true).setIfInBounds j true).getD k false = false := by
        have hne : (listed.setIfInBounds j true).getD k false = false := by
          cases hv : (listed.setIfInBounds j true).getD k false with
          | false => rfl
          | true => rw [reach_spec hcl' f i k hreach hv] at hif; cases hif
        rw [Array.setIfInBounds_comm _ _ (fun e => hji e.symm), getD_set_ne false hik]; exact hne
      have h2 := wpOp_putIf hoj (hfree j oj hoj hji hjun hnot) (fun cs b => hsel i oi cs b hi) (fun cs b => hsel j oj cs b hoj) hQ hy h1
      have hfree' : ∀ k ok, ops[k]? = some ok → k ≠ i → (listed.setIfInBounds j true).getD k true = false →
          (∀ e ∈ ok.after, Region.binds md e = true → e.on ≠ i) → oi.apart ops ok = true := fun k ok hk hki hun hno => by
        refine hfree k ok hk hki ?_ hno
        by_cases hjk : j = k
        · subst hjk; exact hjun
        · rw [getD_set_ne true hjk] at hun; exact hun
      refine wpOp_mono (fun a' w' h3 => ⟨fun _ => h3.2.1 hkf, ih (listed.setIfInBounds j true) a' w' hcl' hfree' (ready_mono hr (Ne.symm hji)) h3.1 (h3.2.1 hkf) ?_⟩) h2
      rw [Array.setIfInBounds_comm _ _ hji]
      exact h3.2.2
theorem wpAnyK_take {i : Nat} {oi : Oper} {v : Value} {fuel : Nat} {listed : Array Bool} {a : Act} {w : World} (hi : ops[i]? = some oi)
    (hs : Region.noSelect ops = true) (hf : Region.free md ops listed i = true) (hr : (Region.ready md ops listed).contains i = true)
    (hc : (closedB md ops listed && reachB md ops 12 i k && (i != k)) = true)
    (hQ : ∀ c a w, Q (.panic c) (a.put oi.dst v) w → Q (.panic c) a w) (hy : YieldsIf P ops S oi v a) (hS : S w)
    (h : wpAnyK P md ops Q S k fuel (listed.setIfInBounds i true) (a.put oi.dst v) w) : wpAnyK P md ops Q S k (fuel + 1) listed a w := by
  simp only [Bool.and_eq_true, bne_iff_ne, ne_eq] at hc
  exact wpAnyK_first hi (Region.noSelect_spec hs) hQ 12 hc.1.2 hc.2 fuel listed a w (closed_spec hc.1.1) (Region.free_spec hi hf) (by simpa using hr) hy hS h
/-- what yields in whatever world may be taken first, before and behind k -/
theorem wpAnyK_first0 {i : Nat} {oi : Oper} {v : Value} (hi : ops[i]? = some oi) (hsel : ∀ (j : Nat) (o : Oper) cs b, ops[j]? = some o → o.op ≠ .select cs b)
    (hQ : ∀ c a w, Q (.panic c) (a.put oi.dst v) w → Q (.panic c) a w) (hik : i ≠ k) :
    ∀ (fuel : Nat) (listed : Array Bool) (a : Act) (w : World),
      (∀ j oj, ops[j]? = some oj → j ≠ i → listed.getD j true = false → (∀ e ∈ oj.after, Region.binds md e = true → e.on ≠ i) → oi.apart ops oj = true) →
      i ∈ Region.ready md ops listed → YieldsIf P ops (fun _ => True) oi v a → (listed.getD k false = false → S w) →
      wpAnyK P md ops Q S k fuel (listed.setIfInBounds i true) (a.put oi.dst v) w → wpAnyK P md ops Q S k (fuel + 1) listed a w := by
  intro fuel
  induction fuel with
  | zero =>
    intro listed a w _ hr hy hS H
    refine ⟨fun h => (by rw [h] at hr; cases hr), fun j hj => ?_⟩
    by_cases hji : j = i
    · subst hji; exact hy.wpOp hi trivial ⟨fun h => hS (by rw [getD_set_ne false hik] at h; exact h), H⟩
    · have := ready_mono hj hji
      rw [H.1] at this
      cases this
  | succ fuel ih =>
    intro listed a w hfree hr hy hS H
    refine ⟨fun h => (by rw [h] at hr; cases hr), fun j hj => ?_⟩
    by_cases hji : j = i
    · subst hji; exact hy.wpOp hi trivial ⟨fun h => hS (by rw [getD_set_ne false hik] at h; exact h), H⟩
    · have h1 := H.2 j (ready_mono hj hji)
      obtain ⟨hjun, oj, hoj, hall⟩ := mem_ready.1 hj
      have hnot : ∀ e ∈ oj.after, Region.binds md e = true → e.on ≠ i := fun e he hb heq => by
        have h1 := hall e he hb
        have h0 := (mem_ready.1 hr).1
        rw [heq] at h1
        rcases Nat.lt_or_ge i listed.size with h' | h'
        · simp [h'] at h0 h1; rw [h0] at h1; cases h1
        · simp [Array.getElem?_eq_none h'] at h1
      have h2 := wpOp_putIf hoj (hfree j oj hoj hji hjun hnot) (fun cs b => hsel i oi cs b hi) (fun cs b => hsel j oj cs b hoj) hQ hy h1
      have hfree' : ∀ k ok, ops[k]? = some ok → k ≠ i → (listed.setIfInBounds j true).getD k true = false →
          (∀ e ∈ ok.after, Region.binds md e = true → e.on ≠ i) → oi.apart ops ok = true := fun k ok hk hki hun hno => by
        refine hfree k ok hk hki ?_ hno
        by_cases hjk : j = k
        · subst hjk; exact hjun
        · rw [getD_set_ne true hjk] at hun; exact hun
      have hkf : (listed.setIfInBounds j true).getD k false = false → ((listed.setIfInBounds i true).setIfInBounds j true).getD k false = false := fun h => by
        rw [Array.setIfInBounds_comm _ _ (fun e => hji e.symm), getD_set_ne false hik]; exact h
      refine wpOp_mono (fun a' w' h3 => ⟨fun h => h3.2.1 (hkf h), ih (listed.setIfInBounds j true) a' w' hfree' (ready_mono hr (Ne.symm hji)) h3.1 (fun h => h3.2.1 (hkf h)) ?_⟩) h2
      rw [Array.setIfInBounds_comm _ _ hji]
      exact h3.2.2
theorem wpAnyK_take0 {i : Nat} {oi : Oper} {v : Value} {fuel : Nat} {listed : Array Bool} {a : Act} {w : World} (hi : ops[i]? = some oi)
    (hs : Region.noSelect ops = true) (hf : Region.free md ops listed i = true) (hr : (Region.ready md ops listed).contains i = true) (hik : i ≠ k)
    (hQ : ∀ c a w, Q (.panic c) (a.put oi.dst v) w → Q (.panic c) a w) (hy : YieldsIf P ops (fun _ => True) oi v a) (hS : listed.getD k false = false → S w)
    (h : wpAnyK P md ops Q S k fuel (listed.setIfInBounds i true) (a.put oi.dst v) w) : wpAnyK P md ops Q S k (fuel + 1) listed a w :=
  wpAnyK_first0 hi (Region.noSelect_spec hs) hQ hik fuel listed a w (Region.free_spec hi hf) (by simpa using hr) hy hS h
theorem wpAnyK_all {rs : List Nat} {fuel : Nat} {listed : Array Bool} {a : Act} {w : World} (hr : Region.ready md ops listed = rs) (hne : rs ≠ [])
    (h : ∀ i ∈ rs, wpOp P ops Q i (fun a' w' => ((listed.setIfInBounds i true).getD k false = false → S w') ∧ wpAnyK P md ops Q S k fuel (listed.setIfInBounds i true) a' w') a w) : wpAnyK P md ops Q S k (fuel + 1) listed a w :=
  ⟨fun h0 => absurd (hr ▸ h0) hne, hr ▸ h⟩
theorem wpAnyK_done {listed : Array Bool} {a : Act} {w : World} (hr : Region.ready md ops listed = []) (h : Q .normal a w) :
    ∀ fuel, wpAnyK P md ops Q S k fuel listed a w
  | 0 => ⟨hr, h⟩
  | _ + 1 => ⟨fun _ => h, by rw [hr]; simp⟩
def AllReadyK (P : Program) (md : Region.Mode) (ops : Array Oper) (Q : Exit → Act → World → Prop) (S : World → Prop) (k fuel : Nat) (listed : Array Bool) (a : Act) (w : World) (rs : List Nat) : Prop :=
  ∀ i ∈ rs, wpOp P ops Q i (fun a' w' => ((listed.setIfInBounds i true).getD k false = false → S w') ∧ wpAnyK P md ops Q S k fuel (listed.setIfInBounds i true) a' w') a w
theorem AllReadyK.nil {fuel : Nat} {listed : Array Bool} {a : Act} {w : World} : AllReadyK P md ops Q S k fuel listed a w [] := fun _ h => by cases h
theorem AllReadyK.cons {fuel : Nat} {listed : Array Bool} {a : Act} {w : World} {i : Nat} {o : Oper} {rs : List Nat} (ho : ops[i]? = some o)
    (h : ∀ K' : Act → World → Prop, Shut (∀ a w, ((listed.setIfInBounds i true).getD k false = false → S w) → wpAnyK P md ops Q S k fuel (listed.setIfInBounds i true) a w → K' a w) → if Region.wanted o (yielded ops a.tmps) = true then Oper.wp P o a w K' Q else K' (a.put o.dst undef) w)
    (hs : AllReadyK P md ops Q S k fuel listed a w rs) : AllReadyK P md ops Q S k fuel listed a w (i :: rs) := fun j hj => by
  rcases List.mem_cons.1 hj with rfl | hj
  · exact wpOp_step ho (fun K' hK => h K' (fun a w hS hW => hK a w ⟨hS, hW⟩))
  · exact hs j hj
theorem wpAnyK_ready {rs : List Nat} {fuel : Nat} {listed : Array Bool} {a : Act} {w : World} (hr : Region.ready md ops listed = rs) (hne : rs ≠ [])
    (h : AllReadyK P md ops Q S k fuel listed a w rs) : wpAnyK P md ops Q S k (fuel + 1) listed a w := wpAnyK_all hr hne h
theorem wp_region_k {id : Nat} {a : Act} {w : World} (hm : P.follows .mixedOrders = true) (S : World → Prop) (k : Nat) (hS : S w.drew)
    (h : S w.drew → wpAnyK P .any ops Q S k ops.size (Array.replicate ops.size false) a w.drew) : (Code.region id ops true).wp P Q a w :=
  wp_region_any hm (wpAny_of_k _ _ _ _ (h hS))
theorem shutK {S : World → Prop} {W : Act → World → Prop} {c : Prop} {K' : Act → World → Prop} {a : Act} {w : World} (hK : Shut (∀ a w, (c → S w) → W a w → K' a w)) (hS : S w) (h : S w → W a w) : K' a w := hK.out _ _ (fun _ => hS) (h hS)
theorem shutK_off {S : World → Prop} {W : Act → World → Prop} {c : Prop} {K' : Act → World → Prop} {a : Act} {w : World} (hK : Shut (∀ a w, (c → S w) → W a w → K' a w)) (hc : ¬ c) (h : W a w) : K' a w := hK.out _ _ (fun h0 => absurd h0 hc) h
end
end Go.Proofs.YtfgoiojmbphmnaaGreatDoor
end
section
/- schema.read: a line of the text of a schema. -/
set_option linter.unusedSimpArgs false
set_option linter.unusedVariables false
set_option maxRecDepth 100000
namespace Go.Proofs.YtfgoiojmbphmnaaGreatDoor
open Go.RowKit Cal
attribute [local go_sem] toList_mk mk_size
theorem infoP : (Tryz.prog.info? 83).map (fun i => (i.zero, i.size, i.bytes)) = some (some (.agg #[.string ⟨#[]⟩, .string ⟨#[]⟩]), 2, 32) := by kernel_rfl
def ReadPost (B Y : Nat) (r : Int × SchemaL) (w : World) (e : Ending) (w' : World) : Prop := ∃ vf vt vn vs, e = .returned (.int .i64 r.1) ∧ PAt B Y vf vt vn vs r.2 w' ∧ Below B w w'
theorem words_three {w : World} {S : Nat → Prop} {wv : Value} {a b c : List UInt8} (h : Vec w S 1 encS wv [a, b, c]) : ∃ bw ow cw, wv = .slice (some ⟨bw, ow, none⟩) 3 cw ∧ bw < w.heap.size ∧ w.cell? ⟨bw, ow, none⟩ = some (strV a) ∧ w.cell? ⟨bw, ow + 1, none⟩ = some (strV b) ∧ w.cell? ⟨bw, ow + 2, none⟩ = some (strV c) := by
  obtain ⟨aw, cw, rfl⟩ := h.slice
  obtain ⟨bw, ow, rfl, _, hb, hc⟩ := vec_cell1 h (Nat.zero_lt_succ _)
  exact ⟨bw, ow, cw, rfl, hb, hc 0 (by show 0 < 3; decide), hc 1 (by show 1 < 3; decide), hc 2 (by show 2 < 3; decide)⟩
theorem words_two {w : World} {S : Nat → Prop} {wv : Value} {a b : List UInt8} (h : Vec w S 1 encS wv [a, b]) : ∃ bw ow cw, wv = .slice (some ⟨bw, ow, none⟩) 2 cw ∧ bw < w.heap.size ∧ w.cell? ⟨bw, ow, none⟩ = some (strV a) ∧ w.cell? ⟨bw, ow + 1, none⟩ = some (strV b) := by
  obtain ⟨aw, cw, rfl⟩ := h.slice
  obtain ⟨bw, ow, rfl, _, hb, hc⟩ := vec_cell1 h (Nat.zero_lt_succ _)
  exact ⟨bw, ow, cw, rfl, hb, hc 0 (by show 0 < 2; decide), hc 1 (by show 1 < 2; decide)⟩
theorem has_empty (L : List (List UInt8)) : hasB L [] = decide ([] ∈ L) := by
  unfold hasB
  rw [Bool.eq_iff_iff, List.any_eq_true, decide_eq_true_iff]
  constructor
  · rintro ⟨x, hx, he⟩
    have : x = [] := by simpa using he
    rw [← this]; exact hx
  · intro h; exact ⟨[], h, rfl⟩
/-- a line that is none, of whatever words -/
theorem read_none {s : SchemaL} {L : List (List UInt8)} (h : [] ∈ L) : readN s L = (-1, s) := by unfold readN; rw [if_pos h]
set_option maxHeartbeats 4000000 in
theorem read_bad (B Y : Nat) (vf vt vn vs : Value) (s : SchemaL) (wv : Value) (L : List (List UInt8)) (w : World) (h : PAt B Y vf vt vn vs s w) (hw : Vec w Any1 1 encS wv L) (hn : L.length ≤ 1000000) (hbz : B ≤ w.heap.size) (h0 : [] ∈ L) :
    Calls Tryz.prog 73 #[.pointer (some ⟨Y, 0, none⟩), wv] w (ReadPost B Y (readN s L) w) := by
  obtain ⟨aw, cw, rfl⟩ := hw.slice
  have HH := Lib.hid h; have HW := Lib.hid hw
  have HR := Lib.hid (read_none (s := s) h0)
  have HE := Lib.hid (show hasB L [] = true by rw [has_empty]; simpa using h0)
  clear h hw h0
  go_enter Tryz.func73, Tryz.ntmps73
  go_wp2_with fail
  refine (contains_any Any1 _ L [] _ (HW.out.below ((Below.refl _ _).alloc (Nat.le_refl _) _)) hn).mono ?_
  rw [HE.out]
  rintro e w1 ⟨rfl, rfl⟩
  go_wp2_with fail
  go_ret
  refine ⟨vf, vt, vn, vs, by rw [HR.out]; rfl, by rw [HR.out]; exact HH.out.below ((Below.refl _ _).alloc (Nat.le_refl _) _), (Below.refl _ _).alloc hbz _⟩
/-- neither two nor three words -/
theorem read_else {s : SchemaL} {L : List (List UInt8)} (h2 : L.length ≠ 2) (h3 : L.length ≠ 3) : readN s L = (-1, s) := by
  unfold readN
  split
  · rfl
  · split
    · simp at h3
    · simp at h2
    · rfl
set_option maxHeartbeats 4000000 in
theorem read_odd (B Y : Nat) (vf vt vn vs : Value) (s : SchemaL) (wv : Value) (L : List (List UInt8)) (w : World) (h : PAt B Y vf vt vn vs s w) (hw : Vec w Any1 1 encS wv L) (hn : L.length ≤ 1000000) (hbz : B ≤ w.heap.size) (h0 : [] ∉ L) (h2 : L.length ≠ 2) (h3 : L.length ≠ 3) :
    Calls Tryz.prog 73 #[.pointer (some ⟨Y, 0, none⟩), wv] w (ReadPost B Y (readN s L) w) := by
  obtain ⟨aw, cw, rfl⟩ := hw.slice
  have HH := Lib.hid h; have HW := Lib.hid hw
  have HR := Lib.hid (read_else (s := s) h2 h3)
  have HE := Lib.hid (show hasB L [] = false by rw [has_empty]; simpa using h0)
  have d2 : ((L.length : Int) == 2) = false := by simp; omega
  have d3 : ((L.length : Int) == 3) = false := by simp; omega
  clear h hw h0 h2 h3
  go_enter Tryz.func73, Tryz.ntmps73
  go_wp2_with fail
  refine (contains_any Any1 _ L [] _ (HW.out.below ((Below.refl _ _).alloc (Nat.le_refl _) _)) hn).mono ?_
  rw [HE.out]
  rintro e w1 ⟨rfl, rfl⟩
  go_wp2_with fail
  go_ret
  refine ⟨vf, vt, vn, vs, by rw [HR.out]; rfl, by rw [HR.out]; exact HH.out.below ((Below.refl _ _).alloc (Nat.le_refl _) _), (Below.refl _ _).alloc hbz _⟩
-- BEGIN (gen_s.py)
set_option maxHeartbeats 8000000 in
theorem read_title (B Y : Nat) (vf vt vn vs : Value) (s : SchemaL) (wv : Value) (b : List UInt8) (w : World) (h : PAt B Y vf vt vn vs s w) (hw : Vec w Any1 1 encS wv [titleW, b]) (hbz : B ≤ w.heap.size) (hb0 : [] ∉ [titleW, b]) (hl : s.rules.titles.length ≤ 1000000) :
    Calls Tryz.prog 73 #[.pointer (some ⟨Y, 0, none⟩), wv] w (ReadPost B Y (1, addT s b) w) := by
  obtain ⟨bw, ow, cw, rfl, hbw, c0, c1⟩ := words_two hw
  have HH := Lib.hid h; have HW := Lib.hid hw
  have HE := Lib.hid (show hasB [titleW, b] [] = false by rw [has_empty]; simpa using hb0)
  obtain ⟨ax, cx, rfl⟩ := own_slice h.t
  obtain ⟨p0, p1, p2, p3⟩ := cells4 h.y
  have fY := (frozen_of_row _ _ _ _ _ h.y : w.frozen? ⟨Y, 1, none⟩ = false)
  have zY := lt_of_blk h.y
  clear h hw hb0
  unfold titleW at c0 HW
  go_enter Tryz.func73, Tryz.ntmps73
  go_wp2_with fail
  refine (contains_any Any1 _ [titleW, b] [] _ (HW.out.below ((Below.refl _ _).alloc (Nat.le_refl _) _)) (by simp)).mono ?_
  rw [HE.out]
  rintro e w1 ⟨rfl, rfl⟩
  go_wp2_with fail
  obtain ⟨i0, hi, hz0, hz1, hz2⟩ := info_parts infoS
  have HI := Lib.hid hi; have HZ0 := Lib.hid hz0; have HZ1 := Lib.hid hz1; have HZ2 := Lib.hid hz2
  refine wp_world (fun wS hS => ?_)
  have zS : wS.heap.size = w.heap.size + 1 := by rw [hS]; simp
  have bS : Below w.heap.size w wS := by rw [hS]; exact (Below.refl _ _).alloc (Nat.le_refl _) _
  have qy := (bS.cell (p := ⟨Y, 1, none⟩) zY).trans p1
  have gy := (bS.frozen (p := ⟨Y, 1, none⟩) zY).trans fY
  have qw : wS.cell? ⟨w.heap.size, 0, none⟩ = some (.slice (some ⟨bw, ow, none⟩) 2 cw) := by rw [hS]; simp
  have q1 := (bS.cell (p := ⟨bw, ow + 1, none⟩) hbw).trans c1
  have zYS : Y < wS.heap.size := by omega
  have zbS : bw < wS.heap.size := by omega
  have HPS := Lib.hid (HH.out.below bS)
  have HBS := Lib.hid bS
  have zW : w.heap.size < wS.heap.size := by omega
  have hBS : B ≤ wS.heap.size := by omega
  clear hS bS p0 p1 p2 p3 fY zY hbw c0 HW HH HE c1 zS
  refine wp_region_noPanic ?_
  refine wp_region_k (by kernel_rfl) (fun w' => w'.cell? ⟨Y, 1, none⟩ = some (.slice ax s.rules.titles.length cx) ∧ w'.cell? ⟨w.heap.size, 0, none⟩ = some (.slice (some ⟨bw, ow, none⟩) 2 cw) ∧ w'.cell? ⟨bw, ow + 1, none⟩ = some (strV b)) 10 (⟨qy, qw, q1⟩) (fun hHeld => ?_)
  refine wpAnyK_take0 (i := 0) (v := ?_) rfl (by kernel_rfl) (by kernel_rfl) (by kernel_rfl) (by decide) (fun _ _ _ h => h) (Or.inl ⟨by rfl, ?_⟩) (by first | exact fun _ => by assumption | exact fun h => absurd h (by decide)) ?_
  rotate_left 1
  · (intro wS hSw; (try dsimp only at hSw); go_simp; try with_reducible rfl)
  try simp only [List.getElem_toArray, List.getElem_cons_zero, List.getElem_cons_succ, Act.put, List.setIfInBounds_toArray, List.set_cons_zero, List.set_cons_succ]
  refine wpAnyK_take (i := 1) (v := ?_) rfl (by kernel_rfl) (by kernel_rfl) (by kernel_rfl) (by kernel_rfl) (fun _ _ _ h => h) (Or.inl ⟨by rfl, ?_⟩) (by assumption) ?_
  rotate_left 1
  · (intro wS hSw; (try dsimp only at hSw); go_simp; try with_reducible rfl)
  try simp only [List.getElem_toArray, List.getElem_cons_zero, List.getElem_cons_succ, Act.put, List.setIfInBounds_toArray, List.set_cons_zero, List.set_cons_succ]
  refine wpAnyK_take (i := 2) (v := ?_) rfl (by kernel_rfl) (by kernel_rfl) (by kernel_rfl) (by kernel_rfl) (fun _ _ _ h => h) (Or.inl ⟨by rfl, ?_⟩) (by assumption) ?_
  rotate_left 1
  · (intro wS hSw; (try dsimp only at hSw); go_simp; try with_reducible rfl)
  try simp only [List.getElem_toArray, List.getElem_cons_zero, List.getElem_cons_succ, Act.put, List.setIfInBounds_toArray, List.set_cons_zero, List.set_cons_succ]
  refine wpAnyK_take (i := 3) (v := ?_) rfl (by kernel_rfl) (by kernel_rfl) (by kernel_rfl) (by kernel_rfl) (fun _ _ _ h => h) (Or.inl ⟨by rfl, ?_⟩) (by assumption) ?_
  rotate_left 1
  · (intro wS hSw; (try dsimp only at hSw); go_simp; try with_reducible rfl)
  try simp only [List.getElem_toArray, List.getElem_cons_zero, List.getElem_cons_succ, Act.put, List.setIfInBounds_toArray, List.set_cons_zero, List.set_cons_succ]
  refine wpAnyK_take (i := 4) (v := ?_) rfl (by kernel_rfl) (by kernel_rfl) (by kernel_rfl) (by kernel_rfl) (fun _ _ _ h => h) (Or.inl ⟨by rfl, ?_⟩) (by assumption) ?_
  rotate_left 1
  · (intro wS hSw; (try dsimp only at hSw); go_simp; try with_reducible rfl)
  try simp only [List.getElem_toArray, List.getElem_cons_zero, List.getElem_cons_succ, Act.put, List.setIfInBounds_toArray, List.set_cons_zero, List.set_cons_succ]
  refine wpAnyK_take (i := 5) (v := ?_) rfl (by kernel_rfl) (by kernel_rfl) (by kernel_rfl) (by kernel_rfl) (fun _ _ _ h => h) (Or.inl ⟨by rfl, ?_⟩) (by assumption) ?_
  rotate_left 1
  · (intro wS hSw; (try dsimp only at hSw); go_simp; try with_reducible rfl)
  try simp only [List.getElem_toArray, List.getElem_cons_zero, List.getElem_cons_succ, Act.put, List.setIfInBounds_toArray, List.set_cons_zero, List.set_cons_succ]
  refine wpAnyK_take (i := 6) (v := ?_) rfl (by kernel_rfl) (by kernel_rfl) (by kernel_rfl) (by kernel_rfl) (fun _ _ _ h => h) (Or.inl ⟨by rfl, ?_⟩) (by assumption) ?_
  rotate_left 1
  · (intro wS hSw; (try dsimp only at hSw); go_simp; try with_reducible rfl)
  try simp only [List.getElem_toArray, List.getElem_cons_zero, List.getElem_cons_succ, Act.put, List.setIfInBounds_toArray, List.set_cons_zero, List.set_cons_succ]
  refine wpAnyK_take (i := 7) (v := ?_) rfl (by kernel_rfl) (by kernel_rfl) (by kernel_rfl) (by kernel_rfl) (fun _ _ _ h => h) (Or.inl ⟨by rfl, ?_⟩) (by assumption) ?_
  rotate_left 1
  · (intro wS hSw; (try dsimp only at hSw); go_simp; try with_reducible rfl)
  try simp only [List.getElem_toArray, List.getElem_cons_zero, List.getElem_cons_succ, Act.put, List.setIfInBounds_toArray, List.set_cons_zero, List.set_cons_succ]
  refine wpAnyK_take (i := 8) (v := ?_) rfl (by kernel_rfl) (by kernel_rfl) (by kernel_rfl) (by kernel_rfl) (fun _ _ _ h => h) (Or.inl ⟨by rfl, ?_⟩) (by assumption) ?_
  rotate_left 1
  · (intro wS hSw; (try dsimp only at hSw); go_simp; try with_reducible rfl)
  try simp only [List.getElem_toArray, List.getElem_cons_zero, List.getElem_cons_succ, Act.put, List.setIfInBounds_toArray, List.set_cons_zero, List.set_cons_succ]
  have bA := ((Below.refl wS.heap.size wS).drew).alloc (Nat.le_refl _) (.cells #[strV b] 9)
  have hown := own_below HPS.out.t bA
  have hnews : ∀ j u, [strV b][j]? = some u → ((wS.drew).alloc (.cells #[strV b] 9)).cell? ((⟨wS.heap.size, 0, none⟩ : Addr).add j) = some u := fun j u hu => by
    have hX : ((wS.drew).alloc (.cells #[strV b] 9)).heap[wS.heap.size]? = some (.cells #[strV b] 9 (0, 0)) := blk_new rfl
    rw [add_plain, cell_of_row _ _ _ _ _ _ hX, Nat.zero_add]; simpa using hu
  have hone : ∀ u ∈ [strV b], u.oneCell' = true := by intro u hu; simp at hu; subst hu; rfl
  refine wpAnyK_ready (rs := [9]) (by kernel_rfl) (by simp) ?_
  refine AllReadyK.cons rfl (fun K hK => ?_) AllReadyK.nil
  go_simp
  skip
  refine shutK hK (⟨(bA.cell (p := ⟨Y, 1, none⟩) zYS).trans qy, (bA.cell (p := ⟨w.heap.size, 0, none⟩) zW).trans qw, (bA.cell (p := ⟨bw, ow + 1, none⟩) zbS).trans q1⟩) (fun hHeld => ?_)
  clear hK K
  try simp only [List.getElem_toArray, List.getElem_cons_zero, List.getElem_cons_succ, Act.put, List.setIfInBounds_toArray, List.set_cons_zero, List.set_cons_succ]
  refine wpAnyK_ready (rs := [10]) (by kernel_rfl) (by simp) ?_
  refine AllReadyK.cons rfl (fun K hK => ?_) AllReadyK.nil
  refine wp_append_lies _ (.tmp 54) (.tmp 58) 28 (by rfl) B 9 i0 (.string ⟨#[]⟩) 1 16 Tryz.underlying28 HI.out HZ0.out HZ1.out HZ2.out rfl (by decide) (.slice ax s.rules.titles.length cx) s.rules.titles.length (s.rules.titles.flatMap encS) (by rfl) hown ⟨wS.heap.size, 0, none⟩ 1 1 [strV b] (by rfl) rfl hnews hone (by omega) (by unfold maxLen; omega) (by omega) (by simp; omega) (wS.heap.size + 1) (by simp) ?_; intro g cap w5 hown5 hg5 hat5 hlt5; have cY5 : w5.cell? ⟨Y, 1, none⟩ = some (.slice ax s.rules.titles.length cx) := (hg5.cell_far ⟨Y, 1, none⟩ (by simp; omega) (PAt.far_t HPS.out)).trans ((bA.cell (p := ⟨Y, 1, none⟩) zYS).trans qy); have fY5 : w5.frozen? ⟨Y, 1, none⟩ = false := (hg5.frozen_far ⟨Y, 1, none⟩ (by simp; omega) (PAt.far_t HPS.out)).trans ((bA.frozen (p := ⟨Y, 1, none⟩) zYS).trans gy)
  refine shutK_off hK (by decide) ?_
  clear hK K
  try simp only [List.getElem_toArray, List.getElem_cons_zero, List.getElem_cons_succ, Act.put, List.setIfInBounds_toArray, List.set_cons_zero, List.set_cons_succ]
  have hstep := HPS.out.addT hBS b bA hg5 hown5 (by simpa using hat5)
  have HS := Lib.hid hstep
  clear hstep hown5 hg5 hat5 hown hnews hone bA
  refine wpAnyK_ready (rs := [11]) (by kernel_rfl) (by simp) ?_
  refine AllReadyK.cons rfl (fun K hK => ?_) AllReadyK.nil
  go_simp
  skip
  refine shutK_off hK (by decide) ?_
  clear hK K
  try simp only [List.getElem_toArray, List.getElem_cons_zero, List.getElem_cons_succ, Act.put, List.setIfInBounds_toArray, List.set_cons_zero, List.set_cons_succ]
  refine wpAnyK_ready (rs := [12]) (by kernel_rfl) (by simp) ?_
  refine AllReadyK.cons rfl (fun K hK => ?_) AllReadyK.nil
  go_simp
  skip
  refine shutK_off hK (by decide) ?_
  clear hK K
  try simp only [List.getElem_toArray, List.getElem_cons_zero, List.getElem_cons_succ, Act.put, List.setIfInBounds_toArray, List.set_cons_zero, List.set_cons_succ]
  refine wpAnyK_ready (rs := [13]) (by kernel_rfl) (by simp) ?_
  refine AllReadyK.cons rfl (fun K hK => ?_) AllReadyK.nil
  go_simp
  skip
  refine shutK_off hK (by decide) ?_
  clear hK K
  try simp only [List.getElem_toArray, List.getElem_cons_zero, List.getElem_cons_succ, Act.put, List.setIfInBounds_toArray, List.set_cons_zero, List.set_cons_succ]
  refine wpAnyK_ready (rs := [14]) (by kernel_rfl) (by simp) ?_
  refine AllReadyK.cons rfl (fun K hK => ?_) AllReadyK.nil
  go_simp
  skip
  refine shutK_off hK (by decide) ?_
  clear hK K
  try simp only [List.getElem_toArray, List.getElem_cons_zero, List.getElem_cons_succ, Act.put, List.setIfInBounds_toArray, List.set_cons_zero, List.set_cons_succ]
  refine wpAnyK_done (by kernel_rfl) ?_ _
  refine NoPanic.normal ?_
  go_wp2_with fail
  go_ret
  exact ⟨_, _, _, _, rfl, HS.out.1, (HBS.out.mono hbz).trans HS.out.2⟩
set_option maxHeartbeats 8000000 in
theorem read_nick (B Y : Nat) (vf vt vn vs : Value) (s : SchemaL) (wv : Value) (b c : List UInt8) (w : World) (h : PAt B Y vf vt vn vs s w) (hw : Vec w Any1 1 encS wv [nickW, b, c]) (hbz : B ≤ w.heap.size) (hb0 : [] ∉ [nickW, b, c]) (hl : s.rules.nicks.length ≤ 1000000) :
    Calls Tryz.prog 73 #[.pointer (some ⟨Y, 0, none⟩), wv] w (ReadPost B Y (2, addN s (b, c)) w) := by
  obtain ⟨bw, ow, cw, rfl, hbw, c0, c1, c2⟩ := words_three hw
  have HH := Lib.hid h; have HW := Lib.hid hw
  have HE := Lib.hid (show hasB [nickW, b, c] [] = false by rw [has_empty]; simpa using hb0)
  obtain ⟨ax, cx, rfl⟩ := own_slice h.n
  obtain ⟨p0, p1, p2, p3⟩ := cells4 h.y
  have fY := (frozen_of_row _ _ _ _ _ h.y : w.frozen? ⟨Y, 2, none⟩ = false)
  have zY := lt_of_blk h.y
  clear h hw hb0
  unfold nickW at c0 HW
  go_enter Tryz.func73, Tryz.ntmps73
  go_wp2_with fail
  refine (contains_any Any1 _ [nickW, b, c] [] _ (HW.out.below ((Below.refl _ _).alloc (Nat.le_refl _) _)) (by simp)).mono ?_
  rw [HE.out]
  rintro e w1 ⟨rfl, rfl⟩
  go_wp2_with fail
  obtain ⟨i0, hi, hz0, hz1, hz2⟩ := info_parts infoP
  have HI := Lib.hid hi; have HZ0 := Lib.hid hz0; have HZ1 := Lib.hid hz1; have HZ2 := Lib.hid hz2
  refine wp_world (fun wS hS => ?_)
  have zS : wS.heap.size = w.heap.size + 1 := by rw [hS]; simp
  have bS : Below w.heap.size w wS := by rw [hS]; exact (Below.refl _ _).alloc (Nat.le_refl _) _
  have qy := (bS.cell (p := ⟨Y, 2, none⟩) zY).trans p2
  have gy := (bS.frozen (p := ⟨Y, 2, none⟩) zY).trans fY
  have qw : wS.cell? ⟨w.heap.size, 0, none⟩ = some (.slice (some ⟨bw, ow, none⟩) 3 cw) := by rw [hS]; simp
  have q1 := (bS.cell (p := ⟨bw, ow + 1, none⟩) hbw).trans c1
  have q2 := (bS.cell (p := ⟨bw, ow + 2, none⟩) hbw).trans c2
  have zYS : Y < wS.heap.size := by omega
  have zbS : bw < wS.heap.size := by omega
  have HPS := Lib.hid (HH.out.below bS)
  have HBS := Lib.hid bS
  have zW : w.heap.size < wS.heap.size := by omega
  have hBS : B ≤ wS.heap.size := by omega
  clear hS bS p0 p1 p2 p3 fY zY hbw c0 HW HH HE c1 c2 zS
  refine wp_region_noPanic ?_
  refine wp_region_k (by kernel_rfl) (fun w' => w'.cell? ⟨Y, 2, none⟩ = some (.slice ax s.rules.nicks.length cx) ∧ w'.cell? ⟨w.heap.size, 0, none⟩ = some (.slice (some ⟨bw, ow, none⟩) 3 cw) ∧ w'.cell? ⟨bw, ow + 1, none⟩ = some (strV b) ∧ w'.cell? ⟨bw, ow + 2, none⟩ = some (strV c)) 14 (⟨qy, qw, q1, q2⟩) (fun hHeld => ?_)
  refine wpAnyK_take0 (i := 0) (v := ?_) rfl (by kernel_rfl) (by kernel_rfl) (by kernel_rfl) (by decide) (fun _ _ _ h => h) (Or.inl ⟨by rfl, ?_⟩) (by first | exact fun _ => by assumption | exact fun h => absurd h (by decide)) ?_
  rotate_left 1
  · (intro wS hSw; (try dsimp only at hSw); go_simp; try with_reducible rfl)
  try simp only [List.getElem_toArray, List.getElem_cons_zero, List.getElem_cons_succ, Act.put, List.setIfInBounds_toArray, List.set_cons_zero, List.set_cons_succ]
  refine wpAnyK_take (i := 1) (v := ?_) rfl (by kernel_rfl) (by kernel_rfl) (by kernel_rfl) (by kernel_rfl) (fun _ _ _ h => h) (Or.inl ⟨by rfl, ?_⟩) (by assumption) ?_
  rotate_left 1
  · (intro wS hSw; (try dsimp only at hSw); go_simp; try with_reducible rfl)
  try simp only [List.getElem_toArray, List.getElem_cons_zero, List.getElem_cons_succ, Act.put, List.setIfInBounds_toArray, List.set_cons_zero, List.set_cons_succ]
  refine wpAnyK_take (i := 2) (v := ?_) rfl (by kernel_rfl) (by kernel_rfl) (by kernel_rfl) (by kernel_rfl) (fun _ _ _ h => h) (Or.inl ⟨by rfl, ?_⟩) (by assumption) ?_
  rotate_left 1
  · (intro wS hSw; (try dsimp only at hSw); go_simp; try with_reducible rfl)
  try simp only [List.getElem_toArray, List.getElem_cons_zero, List.getElem_cons_succ, Act.put, List.setIfInBounds_toArray, List.set_cons_zero, List.set_cons_succ]
  refine wpAnyK_take (i := 3) (v := ?_) rfl (by kernel_rfl) (by kernel_rfl) (by kernel_rfl) (by kernel_rfl) (fun _ _ _ h => h) (Or.inl ⟨by rfl, ?_⟩) (by assumption) ?_
  rotate_left 1
  · (intro wS hSw; (try dsimp only at hSw); go_simp; try with_reducible rfl)
  try simp only [List.getElem_toArray, List.getElem_cons_zero, List.getElem_cons_succ, Act.put, List.setIfInBounds_toArray, List.set_cons_zero, List.set_cons_succ]
  refine wpAnyK_take (i := 4) (v := ?_) rfl (by kernel_rfl) (by kernel_rfl) (by kernel_rfl) (by kernel_rfl) (fun _ _ _ h => h) (Or.inl ⟨by rfl, ?_⟩) (by assumption) ?_
  rotate_left 1
  · (intro wS hSw; (try dsimp only at hSw); go_simp; try with_reducible rfl)
  try simp only [List.getElem_toArray, List.getElem_cons_zero, List.getElem_cons_succ, Act.put, List.setIfInBounds_toArray, List.set_cons_zero, List.set_cons_succ]
  refine wpAnyK_take (i := 5) (v := ?_) rfl (by kernel_rfl) (by kernel_rfl) (by kernel_rfl) (by kernel_rfl) (fun _ _ _ h => h) (Or.inl ⟨by rfl, ?_⟩) (by assumption) ?_
  rotate_left 1
  · (intro wS hSw; (try dsimp only at hSw); go_simp; try with_reducible rfl)
  try simp only [List.getElem_toArray, List.getElem_cons_zero, List.getElem_cons_succ, Act.put, List.setIfInBounds_toArray, List.set_cons_zero, List.set_cons_succ]
  refine wpAnyK_take (i := 6) (v := ?_) rfl (by kernel_rfl) (by kernel_rfl) (by kernel_rfl) (by kernel_rfl) (fun _ _ _ h => h) (Or.inl ⟨by rfl, ?_⟩) (by assumption) ?_
  rotate_left 1
  · (intro wS hSw; (try dsimp only at hSw); go_simp; try with_reducible rfl)
  try simp only [List.getElem_toArray, List.getElem_cons_zero, List.getElem_cons_succ, Act.put, List.setIfInBounds_toArray, List.set_cons_zero, List.set_cons_succ]
  refine wpAnyK_take (i := 7) (v := ?_) rfl (by kernel_rfl) (by kernel_rfl) (by kernel_rfl) (by kernel_rfl) (fun _ _ _ h => h) (Or.inl ⟨by rfl, ?_⟩) (by assumption) ?_
  rotate_left 1
  · (intro wS hSw; (try dsimp only at hSw); go_simp; try with_reducible rfl)
  try simp only [List.getElem_toArray, List.getElem_cons_zero, List.getElem_cons_succ, Act.put, List.setIfInBounds_toArray, List.set_cons_zero, List.set_cons_succ]
  refine wpAnyK_take (i := 8) (v := ?_) rfl (by kernel_rfl) (by kernel_rfl) (by kernel_rfl) (by kernel_rfl) (fun _ _ _ h => h) (Or.inl ⟨by rfl, ?_⟩) (by assumption) ?_
  rotate_left 1
  · (intro wS hSw; (try dsimp only at hSw); go_simp; try with_reducible rfl)
  try simp only [List.getElem_toArray, List.getElem_cons_zero, List.getElem_cons_succ, Act.put, List.setIfInBounds_toArray, List.set_cons_zero, List.set_cons_succ]
  refine wpAnyK_take (i := 9) (v := ?_) rfl (by kernel_rfl) (by kernel_rfl) (by kernel_rfl) (by kernel_rfl) (fun _ _ _ h => h) (Or.inl ⟨by rfl, ?_⟩) (by assumption) ?_
  rotate_left 1
  · (intro wS hSw; (try dsimp only at hSw); go_simp; try with_reducible rfl)
  try simp only [List.getElem_toArray, List.getElem_cons_zero, List.getElem_cons_succ, Act.put, List.setIfInBounds_toArray, List.set_cons_zero, List.set_cons_succ]
  refine wpAnyK_take (i := 10) (v := ?_) rfl (by kernel_rfl) (by kernel_rfl) (by kernel_rfl) (by kernel_rfl) (fun _ _ _ h => h) (Or.inl ⟨by rfl, ?_⟩) (by assumption) ?_
  rotate_left 1
  · (intro wS hSw; (try dsimp only at hSw); go_simp; try with_reducible rfl)
  try simp only [List.getElem_toArray, List.getElem_cons_zero, List.getElem_cons_succ, Act.put, List.setIfInBounds_toArray, List.set_cons_zero, List.set_cons_succ]
  refine wpAnyK_take (i := 11) (v := ?_) rfl (by kernel_rfl) (by kernel_rfl) (by kernel_rfl) (by kernel_rfl) (fun _ _ _ h => h) (Or.inl ⟨by rfl, ?_⟩) (by assumption) ?_
  rotate_left 1
  · (intro wS hSw; (try dsimp only at hSw); go_simp; try with_reducible rfl)
  try simp only [List.getElem_toArray, List.getElem_cons_zero, List.getElem_cons_succ, Act.put, List.setIfInBounds_toArray, List.set_cons_zero, List.set_cons_succ]
  refine wpAnyK_take (i := 12) (v := ?_) rfl (by kernel_rfl) (by kernel_rfl) (by kernel_rfl) (by kernel_rfl) (fun _ _ _ h => h) (Or.inl ⟨by rfl, ?_⟩) (by assumption) ?_
  rotate_left 1
  · (intro wS hSw; (try dsimp only at hSw); go_simp; try with_reducible rfl)
  try simp only [List.getElem_toArray, List.getElem_cons_zero, List.getElem_cons_succ, Act.put, List.setIfInBounds_toArray, List.set_cons_zero, List.set_cons_succ]
  have bA := ((Below.refl wS.heap.size wS).drew).alloc (Nat.le_refl _) (.cells #[strV b, strV c] 83)
  have hown := own_below HPS.out.n bA
  have hnews : ∀ j u, [strV b, strV c][j]? = some u → ((wS.drew).alloc (.cells #[strV b, strV c] 83)).cell? ((⟨wS.heap.size, 0, none⟩ : Addr).add j) = some u := fun j u hu => by
    have hX : ((wS.drew).alloc (.cells #[strV b, strV c] 83)).heap[wS.heap.size]? = some (.cells #[strV b, strV c] 83 (0, 0)) := blk_new rfl
    rw [add_plain, cell_of_row _ _ _ _ _ _ hX, Nat.zero_add]; simpa using hu
  have hone : ∀ u ∈ [strV b, strV c], u.oneCell' = true := by intro u hu; simp at hu; rcases hu with rfl | rfl <;> rfl
  refine wpAnyK_ready (rs := [13]) (by kernel_rfl) (by simp) ?_
  refine AllReadyK.cons rfl (fun K hK => ?_) AllReadyK.nil
  go_simp
  skip
  refine shutK hK (⟨(bA.cell (p := ⟨Y, 2, none⟩) zYS).trans qy, (bA.cell (p := ⟨w.heap.size, 0, none⟩) zW).trans qw, (bA.cell (p := ⟨bw, ow + 1, none⟩) zbS).trans q1, (bA.cell (p := ⟨bw, ow + 2, none⟩) zbS).trans q2⟩) (fun hHeld => ?_)
  clear hK K
  try simp only [List.getElem_toArray, List.getElem_cons_zero, List.getElem_cons_succ, Act.put, List.setIfInBounds_toArray, List.set_cons_zero, List.set_cons_succ]
  refine wpAnyK_ready (rs := [14]) (by kernel_rfl) (by simp) ?_
  refine AllReadyK.cons rfl (fun K hK => ?_) AllReadyK.nil
  refine wp_append_lies _ (.tmp 78) (.tmp 86) 29 (by rfl) B 83 i0 (.agg #[.string ⟨#[]⟩, .string ⟨#[]⟩]) 2 32 Tryz.underlying29 HI.out HZ0.out HZ1.out HZ2.out rfl (by decide) (.slice ax s.rules.nicks.length cx) s.rules.nicks.length (s.rules.nicks.flatMap encP) (by rfl) hown ⟨wS.heap.size, 0, none⟩ 1 1 [strV b, strV c] (by rfl) rfl hnews hone (by omega) (by unfold maxLen; omega) (by omega) (by simp; omega) (wS.heap.size + 1) (by simp) ?_; intro g cap w5 hown5 hg5 hat5 hlt5; have cY5 : w5.cell? ⟨Y, 2, none⟩ = some (.slice ax s.rules.nicks.length cx) := (hg5.cell_far ⟨Y, 2, none⟩ (by simp; omega) (PAt.far_n HPS.out)).trans ((bA.cell (p := ⟨Y, 2, none⟩) zYS).trans qy); have fY5 : w5.frozen? ⟨Y, 2, none⟩ = false := (hg5.frozen_far ⟨Y, 2, none⟩ (by simp; omega) (PAt.far_n HPS.out)).trans ((bA.frozen (p := ⟨Y, 2, none⟩) zYS).trans gy)
  refine shutK_off hK (by decide) ?_
  clear hK K
  try simp only [List.getElem_toArray, List.getElem_cons_zero, List.getElem_cons_succ, Act.put, List.setIfInBounds_toArray, List.set_cons_zero, List.set_cons_succ]
  have hstep := HPS.out.addN hBS (b, c) bA hg5 hown5 (by simpa using hat5)
  have HS := Lib.hid hstep
  clear hstep hown5 hg5 hat5 hown hnews hone bA
  refine wpAnyK_ready (rs := [15]) (by kernel_rfl) (by simp) ?_
  refine AllReadyK.cons rfl (fun K hK => ?_) AllReadyK.nil
  go_simp
  skip
  refine shutK_off hK (by decide) ?_
  clear hK K
  try simp only [List.getElem_toArray, List.getElem_cons_zero, List.getElem_cons_succ, Act.put, List.setIfInBounds_toArray, List.set_cons_zero, List.set_cons_succ]
  refine wpAnyK_ready (rs := [16]) (by kernel_rfl) (by simp) ?_
  refine AllReadyK.cons rfl (fun K hK => ?_) AllReadyK.nil
  go_simp
  skip
  refine shutK_off hK (by decide) ?_
  clear hK K
  try simp only [List.getElem_toArray, List.getElem_cons_zero, List.getElem_cons_succ, Act.put, List.setIfInBounds_toArray, List.set_cons_zero, List.set_cons_succ]
  refine wpAnyK_ready (rs := [17]) (by kernel_rfl) (by simp) ?_
  refine AllReadyK.cons rfl (fun K hK => ?_) AllReadyK.nil
  go_simp
  skip
  refine shutK_off hK (by decide) ?_
  clear hK K
  try simp only [List.getElem_toArray, List.getElem_cons_zero, List.getElem_cons_succ, Act.put, List.setIfInBounds_toArray, List.set_cons_zero, List.set_cons_succ]
  refine wpAnyK_ready (rs := [18]) (by kernel_rfl) (by simp) ?_
  refine AllReadyK.cons rfl (fun K hK => ?_) AllReadyK.nil
  go_simp
  skip
  refine shutK_off hK (by decide) ?_
  clear hK K
  try simp only [List.getElem_toArray, List.getElem_cons_zero, List.getElem_cons_succ, Act.put, List.setIfInBounds_toArray, List.set_cons_zero, List.set_cons_succ]
  refine wpAnyK_done (by kernel_rfl) ?_ _
  refine NoPanic.normal ?_
  go_wp2_with fail
  go_ret
  exact ⟨_, _, _, _, rfl, HS.out.1, (HBS.out.mono hbz).trans HS.out.2⟩
set_option maxHeartbeats 8000000 in
theorem read_street (B Y : Nat) (vf vt vn vs : Value) (s : SchemaL) (wv : Value) (b c : List UInt8) (w : World) (h : PAt B Y vf vt vn vs s w) (hw : Vec w Any1 1 encS wv [streetW, b, c]) (hbz : B ≤ w.heap.size) (hb0 : [] ∉ [streetW, b, c]) (hl : s.rules.streets.length ≤ 1000000) :
    Calls Tryz.prog 73 #[.pointer (some ⟨Y, 0, none⟩), wv] w (ReadPost B Y (3, addS s (b, c)) w) := by
  obtain ⟨bw, ow, cw, rfl, hbw, c0, c1, c2⟩ := words_three hw
  have HH := Lib.hid h; have HW := Lib.hid hw
  have HE := Lib.hid (show hasB [streetW, b, c] [] = false by rw [has_empty]; simpa using hb0)
  obtain ⟨ax, cx, rfl⟩ := own_slice h.s
  obtain ⟨p0, p1, p2, p3⟩ := cells4 h.y
  have fY := (frozen_of_row _ _ _ _ _ h.y : w.frozen? ⟨Y, 3, none⟩ = false)
  have zY := lt_of_blk h.y
  clear h hw hb0
  unfold streetW at c0 HW
  go_enter Tryz.func73, Tryz.ntmps73
  go_wp2_with fail
  refine (contains_any Any1 _ [streetW, b, c] [] _ (HW.out.below ((Below.refl _ _).alloc (Nat.le_refl _) _)) (by simp)).mono ?_
  rw [HE.out]
  rintro e w1 ⟨rfl, rfl⟩
  go_wp2_with fail
  obtain ⟨i0, hi, hz0, hz1, hz2⟩ := info_parts infoP
  have HI := Lib.hid hi; have HZ0 := Lib.hid hz0; have HZ1 := Lib.hid hz1; have HZ2 := Lib.hid hz2
  refine wp_world (fun wS hS => ?_)
  have zS : wS.heap.size = w.heap.size + 1 := by rw [hS]; simp
  have bS : Below w.heap.size w wS := by rw [hS]; exact (Below.refl _ _).alloc (Nat.le_refl _) _
  have qy := (bS.cell (p := ⟨Y, 3, none⟩) zY).trans p3
  have gy := (bS.frozen (p := ⟨Y, 3, none⟩) zY).trans fY
  have qw : wS.cell? ⟨w.heap.size, 0, none⟩ = some (.slice (some ⟨bw, ow, none⟩) 3 cw) := by rw [hS]; simp
  have q1 := (bS.cell (p := ⟨bw, ow + 1, none⟩) hbw).trans c1
  have q2 := (bS.cell (p := ⟨bw, ow + 2, none⟩) hbw).trans c2
  have zYS : Y < wS.heap.size := by omega
  have zbS : bw < wS.heap.size := by omega
  have HPS := Lib.hid (HH.out.below bS)
  have HBS := Lib.hid bS
  have zW : w.heap.size < wS.heap.size := by omega
  have hBS : B ≤ wS.heap.size := by omega
  clear hS bS p0 p1 p2 p3 fY zY hbw c0 HW HH HE c1 c2 zS
  refine wp_region_noPanic ?_
  refine wp_region_k (by kernel_rfl) (fun w' => w'.cell? ⟨Y, 3, none⟩ = some (.slice ax s.rules.streets.length cx) ∧ w'.cell? ⟨w.heap.size, 0, none⟩ = some (.slice (some ⟨bw, ow, none⟩) 3 cw) ∧ w'.cell? ⟨bw, ow + 1, none⟩ = some (strV b) ∧ w'.cell? ⟨bw, ow + 2, none⟩ = some (strV c)) 14 (⟨qy, qw, q1, q2⟩) (fun hHeld => ?_)
  refine wpAnyK_take0 (i := 0) (v := ?_) rfl (by kernel_rfl) (by kernel_rfl) (by kernel_rfl) (by decide) (fun _ _ _ h => h) (Or.inl ⟨by rfl, ?_⟩) (by first | exact fun _ => by assumption | exact fun h => absurd h (by decide)) ?_
  rotate_left 1
  · (intro wS hSw; (try dsimp only at hSw); go_simp; try with_reducible rfl)
  try simp only [List.getElem_toArray, List.getElem_cons_zero, List.getElem_cons_succ, Act.put, List.setIfInBounds_toArray, List.set_cons_zero, List.set_cons_succ]
  refine wpAnyK_take (i := 1) (v := ?_) rfl (by kernel_rfl) (by kernel_rfl) (by kernel_rfl) (by kernel_rfl) (fun _ _ _ h => h) (Or.inl ⟨by rfl, ?_⟩) (by assumption) ?_
  rotate_left 1
  · (intro wS hSw; (try dsimp only at hSw); go_simp; try with_reducible rfl)
  try simp only [List.getElem_toArray, List.getElem_cons_zero, List.getElem_cons_succ, Act.put, List.setIfInBounds_toArray, List.set_cons_zero, List.set_cons_succ]
  refine wpAnyK_take (i := 2) (v := ?_) rfl (by kernel_rfl) (by kernel_rfl) (by kernel_rfl) (by kernel_rfl) (fun _ _ _ h => h) (Or.inl ⟨by rfl, ?_⟩) (by assumption) ?_
  rotate_left 1
  · (intro wS hSw; (try dsimp only at hSw); go_simp; try with_reducible rfl)
  try simp only [List.getElem_toArray, List.getElem_cons_zero, List.getElem_cons_succ, Act.put, List.setIfInBounds_toArray, List.set_cons_zero, List.set_cons_succ]
  refine wpAnyK_take (i := 3) (v := ?_) rfl (by kernel_rfl) (by kernel_rfl) (by kernel_rfl) (by kernel_rfl) (fun _ _ _ h => h) (Or.inl ⟨by rfl, ?_⟩) (by assumption) ?_
  rotate_left 1
  · (intro wS hSw; (try dsimp only at hSw); go_simp; try with_reducible rfl)
  try simp only [List.getElem_toArray, List.getElem_cons_zero, List.getElem_cons_succ, Act.put, List.setIfInBounds_toArray, List.set_cons_zero, List.set_cons_succ]
  refine wpAnyK_take (i := 4) (v := ?_) rfl (by kernel_rfl) (by kernel_rfl) (by kernel_rfl) (by kernel_rfl) (fun _ _ _ h => h) (Or.inl ⟨by rfl, ?_⟩) (by assumption) ?_
  rotate_left 1
  · (intro wS hSw; (try dsimp only at hSw); go_simp; try with_reducible rfl)
  try simp only [List.getElem_toArray, List.getElem_cons_zero, List.getElem_cons_succ, Act.put, List.setIfInBounds_toArray, List.set_cons_zero, List.set_cons_succ]
  refine wpAnyK_take (i := 5) (v := ?_) rfl (by kernel_rfl) (by kernel_rfl) (by kernel_rfl) (by kernel_rfl) (fun _ _ _ h => h) (Or.inl ⟨by rfl, ?_⟩) (by assumption) ?_
  rotate_left 1
  · (intro wS hSw; (try dsimp only at hSw); go_simp; try with_reducible rfl)
  try simp only [List.getElem_toArray, List.getElem_cons_zero, List.getElem_cons_succ, Act.put, List.setIfInBounds_toArray, List.set_cons_zero, List.set_cons_succ]
  refine wpAnyK_take (i := 6) (v := ?_) rfl (by kernel_rfl) (by kernel_rfl) (by kernel_rfl) (by kernel_rfl) (fun _ _ _ h => h) (Or.inl ⟨by rfl, ?_⟩) (by assumption) ?_
  rotate_left 1
  · (intro wS hSw; (try dsimp only at hSw); go_simp; try with_reducible rfl)
  try simp only [List.getElem_toArray, List.getElem_cons_zero, List.getElem_cons_succ, Act.put, List.setIfInBounds_toArray, List.set_cons_zero, List.set_cons_succ]
  refine wpAnyK_take (i := 7) (v := ?_) rfl (by kernel_rfl) (by kernel_rfl) (by kernel_rfl) (by kernel_rfl) (fun _ _ _ h => h) (Or.inl ⟨by rfl, ?_⟩) (by assumption) ?_
  rotate_left 1
  · (intro wS hSw; (try dsimp only at hSw); go_simp; try with_reducible rfl)
  try simp only [List.getElem_toArray, List.getElem_cons_zero, List.getElem_cons_succ, Act.put, List.setIfInBounds_toArray, List.set_cons_zero, List.set_cons_succ]
  refine wpAnyK_take (i := 8) (v := ?_) rfl (by kernel_rfl) (by kernel_rfl) (by kernel_rfl) (by kernel_rfl) (fun _ _ _ h => h) (Or.inl ⟨by rfl, ?_⟩) (by assumption) ?_
  rotate_left 1
  · (intro wS hSw; (try dsimp only at hSw); go_simp; try with_reducible rfl)
  try simp only [List.getElem_toArray, List.getElem_cons_zero, List.getElem_cons_succ, Act.put, List.setIfInBounds_toArray, List.set_cons_zero, List.set_cons_succ]
  refine wpAnyK_take (i := 9) (v := ?_) rfl (by kernel_rfl) (by kernel_rfl) (by kernel_rfl) (by kernel_rfl) (fun _ _ _ h => h) (Or.inl ⟨by rfl, ?_⟩) (by assumption) ?_
  rotate_left 1
  · (intro wS hSw; (try dsimp only at hSw); go_simp; try with_reducible rfl)
  try simp only [List.getElem_toArray, List.getElem_cons_zero, List.getElem_cons_succ, Act.put, List.setIfInBounds_toArray, List.set_cons_zero, List.set_cons_succ]
  refine wpAnyK_take (i := 10) (v := ?_) rfl (by kernel_rfl) (by kernel_rfl) (by kernel_rfl) (by kernel_rfl) (fun _ _ _ h => h) (Or.inl ⟨by rfl, ?_⟩) (by assumption) ?_
  rotate_left 1
  · (intro wS hSw; (try dsimp only at hSw); go_simp; try with_reducible rfl)
  try simp only [List.getElem_toArray, List.getElem_cons_zero, List.getElem_cons_succ, Act.put, List.setIfInBounds_toArray, List.set_cons_zero, List.set_cons_succ]
  refine wpAnyK_take (i := 11) (v := ?_) rfl (by kernel_rfl) (by kernel_rfl) (by kernel_rfl) (by kernel_rfl) (fun _ _ _ h => h) (Or.inl ⟨by rfl, ?_⟩) (by assumption) ?_
  rotate_left 1
  · (intro wS hSw; (try dsimp only at hSw); go_simp; try with_reducible rfl)
  try simp only [List.getElem_toArray, List.getElem_cons_zero, List.getElem_cons_succ, Act.put, List.setIfInBounds_toArray, List.set_cons_zero, List.set_cons_succ]
  refine wpAnyK_take (i := 12) (v := ?_) rfl (by kernel_rfl) (by kernel_rfl) (by kernel_rfl) (by kernel_rfl) (fun _ _ _ h => h) (Or.inl ⟨by rfl, ?_⟩) (by assumption) ?_
  rotate_left 1
  · (intro wS hSw; (try dsimp only at hSw); go_simp; try with_reducible rfl)
  try simp only [List.getElem_toArray, List.getElem_cons_zero, List.getElem_cons_succ, Act.put, List.setIfInBounds_toArray, List.set_cons_zero, List.set_cons_succ]
  have bA := ((Below.refl wS.heap.size wS).drew).alloc (Nat.le_refl _) (.cells #[strV b, strV c] 83)
  have hown := own_below HPS.out.s bA
  have hnews : ∀ j u, [strV b, strV c][j]? = some u → ((wS.drew).alloc (.cells #[strV b, strV c] 83)).cell? ((⟨wS.heap.size, 0, none⟩ : Addr).add j) = some u := fun j u hu => by
    have hX : ((wS.drew).alloc (.cells #[strV b, strV c] 83)).heap[wS.heap.size]? = some (.cells #[strV b, strV c] 83 (0, 0)) := blk_new rfl
    rw [add_plain, cell_of_row _ _ _ _ _ _ hX, Nat.zero_add]; simpa using hu
  have hone : ∀ u ∈ [strV b, strV c], u.oneCell' = true := by intro u hu; simp at hu; rcases hu with rfl | rfl <;> rfl
  refine wpAnyK_ready (rs := [13]) (by kernel_rfl) (by simp) ?_
  refine AllReadyK.cons rfl (fun K hK => ?_) AllReadyK.nil
  go_simp
  skip
  refine shutK hK (⟨(bA.cell (p := ⟨Y, 3, none⟩) zYS).trans qy, (bA.cell (p := ⟨w.heap.size, 0, none⟩) zW).trans qw, (bA.cell (p := ⟨bw, ow + 1, none⟩) zbS).trans q1, (bA.cell (p := ⟨bw, ow + 2, none⟩) zbS).trans q2⟩) (fun hHeld => ?_)
  clear hK K
  try simp only [List.getElem_toArray, List.getElem_cons_zero, List.getElem_cons_succ, Act.put, List.setIfInBounds_toArray, List.set_cons_zero, List.set_cons_succ]
  refine wpAnyK_ready (rs := [14]) (by kernel_rfl) (by simp) ?_
  refine AllReadyK.cons rfl (fun K hK => ?_) AllReadyK.nil
  refine wp_append_lies _ (.tmp 106) (.tmp 114) 29 (by rfl) B 83 i0 (.agg #[.string ⟨#[]⟩, .string ⟨#[]⟩]) 2 32 Tryz.underlying29 HI.out HZ0.out HZ1.out HZ2.out rfl (by decide) (.slice ax s.rules.streets.length cx) s.rules.streets.length (s.rules.streets.flatMap encP) (by rfl) hown ⟨wS.heap.size, 0, none⟩ 1 1 [strV b, strV c] (by rfl) rfl hnews hone (by omega) (by unfold maxLen; omega) (by omega) (by simp; omega) (wS.heap.size + 1) (by simp) ?_; intro g cap w5 hown5 hg5 hat5 hlt5; have cY5 : w5.cell? ⟨Y, 3, none⟩ = some (.slice ax s.rules.streets.length cx) := (hg5.cell_far ⟨Y, 3, none⟩ (by simp; omega) (PAt.far_s HPS.out)).trans ((bA.cell (p := ⟨Y, 3, none⟩) zYS).trans qy); have fY5 : w5.frozen? ⟨Y, 3, none⟩ = false := (hg5.frozen_far ⟨Y, 3, none⟩ (by simp; omega) (PAt.far_s HPS.out)).trans ((bA.frozen (p := ⟨Y, 3, none⟩) zYS).trans gy)
  refine shutK_off hK (by decide) ?_
  clear hK K
  try simp only [List.getElem_toArray, List.getElem_cons_zero, List.getElem_cons_succ, Act.put, List.setIfInBounds_toArray, List.set_cons_zero, List.set_cons_succ]
  have hstep := HPS.out.addS hBS (b, c) bA hg5 hown5 (by simpa using hat5)
  have HS := Lib.hid hstep
  clear hstep hown5 hg5 hat5 hown hnews hone bA
  refine wpAnyK_ready (rs := [15]) (by kernel_rfl) (by simp) ?_
  refine AllReadyK.cons rfl (fun K hK => ?_) AllReadyK.nil
  go_simp
  skip
  refine shutK_off hK (by decide) ?_
  clear hK K
  try simp only [List.getElem_toArray, List.getElem_cons_zero, List.getElem_cons_succ, Act.put, List.setIfInBounds_toArray, List.set_cons_zero, List.set_cons_succ]
  refine wpAnyK_ready (rs := [16]) (by kernel_rfl) (by simp) ?_
  refine AllReadyK.cons rfl (fun K hK => ?_) AllReadyK.nil
  go_simp
  skip
  refine shutK_off hK (by decide) ?_
  clear hK K
  try simp only [List.getElem_toArray, List.getElem_cons_zero, List.getElem_cons_succ, Act.put, List.setIfInBounds_toArray, List.set_cons_zero, List.set_cons_succ]
  refine wpAnyK_ready (rs := [17]) (by kernel_rfl) (by simp) ?_
  refine AllReadyK.cons rfl (fun K hK => ?_) AllReadyK.nil
  go_simp
  skip
  refine shutK_off hK (by decide) ?_
  clear hK K
  try simp only [List.getElem_toArray, List.getElem_cons_zero, List.getElem_cons_succ, Act.put, List.setIfInBounds_toArray, List.set_cons_zero, List.set_cons_succ]
  refine wpAnyK_ready (rs := [18]) (by kernel_rfl) (by simp) ?_
  refine AllReadyK.cons rfl (fun K hK => ?_) AllReadyK.nil
  go_simp
  skip
  refine shutK_off hK (by decide) ?_
  clear hK K
  try simp only [List.getElem_toArray, List.getElem_cons_zero, List.getElem_cons_succ, Act.put, List.setIfInBounds_toArray, List.set_cons_zero, List.set_cons_succ]
  refine wpAnyK_done (by kernel_rfl) ?_ _
  refine NoPanic.normal ?_
  go_wp2_with fail
  go_ret
  exact ⟨_, _, _, _, rfl, HS.out.1, (HBS.out.mono hbz).trans HS.out.2⟩
-- END
theorem pred_read (c : List UInt8) (B0 bw ow cw : Nat) (w : World) (hB : B0 < w.heap.size) (hbw : bw < w.heap.size) (h0 : w.cell? ⟨B0, 0, none⟩ = some (.slice (some ⟨bw, ow, none⟩) 3 cw)) (h2 : w.cell? ⟨bw, ow + 2, none⟩ = some (strV c)) :
    PredAt Tryz.prog 122 #[.pointer (some ⟨B0, 0, none⟩)] strV (fun x => x == c) w := fun W x hb => by
  have h0' : W.cell? ⟨B0, 0, none⟩ = some (.slice (some ⟨bw, ow, none⟩) 3 cw) := (hb.cell (p := ⟨B0, 0, none⟩) hB).trans h0
  have h2' : W.cell? ⟨bw, ow + 2, none⟩ = some (strV c) := (hb.cell (p := ⟨bw, ow + 2, none⟩) hbw).trans h2
  clear hb h0 h2 hB hbw
  show Calls Tryz.prog 122 #[strV x, .pointer (some ⟨B0, 0, none⟩)] W _
  go_enter Tryz.func122, Tryz.ntmps122
  go_wp2
  go_ret
  exact ⟨rfl, 0, rfl⟩
theorem idx_words (v : Value) (g : Nat) (lb : Array Value) (eg : ∀ args w, (callFunc g args).run Tryz.prog w = .ok (.enter g args) w) (c : List UInt8) (w0 w : World) (ho : OwnAt w0 v wordsL w) (hp : PredAt Tryz.prog g lb strV (fun x => x == c) w) :
    Calls Tryz.prog 119 #[v, .func (.func g) #[] lb] w fun e w' => e = .returned (.int .i64 (kindNum c - 1)) ∧ Below w.heap.size w w' := by
  have hv := Vec.owns (S := Any1) (k := 1) (enc := encS) (L := wordsL) (fun _ => rfl) ho.1 (fun _ _ _ => trivial)
  obtain ⟨a, cap, rfl⟩ := hv.slice
  obtain ⟨b, off, rfl, _, hb, hc⟩ := vec_cell1 hv (by show 0 < 4; decide)
  have h := Tryz.slices_IndexFunc strV (fun x => x == c) g lb eg b off wordsL.length cap wordsL w hp (Nat.le_refl _) (by show 4 ≤ _; omega) (fun j hj => by
    have := hc j hj
    rw [this, List.getD, List.getElem?_eq_getElem hj, getElem!_pos wordsL j hj]; rfl)
  rw [List.take_of_length_le (Nat.le_refl _), idx_kind] at h
  refine h.mono ?_
  rintro e w' ⟨rfl, q, rfl⟩
  exact ⟨rfl, below_drewN (Below.refl _ _) q⟩
set_option maxHeartbeats 8000000 in
theorem read_field (B Y : Nat) (vf vt vn vs : Value) (s : SchemaL) (wv : Value) (b c : List UInt8) (w : World) (h : PAt B Y vf vt vn vs s w) (hw : Vec w Any1 1 encS wv [fieldW, b, c]) (hbz : B ≤ w.heap.size) (hb0 : [] ∉ [fieldW, b, c]) (hl : s.fields.length ≤ 1000000) (r : Int × SchemaL) (hr : r = if kindNum c = 0 then (-1, s) else (0, addF s (b, kindNum c))) :
    Calls Tryz.prog 73 #[.pointer (some ⟨Y, 0, none⟩), wv] w (ReadPost B Y r w) := by
  obtain ⟨bw, ow, cw, rfl, hbw, c0, c1, c2⟩ := words_three hw
  have HH := Lib.hid h; have HW := Lib.hid hw
  have HE := Lib.hid (show hasB [fieldW, b, c] [] = false by rw [has_empty]; simpa using hb0)
  obtain ⟨ax, cx, rfl⟩ := own_slice h.f
  have zY := lt_of_blk h.y
  have HR := Lib.hid hr
  clear h hw hb0 hr
  unfold fieldW at c0 HW
  go_enter Tryz.func73, Tryz.ntmps73
  go_wp2_with fail
  refine (contains_any Any1 _ [fieldW, b, c] [] _ (HW.out.below ((Below.refl _ _).alloc (Nat.le_refl _) _)) (by simp)).mono ?_
  rw [HE.out]
  rintro e w1 ⟨rfl, rfl⟩
  go_wp2_with fail
  have bS := (Below.refl w.heap.size w).alloc (Nat.le_refl _) (.cells #[.slice (some ⟨bw, ow, none⟩) 3 cw] 28)
  have qw : (w.alloc (.cells #[.slice (some ⟨bw, ow, none⟩) 3 cw] 28)).cell? ⟨w.heap.size, 0, none⟩ = some (.slice (some ⟨bw, ow, none⟩) 3 cw) := by simp
  have q1 := (bS.cell (p := ⟨bw, ow + 1, none⟩) hbw).trans c1
  have q2 := (bS.cell (p := ⟨bw, ow + 2, none⟩) hbw).trans c2
  have HPS := Lib.hid (HH.out.below bS)
  have HBS := Lib.hid bS
  have zW : w.heap.size < (w.alloc (.cells #[.slice (some ⟨bw, ow, none⟩) 3 cw] 28)).heap.size := by simp
  have zbS : bw < (w.alloc (.cells #[.slice (some ⟨bw, ow, none⟩) 3 cw] 28)).heap.size := by simp; omega
  clear bS c0 HW HH HE c1 c2 zY
  refine (collect_words _).mono ?_
  rintro e w2 ⟨v, rfl, ho⟩
  have HO := Lib.hid ho
  have qw := (ho.2.cell (p := ⟨w.heap.size, 0, none⟩) zW).trans qw
  have q1 := (ho.2.cell (p := ⟨bw, ow + 1, none⟩) zbS).trans q1
  have q2 := (ho.2.cell (p := ⟨bw, ow + 2, none⟩) zbS).trans q2
  have z2 := ho.2.size
  clear ho
  go_wp2_with fail
  have eg : ∀ args w, (callFunc 122 args).run Tryz.prog w = .ok (.enter 122 args) w := enters_of Tryz.func122 (by kernel_rfl) rfl
  refine (idx_words v 122 #[.pointer (some ⟨w.heap.size, 0, none⟩)] eg c _ _ HO.out (pred_read c w.heap.size bw ow cw _ (by omega) (by omega) qw q2)).mono ?_
  rintro e w3 ⟨rfl, hb3⟩
  have HPS3 := Lib.hid (HPS.out.below (HO.out.2.trans (hb3.mono z2)))
  have HBS3 := Lib.hid (HBS.out.trans ((HO.out.2.trans (hb3.mono z2)).mono (Nat.le_of_lt zW)))
  have qw := (hb3.cell (p := ⟨w.heap.size, 0, none⟩) (by show w.heap.size < _; omega)).trans qw
  have q1 := (hb3.cell (p := ⟨bw, ow + 1, none⟩) (by show bw < _; omega)).trans q1
  have z3 := hb3.size
  clear hb3 eg HPS HBS HO q2
  by_cases hk : kindNum c = 0
  · have HK := Lib.hid hk
    rw [hk]
    clear hk
    go_wp2_with fail
    go_ret
    exact ⟨_, _, _, _, by rw [HR.out, if_pos HK.out]; rfl, by rw [HR.out, if_pos HK.out]; exact HPS3.out, HBS3.out.mono hbz⟩
  · obtain ⟨_, k1, k4⟩ := kindW_num c hk
    obtain ⟨j, hj⟩ := Int.eq_ofNat_of_zero_le (show 0 ≤ kindNum c - 1 by omega)
    have hj3 : j ≤ 3 := by omega
    have HK := Lib.hid hk
    have HJ := Lib.hid (show kindNum c = (j : Int) + 1 by omega)
    rw [hj]
    clear hk hj k1 k4
    go_wp2_with fail
    obtain ⟨i0, hi, hz0, hz1, hz2⟩ := info_parts infoF
    have HI := Lib.hid hi; have HZ0 := Lib.hid hz0; have HZ1 := Lib.hid hz1; have HZ2 := Lib.hid hz2
    have qy := (cells4 HPS3.out.y).1
    have gy := (frozen_of_row _ _ _ _ _ HPS3.out.y : w3.frozen? ⟨Y, 0, none⟩ = false)
    have zYS := lt_of_blk HPS3.out.y
    have zW : w.heap.size < w3.heap.size := by omega
    have zbS : bw < w3.heap.size := by omega
    have hBS : B ≤ w3.heap.size := by omega
    clear hi hz0 hz1 hz2
    refine wp_region_noPanic ?_
    refine wp_region_k (by kernel_rfl) (fun w' => w'.cell? ⟨Y, 0, none⟩ = some (.slice ax s.fields.length cx) ∧ w'.cell? ⟨w.heap.size, 0, none⟩ = some (.slice (some ⟨bw, ow, none⟩) 3 cw) ∧ w'.cell? ⟨bw, ow + 1, none⟩ = some (strV b)) 12 (⟨qy, qw, q1⟩) (fun hHeld => ?_)
    refine wpAnyK_take0 (i := 0) (v := ?_) rfl (by kernel_rfl) (by kernel_rfl) (by kernel_rfl) (by decide) (fun _ _ _ h => h) (Or.inl ⟨by rfl, ?_⟩) (by first | exact fun _ => by assumption | exact fun h => absurd h (by decide)) ?_
    rotate_left 1
    · (intro wS hSw; (try dsimp only at hSw); go_simp; try with_reducible rfl)
    try simp only [List.getElem_toArray, List.getElem_cons_zero, List.getElem_cons_succ, Act.put, List.setIfInBounds_toArray, List.set_cons_zero, List.set_cons_succ]
    have hwr : IntKind.i64.wrap ((j : Int) + 1) = (j : Int) + 1 := IntWalk.i64_in _ (by omega)
    refine wpAnyK_take (i := 1) (v := ?_) rfl (by kernel_rfl) (by kernel_rfl) (by kernel_rfl) (by kernel_rfl) (fun _ _ _ h => h) (Or.inl ⟨by rfl, ?_⟩) (by assumption) ?_
    rotate_left 1
    · (intro wS hSw; (try dsimp only at hSw); go_simp; try with_reducible rfl)
    try simp only [List.getElem_toArray, List.getElem_cons_zero, List.getElem_cons_succ, Act.put, List.setIfInBounds_toArray, List.set_cons_zero, List.set_cons_succ]
    refine wpAnyK_take (i := 2) (v := ?_) rfl (by kernel_rfl) (by kernel_rfl) (by kernel_rfl) (by kernel_rfl) (fun _ _ _ h => h) (Or.inl ⟨by rfl, ?_⟩) (by assumption) ?_
    rotate_left 1
    · (intro wS hSw; (try dsimp only at hSw); go_simp; try with_reducible rfl)
    try simp only [List.getElem_toArray, List.getElem_cons_zero, List.getElem_cons_succ, Act.put, List.setIfInBounds_toArray, List.set_cons_zero, List.set_cons_succ]
    refine wpAnyK_take (i := 3) (v := ?_) rfl (by kernel_rfl) (by kernel_rfl) (by kernel_rfl) (by kernel_rfl) (fun _ _ _ h => h) (Or.inl ⟨by rfl, ?_⟩) (by assumption) ?_
    rotate_left 1
    · (intro wS hSw; (try dsimp only at hSw); go_simp; try with_reducible rfl)
    try simp only [List.getElem_toArray, List.getElem_cons_zero, List.getElem_cons_succ, Act.put, List.setIfInBounds_toArray, List.set_cons_zero, List.set_cons_succ]
    refine wpAnyK_take (i := 4) (v := ?_) rfl (by kernel_rfl) (by kernel_rfl) (by kernel_rfl) (by kernel_rfl) (fun _ _ _ h => h) (Or.inl ⟨by rfl, ?_⟩) (by assumption) ?_
    rotate_left 1
    · (intro wS hSw; (try dsimp only at hSw); go_simp; try with_reducible rfl)
    try simp only [List.getElem_toArray, List.getElem_cons_zero, List.getElem_cons_succ, Act.put, List.setIfInBounds_toArray, List.set_cons_zero, List.set_cons_succ]
    refine wpAnyK_take (i := 5) (v := ?_) rfl (by kernel_rfl) (by kernel_rfl) (by kernel_rfl) (by kernel_rfl) (fun _ _ _ h => h) (Or.inl ⟨by rfl, ?_⟩) (by assumption) ?_
    rotate_left 1
    · (intro wS hSw; (try dsimp only at hSw); go_simp; try with_reducible rfl)
    try simp only [List.getElem_toArray, List.getElem_cons_zero, List.getElem_cons_succ, Act.put, List.setIfInBounds_toArray, List.set_cons_zero, List.set_cons_succ]
    refine wpAnyK_take (i := 6) (v := ?_) rfl (by kernel_rfl) (by kernel_rfl) (by kernel_rfl) (by kernel_rfl) (fun _ _ _ h => h) (Or.inl ⟨by rfl, ?_⟩) (by assumption) ?_
    rotate_left 1
    · (intro wS hSw; (try dsimp only at hSw); go_simp; try with_reducible rfl)
    try simp only [List.getElem_toArray, List.getElem_cons_zero, List.getElem_cons_succ, Act.put, List.setIfInBounds_toArray, List.set_cons_zero, List.set_cons_succ]
    refine wpAnyK_take (i := 7) (v := ?_) rfl (by kernel_rfl) (by kernel_rfl) (by kernel_rfl) (by kernel_rfl) (fun _ _ _ h => h) (Or.inl ⟨by rfl, ?_⟩) (by assumption) ?_
    rotate_left 1
    · (intro wS hSw; (try dsimp only at hSw); go_simp; try with_reducible rfl)
    try simp only [List.getElem_toArray, List.getElem_cons_zero, List.getElem_cons_succ, Act.put, List.setIfInBounds_toArray, List.set_cons_zero, List.set_cons_succ]
    refine wpAnyK_take (i := 8) (v := ?_) rfl (by kernel_rfl) (by kernel_rfl) (by kernel_rfl) (by kernel_rfl) (fun _ _ _ h => h) (Or.inl ⟨by rfl, ?_⟩) (by assumption) ?_
    rotate_left 1
    · (intro wS hSw; (try dsimp only at hSw); go_simp; try with_reducible rfl)
    try simp only [List.getElem_toArray, List.getElem_cons_zero, List.getElem_cons_succ, Act.put, List.setIfInBounds_toArray, List.set_cons_zero, List.set_cons_succ]
    refine wpAnyK_take (i := 9) (v := ?_) rfl (by kernel_rfl) (by kernel_rfl) (by kernel_rfl) (by kernel_rfl) (fun _ _ _ h => h) (Or.inl ⟨by rfl, ?_⟩) (by assumption) ?_
    rotate_left 1
    · (intro wS hSw; (try dsimp only at hSw); go_simp; try with_reducible rfl)
    try simp only [List.getElem_toArray, List.getElem_cons_zero, List.getElem_cons_succ, Act.put, List.setIfInBounds_toArray, List.set_cons_zero, List.set_cons_succ]
    refine wpAnyK_take (i := 10) (v := ?_) rfl (by kernel_rfl) (by kernel_rfl) (by kernel_rfl) (by kernel_rfl) (fun _ _ _ h => h) (Or.inl ⟨by rfl, ?_⟩) (by assumption) ?_
    rotate_left 1
    · (intro wS hSw; (try dsimp only at hSw); go_simp; try with_reducible rfl)
    try simp only [List.getElem_toArray, List.getElem_cons_zero, List.getElem_cons_succ, Act.put, List.setIfInBounds_toArray, List.set_cons_zero, List.set_cons_succ]
    clear hwr
    have bA := ((Below.refl w3.heap.size w3).drew).alloc (Nat.le_refl _) (.cells #[strV b, .int .i64 ((j : Int) + 1)] 42)
    have hown := own_below HPS3.out.f bA
    have hnews : ∀ i u, [strV b, Value.int .i64 ((j : Int) + 1)][i]? = some u → ((w3.drew).alloc (.cells #[strV b, .int .i64 ((j : Int) + 1)] 42)).cell? ((⟨w3.heap.size, 0, none⟩ : Addr).add i) = some u := fun i u hu => by
      have hX : ((w3.drew).alloc (.cells #[strV b, .int .i64 ((j : Int) + 1)] 42)).heap[w3.heap.size]? = some (.cells #[strV b, .int .i64 ((j : Int) + 1)] 42 (0, 0)) := blk_new rfl
      rw [add_plain, cell_of_row _ _ _ _ _ _ hX, Nat.zero_add]; simpa using hu
    have hone : ∀ u ∈ [strV b, Value.int .i64 ((j : Int) + 1)], u.oneCell' = true := by intro u hu; simp at hu; rcases hu with rfl | rfl <;> rfl
    refine wpAnyK_ready (rs := [11]) (by kernel_rfl) (by simp) ?_
    refine AllReadyK.cons rfl (fun K hK => ?_) AllReadyK.nil
    go_simp
    skip
    refine shutK hK (⟨(bA.cell (p := ⟨Y, 0, none⟩) zYS).trans qy, (bA.cell (p := ⟨w.heap.size, 0, none⟩) zW).trans qw, (bA.cell (p := ⟨bw, ow + 1, none⟩) zbS).trans q1⟩) (fun hHeld => ?_)
    clear hK K
    try simp only [List.getElem_toArray, List.getElem_cons_zero, List.getElem_cons_succ, Act.put, List.setIfInBounds_toArray, List.set_cons_zero, List.set_cons_succ]
    refine wpAnyK_ready (rs := [12]) (by kernel_rfl) (by simp) ?_
    refine AllReadyK.cons rfl (fun K hK => ?_) AllReadyK.nil
    refine wp_append_lies _ (.tmp 28) (.tmp 35) 27 (by rfl) B 42 i0 (.agg #[.string ⟨#[]⟩, .int .i64 0]) 2 24 Tryz.underlying27 HI.out HZ0.out HZ1.out HZ2.out rfl (by decide) (.slice ax s.fields.length cx) s.fields.length (s.fields.flatMap encF) (by rfl) hown ⟨w3.heap.size, 0, none⟩ 1 1 [strV b, .int .i64 ((j : Int) + 1)] (by rfl) rfl hnews hone (by omega) (by unfold maxLen; omega) (by omega) (by simp; omega) (w3.heap.size + 1) (by simp) ?_; intro g cap w5 hown5 hg5 hat5 hlt5; have cY5 : w5.cell? ⟨Y, 0, none⟩ = some (.slice ax s.fields.length cx) := (hg5.cell_far ⟨Y, 0, none⟩ (by simp; omega) (PAt.far_f HPS3.out)).trans ((bA.cell (p := ⟨Y, 0, none⟩) zYS).trans qy); have fY5 : w5.frozen? ⟨Y, 0, none⟩ = false := (hg5.frozen_far ⟨Y, 0, none⟩ (by simp; omega) (PAt.far_f HPS3.out)).trans ((bA.frozen (p := ⟨Y, 0, none⟩) zYS).trans gy)
    refine shutK_off hK (by decide) ?_
    clear hK K
    try simp only [List.getElem_toArray, List.getElem_cons_zero, List.getElem_cons_succ, Act.put, List.setIfInBounds_toArray, List.set_cons_zero, List.set_cons_succ]
    have hstep := HPS3.out.addF hBS (b, (j : Int) + 1) bA hg5 hown5 (by simpa using hat5)
    have HS := Lib.hid hstep
    clear hstep hown5 hg5 hat5 hown hnews hone bA
    refine wpAnyK_ready (rs := [13]) (by kernel_rfl) (by simp) ?_
    refine AllReadyK.cons rfl (fun K hK => ?_) AllReadyK.nil
    go_simp
    skip
    refine shutK_off hK (by decide) ?_
    clear hK K
    try simp only [List.getElem_toArray, List.getElem_cons_zero, List.getElem_cons_succ, Act.put, List.setIfInBounds_toArray, List.set_cons_zero, List.set_cons_succ]
    refine wpAnyK_ready (rs := [14]) (by kernel_rfl) (by simp) ?_
    refine AllReadyK.cons rfl (fun K hK => ?_) AllReadyK.nil
    go_simp
    skip
    refine shutK_off hK (by decide) ?_
    clear hK K
    try simp only [List.getElem_toArray, List.getElem_cons_zero, List.getElem_cons_succ, Act.put, List.setIfInBounds_toArray, List.set_cons_zero, List.set_cons_succ]
    refine wpAnyK_ready (rs := [15]) (by kernel_rfl) (by simp) ?_
    refine AllReadyK.cons rfl (fun K hK => ?_) AllReadyK.nil
    go_simp
    skip
    refine shutK_off hK (by decide) ?_
    clear hK K
    try simp only [List.getElem_toArray, List.getElem_cons_zero, List.getElem_cons_succ, Act.put, List.setIfInBounds_toArray, List.set_cons_zero, List.set_cons_succ]
    refine wpAnyK_done (by kernel_rfl) ?_ _
    refine NoPanic.normal ?_
    go_wp2_with fail
    go_ret
    exact ⟨_, _, _, _, by rw [HR.out, if_neg HK.out]; rfl, by rw [HR.out, if_neg HK.out, HJ.out]; exact HS.out.1, (HBS3.out.mono hbz).trans HS.out.2⟩
set_option maxHeartbeats 4000000 in
theorem read_w3 (B Y : Nat) (vf vt vn vs : Value) (s : SchemaL) (wv : Value) (a b c : List UInt8) (w : World) (h : PAt B Y vf vt vn vs s w) (hw : Vec w Any1 1 encS wv [a, b, c]) (hbz : B ≤ w.heap.size) (hb0 : [] ∉ [a, b, c]) (h1 : a ≠ fieldW) (h2 : a ≠ nickW) (h3 : a ≠ streetW) :
    Calls Tryz.prog 73 #[.pointer (some ⟨Y, 0, none⟩), wv] w (ReadPost B Y (-1, s) w) := by
  obtain ⟨bw, ow, cw, rfl, hbw, c0, c1, c2⟩ := words_three hw
  have HH := Lib.hid h; have HW := Lib.hid hw
  have HE := Lib.hid (show hasB [a, b, c] [] = false by rw [has_empty]; simpa using hb0)
  have e1 : (a == [102, 105, 101, 108, 100]) = false := by simpa [fieldW] using h1
  have e2 : (a == [110, 105, 99, 107, 110, 97, 109, 101]) = false := by simpa [nickW] using h2
  have e3 : (a == [115, 116, 114, 101, 101, 116]) = false := by simpa [streetW] using h3
  clear h hw hb0 h1 h2 h3
  go_enter Tryz.func73, Tryz.ntmps73
  go_wp2_with fail
  refine (contains_any Any1 _ [a, b, c] [] _ (HW.out.below ((Below.refl _ _).alloc (Nat.le_refl _) _)) (by simp)).mono ?_
  rw [HE.out]
  rintro e w1 ⟨rfl, rfl⟩
  go_wp2_with fail
  go_ret
  exact ⟨vf, vt, vn, vs, rfl, HH.out.below ((Below.refl _ _).alloc (Nat.le_refl _) _), (Below.refl _ _).alloc hbz _⟩
set_option maxHeartbeats 4000000 in
theorem read_w2 (B Y : Nat) (vf vt vn vs : Value) (s : SchemaL) (wv : Value) (a b : List UInt8) (w : World) (h : PAt B Y vf vt vn vs s w) (hw : Vec w Any1 1 encS wv [a, b]) (hbz : B ≤ w.heap.size) (hb0 : [] ∉ [a, b]) (h1 : a ≠ titleW) :
    Calls Tryz.prog 73 #[.pointer (some ⟨Y, 0, none⟩), wv] w (ReadPost B Y (-1, s) w) := by
  obtain ⟨bw, ow, cw, rfl, hbw, c0, c1⟩ := words_two hw
  have HH := Lib.hid h; have HW := Lib.hid hw
  have HE := Lib.hid (show hasB [a, b] [] = false by rw [has_empty]; simpa using hb0)
  have e1 : (a == [116, 105, 116, 108, 101]) = false := by simpa [titleW] using h1
  clear h hw hb0 h1
  go_enter Tryz.func73, Tryz.ntmps73
  go_wp2_with fail
  refine (contains_any Any1 _ [a, b] [] _ (HW.out.below ((Below.refl _ _).alloc (Nat.le_refl _) _)) (by simp)).mono ?_
  rw [HE.out]
  rintro e w1 ⟨rfl, rfl⟩
  go_wp2_with fail
  go_ret
  exact ⟨vf, vt, vn, vs, rfl, HH.out.below ((Below.refl _ _).alloc (Nat.le_refl _) _), (Below.refl _ _).alloc hbz _⟩
structure Room (s : SchemaL) (N : Nat) : Prop where
  f : s.fields.length ≤ N
  t : s.rules.titles.length ≤ N
  n : s.rules.nicks.length ≤ N
  s : s.rules.streets.length ≤ N
theorem Room.read {s : SchemaL} {n : Nat} (h : Room s n) (L : List (List UInt8)) : Room (readN s L).2 (n + 1) := by
  obtain ⟨h1, h2, h3, h4⟩ := h
  have h0 : Room s (n + 1) := ⟨by omega, by omega, by omega, by omega⟩
  unfold readN
  repeat' split
  all_goals first
    | exact h0
    | exact ⟨by simp [addF]; omega, by simp [addF]; omega, by simp [addF]; omega, by simp [addF]; omega⟩
    | exact ⟨by simp [addT]; omega, by simp [addT]; omega, by simp [addT]; omega, by simp [addT]; omega⟩
    | exact ⟨by simp [addN]; omega, by simp [addN]; omega, by simp [addN]; omega, by simp [addN]; omega⟩
    | exact ⟨by simp [addS]; omega, by simp [addS]; omega, by simp [addS]; omega, by simp [addS]; omega⟩
theorem len_two {α : Type} {L : List α} (h : L.length = 2) : ∃ a b, L = [a, b] := by
  rcases L with _ | ⟨a, _ | ⟨b, _ | ⟨c, L⟩⟩⟩
  · simp at h
  · simp at h
  · exact ⟨a, b, rfl⟩
  · simp at h
theorem len_three {α : Type} {L : List α} (h : L.length = 3) : ∃ a b c, L = [a, b, c] := by
  rcases L with _ | ⟨a, _ | ⟨b, _ | ⟨c, _ | ⟨d, L⟩⟩⟩⟩
  · simp at h
  · simp at h
  · simp at h
  · exact ⟨a, b, c, rfl⟩
  · simp at h
theorem sread_any (B Y : Nat) (vf vt vn vs : Value) (s : SchemaL) (wv : Value) (L : List (List UInt8)) (w : World) (h : PAt B Y vf vt vn vs s w) (hw : Vec w Any1 1 encS wv L) (hn : L.length ≤ 1000000) (hbz : B ≤ w.heap.size) (hr : Room s 1000000) :
    Calls Tryz.prog 73 #[.pointer (some ⟨Y, 0, none⟩), wv] w (ReadPost B Y (readN s L) w) := by
  by_cases h0 : [] ∈ L
  · exact read_bad B Y vf vt vn vs s wv L w h hw hn hbz h0
  · by_cases h2 : L.length = 2
    · obtain ⟨a, b, rfl⟩ := len_two h2
      by_cases e1 : a = titleW
      · subst e1
        have := read_title B Y vf vt vn vs s wv b w h hw hbz h0 hr.t
        rwa [show readN s [titleW, b] = (1, addT s b) by unfold readN; rw [if_neg h0]; dsimp only; rw [if_pos rfl]]
      · rw [show readN s [a, b] = (-1, s) by unfold readN; rw [if_neg h0]; dsimp only; rw [if_neg e1]]
        exact read_w2 B Y vf vt vn vs s wv a b w h hw hbz h0 e1
    · by_cases h3 : L.length = 3
      · obtain ⟨a, b, c, rfl⟩ := len_three h3
        by_cases e1 : a = fieldW
        · subst e1
          exact read_field B Y vf vt vn vs s wv b c w h hw hbz h0 hr.f _ (by unfold readN; rw [if_neg h0]; dsimp only; rw [if_pos rfl])
        · by_cases e2 : a = nickW
          · subst e2
            rw [show readN s [nickW, b, c] = (2, addN s (b, c)) by unfold readN; rw [if_neg h0]; dsimp only; rw [if_neg e1, if_pos rfl]]
            exact read_nick B Y vf vt vn vs s wv b c w h hw hbz h0 hr.n
          · by_cases e3 : a = streetW
            · subst e3
              rw [show readN s [streetW, b, c] = (3, addS s (b, c)) by unfold readN; rw [if_neg h0]; dsimp only; rw [if_neg e1, if_neg e2, if_pos rfl]]
              exact read_street B Y vf vt vn vs s wv b c w h hw hbz h0 hr.s
            · rw [show readN s [a, b, c] = (-1, s) by unfold readN; rw [if_neg h0]; dsimp only; rw [if_neg e1, if_neg e2, if_neg e3]]
              exact read_w3 B Y vf vt vn vs s wv a b c w h hw hbz h0 e1 e2 e3
      · exact read_odd B Y vf vt vn vs s wv L w h hw hn hbz h0 h2 h3
end Go.Proofs.YtfgoiojmbphmnaaGreatDoor
end
