/-
  For every input the law RecordOrder returns true, and its arguments read afterwards as they read before; no condition.
-/
import Derived.Test.YteijllklpneagaaGreatDoorPartRm7
import Derived.Test.YteijllklpneagaaGreatDoorRows
import Derived.ProofKit
import Derived.JoinedOf
import Derived.WalkKit
import Derived.OpenShut
import Derived.ShutString
import Derived.ChangeOld
import Derived.Below
import Derived.Lib.SmallJoins
import Derived.Test.YteijllklpneagaaGreatDoorCards
import Derived.Test.YteijllklpneagaaGreatDoorTie
import Derived.LaidMore
import Derived.Lay
import Derived.SevenTiedAt
import Derived.Stop.Joined
section
/-
  The closed facts of the row of RecordOrder, each a lemma of its own (so that the kernel gives its memory back behind each).
-/
namespace Go.Proofs.YteijllklpneagaaGreatDoor.recordOrder
theorem and_tt {a b : Bool} (h : a = true) (h' : b = true) : (a && b) = true := by rw [h, h']; rfl
set_option maxRecDepth 100000 in
set_option maxHeartbeats 100000000 in
theorem closed : joinedFacts Tryz.pinned.checked.prog 6 Tryz.f6 Rows.recordOrderSpec Rows.recordOrderRow = true := by
  unfold joinedFacts
  repeat' (with_reducible refine and_tt ?_ ?_)
  · as_aux_lemma => kernel_rfl
  · as_aux_lemma => kernel_rfl
  · as_aux_lemma => kernel_rfl
  · as_aux_lemma => kernel_rfl
  · as_aux_lemma => kernel_rfl
  · as_aux_lemma => kernel_rfl
  · as_aux_lemma => kernel_rfl
  · as_aux_lemma => kernel_rfl
  · as_aux_lemma => kernel_rfl
  · as_aux_lemma => kernel_rfl
  · as_aux_lemma => kernel_rfl
  · as_aux_lemma => kernel_rfl
  · as_aux_lemma => kernel_rfl
  · as_aux_lemma => kernel_rfl
  · as_aux_lemma => kernel_rfl
  · as_aux_lemma => kernel_rfl
  · as_aux_lemma => kernel_rfl
  · as_aux_lemma => kernel_rfl
  · as_aux_lemma => kernel_rfl
  · as_aux_lemma => kernel_rfl
  · as_aux_lemma => kernel_rfl
  · as_aux_lemma => kernel_rfl
  · as_aux_lemma => kernel_rfl
  · as_aux_lemma => kernel_rfl
  · as_aux_lemma => kernel_rfl
  · as_aux_lemma => kernel_rfl
  · as_aux_lemma => kernel_rfl
  · as_aux_lemma => kernel_rfl
  · as_aux_lemma => kernel_rfl
  · as_aux_lemma => kernel_rfl
  · as_aux_lemma => kernel_rfl
  · as_aux_lemma => kernel_rfl
end Go.Proofs.YteijllklpneagaaGreatDoor.recordOrder
end
section
/- The law RecordOrder, walked: for every list of numbers it returns true and leaves what was there. -/
set_option linter.unusedSimpArgs false
set_option linter.unusedVariables false
set_option maxRecDepth 100000
namespace Go.Proofs.YteijllklpneagaaGreatDoor
open Go.RowKit Cal
attribute [local go_sem] toList_mk mk_size bytes_append
/-- where the law stands: the deck in block D, the schema in block y -/
structure OsAt (D : Nat) (w : World) (y : Nat) (S : Nat → Prop) (vf vt vn vs : Value) (s : SchemaL) (wr : World) : Prop where
  m : Moved D w wr
  b : wr.heap[y]? = some (.cells #[vf, vt, vn, vs] 33 (0, 0))
  s : SchemaAt wr S vf vt vn vs s
  ne : ∀ b, S b → b ≠ D
  yD : y ≠ D
theorem OsAt.moved {D : Nat} {w : World} {y : Nat} {S : Nat → Prop} {vf vt vn vs : Value} {s : SchemaL} {wr wd : World} (h : OsAt D w y S vf vt vn vs s wr) (m : Moved D wr wd) : OsAt D w y S vf vt vn vs s wd :=
  ⟨h.m.trans m, m.blk h.yD h.b, h.s.moved h.ne m, h.ne, h.yD⟩
theorem OsAt.below {D : Nat} {w : World} {y : Nat} {S : Nat → Prop} {vf vt vn vs : Value} {s : SchemaL} {wr wd : World} (h : OsAt D w y S vf vt vn vs s wr) (hb : Below wr.heap.size wr wd) : OsAt D w y S vf vt vn vs s wd :=
  h.moved ((Moved.start h.m.deck).below hb)
theorem recs_small {s : SchemaL} {R : List RecL} (h : RecsOk s R) (hn : s.fields.length ≤ 1000) : (∀ r ∈ R, ∀ x ∈ r.vals, x.length ≤ 1000000) ∧ ∀ r ∈ R, r.vals.length ≤ 1000000 :=
  ⟨fun r hr x hx => by have := h.2 r hr x hx; omega, fun r hr => by have := (checkN_ok ((allN_ok h.1).2.2 r hr)).2.2.1; omega⟩
/-- the three cells of an element laid anew -/
theorem Vec.set3 {w : World} {S : Nat → Prop} {g n cap : Nat} {L : List RV} (h : Vec w S 3 encRV (.slice (some ⟨g, 0, none⟩) n cap) L) (j : Nat) (x : RV) :
    Vec (((w.setCell ⟨g, j * 3, none⟩ (.int .i64 x.id)).setCell ⟨g, j * 3 + 1, none⟩ (.int .i64 x.ver)).setCell ⟨g, j * 3 + 2, none⟩ (.slice x.a x.n x.c)) S 3 encRV (.slice (some ⟨g, 0, none⟩) n cap) (L.set j x) := by
  obtain ⟨a, cp, e, hc, h0⟩ := h
  cases e
  refine ⟨some ⟨g, 0, none⟩, _, by rw [List.length_set], by rw [List.length_set]; exact hc, fun hl => ?_⟩
  rw [List.length_set] at hl
  obtain ⟨b, off, e, hS, hb, hcell⟩ := h0 hl
  cases e
  refine ⟨g, 0, rfl, hS, by simpa [World.setCell] using hb, fun t y hy i u hu => ?_⟩
  have hi : i < 3 := by
    have := (List.getElem?_eq_some_iff.1 hu).1
    simpa [encRV] using this
  by_cases ht : t = j
  · subst ht
    have htl : t < L.length := by have := (List.getElem?_eq_some_iff.1 hy).1; simpa using this
    have hy2 : y = x := by
      rw [List.getElem?_set_self (by exact htl)] at hy
      exact (Option.some.inj hy).symm
    subst hy2
    have q : ∀ i, i < 3 → ∃ v, w.cell? ⟨g, t * 3 + i, none⟩ = some v := fun i hi => by
      have := hcell t L[t] (List.getElem?_eq_getElem htl) i _ (List.getElem?_eq_getElem (by simpa [encRV] using hi))
      rw [Nat.zero_add] at this
      exact ⟨_, this⟩
    obtain ⟨q0, e0⟩ := q 0 (by omega); obtain ⟨q1, e1⟩ := q 1 (by omega); obtain ⟨q2, e2⟩ := q 2 (by omega)
    have n01 : (⟨g, t * 3, none⟩ : Addr) ≠ ⟨g, t * 3 + 1, none⟩ := by simp
    have n02 : (⟨g, t * 3, none⟩ : Addr) ≠ ⟨g, t * 3 + 2, none⟩ := by simp
    have n12 : (⟨g, t * 3 + 1, none⟩ : Addr) ≠ ⟨g, t * 3 + 2, none⟩ := by simp
    rw [Nat.zero_add]
    match i, hu with
    | 0, hu =>
      cases hu
      show World.cell? _ ⟨g, t * 3, none⟩ = _
      rw [World.cell?_setCell_other _ _ _ _ n02.symm, World.cell?_setCell_other _ _ _ _ n01.symm]
      exact World.cell?_setCell_same _ _ _ e0
    | 1, hu =>
      cases hu
      rw [World.cell?_setCell_other _ _ _ _ n12.symm]
      exact World.cell?_setCell_same _ _ _ ((World.cell?_setCell_other _ _ _ _ n01).trans e1)
    | 2, hu =>
      cases hu
      exact World.cell?_setCell_same _ _ _ ((World.cell?_setCell_other _ _ _ _ n12).trans ((World.cell?_setCell_other _ _ _ _ n02).trans e2))
    | i + 3, hu => simp [encRV] at hu
  · rw [List.getElem?_set_ne (by omega)] at hy
    have h1 := hcell t y hy i u hu
    rw [Nat.zero_add] at h1 ⊢
    have n0 : (⟨g, j * 3, none⟩ : Addr) ≠ ⟨g, t * 3 + i, none⟩ := by intro e; injection e; omega
    have n1 : (⟨g, j * 3 + 1, none⟩ : Addr) ≠ ⟨g, t * 3 + i, none⟩ := by intro e; injection e; omega
    have n2 : (⟨g, j * 3 + 2, none⟩ : Addr) ≠ ⟨g, t * 3 + i, none⟩ := by intro e; injection e; omega
    rw [World.cell?_setCell_other _ _ _ _ n2, World.cell?_setCell_other _ _ _ _ n1, World.cell?_setCell_other _ _ _ _ n0]
    exact h1
theorem twice_mem {R : List RecL} (h : 0 < R.length) : ∀ r ∈ R ++ [R.getD (R.length - 1) noRec], r ∈ R := by
  intro r hr
  rcases List.mem_append.1 hr with h1 | h1
  · exact h1
  · simp only [List.mem_singleton] at h1
    rw [h1, getD_lt (show R.length - 1 < R.length by omega)]
    exact List.getElem_mem _
theorem RecsVec.take {w : World} {S : Nat → Prop} {a : Option Addr} {n cap : Nat} {R : List RecL} (h : RecsVec w S (.slice a n cap) R) (i : Nat) (hi : i ≤ R.length) : RecsVec w S (.slice a i cap) (R.take i) := by
  obtain ⟨C, h1, h2, h3⟩ := h
  have hCl : C.length = R.length := by rw [← h2, List.length_map]
  refine ⟨C.take i, ?_, by rw [List.map_take, h2], fun x hx => h3 x (List.mem_of_mem_take hx)⟩
  obtain ⟨a', cp, e, hc, h0⟩ := h1
  cases e
  have hl : (C.take i).length = i := by rw [List.length_take]; omega
  refine ⟨_, _, by rw [hl], by rw [hl]; omega, fun hp => ?_⟩
  obtain ⟨b, off, e, hS, hb, hcell⟩ := h0 (by omega)
  refine ⟨b, off, e, hS, hb, fun j x hj => hcell j x ?_⟩
  rw [List.getElem?_take] at hj
  split at hj
  · exact hj
  · cases hj
theorem wpK_nm {P : Program} {md : Region.Mode} {ops : Array Oper} {Q : Exit → Act → World → Prop} {S : World → Prop} {k fuel : Nat} {listed : Array Bool} {a : Act} {W : World} (h : ∀ w', w' = W → wpAnyK P md ops Q S k fuel listed a w') : wpAnyK P md ops Q S k fuel listed a W := h W rfl
theorem own_blk7 {w0 w : World} {v : Value} {C : List RV} (h : OwnV 48 3 encRV w0 v C w) (hn : 0 < C.length) : ∃ g c, v = .slice (some ⟨g, 0, none⟩) C.length c := by
  rcases h.form with ⟨_, e⟩ | ⟨g, c, e, _⟩
  · rw [e] at hn; simp at hn
  · exact ⟨g, c, e⟩
theorem own_cells7 {w0 w : World} {g n c : Nat} {C : List RV} (h : OwnV 48 3 encRV w0 (.slice (some ⟨g, 0, none⟩) n c) C w) : ∃ cur, w.heap[g]? = some (.cells cur 48 (0, 0)) := by
  rcases h.1.2 with ⟨e, _⟩ | ⟨g', cap, cur, e, _, hh, _⟩
  · cases e
  · cases e; exact ⟨cur, hh⟩
theorem own_ge7 {w0 w : World} {g n c : Nat} {C : List RV} (h : OwnV 48 3 encRV w0 (.slice (some ⟨g, 0, none⟩) n c) C w) : w0.heap.size ≤ g := by
  rcases h.1.2 with ⟨e, _⟩ | ⟨g', cap, cur, e, hg, _⟩
  · cases e
  · cases e; exact hg
set_option maxHeartbeats 16000000 in
theorem rorder_walk (a : Option Addr) (n cap : Nat) (zs : List Int) (w : World) (hr : IsRow .i64 w a n cap zs) (hM : MaxAt w) :
    Calls Tryz.prog 6 #[.slice a n cap] w fun e w' => e = .returned (.bool true) ∧ Below w.heap.size w w' := by
  by_cases hn : n ≤ 400
  · have HMx := Lib.hid hM; clear hM
    have hd : decide (n ≤ 400) = true := by simpa using hn
    have HR := Lib.hid hr; clear hr
    go_enter Tryz.func6, Tryz.ntmps6
    go_wp2_with fail
    refine (awake_r _ HMx.out).mono ?_; rintro e w1 ⟨rfl, hb1⟩
    go_wp2_with fail
    refine (few_any a n cap _).mono ?_; rintro e w' ⟨rfl, rfl⟩
    go_wp2_with fail
    refine (new_any a n cap _).mono ?_; rintro e w' ⟨rfl, rfl⟩
    have Hdk := Lib.hid (deck_law (cap := cap) hn HR.out hb1)
    have HB1 := Lib.hid (hb1.alloc hb1.size (.cells #[.slice a n cap, .int .i64 0, .int .u64 11400714819323198485] 91))
    have zB1 := hb1.size
    clear hb1 HR hd
    go_wp2_with fail
    refine (schema_deal _ _ Hdk.out).mono ?_
    rintro e w2 ⟨vf, vt, vn, vs, s, rfl, hs, hsd, mv⟩
    obtain ⟨Wd, hWd⟩ : ∃ Wd : World, w1.alloc (.cells #[.slice a n cap, .int .i64 0, .int .u64 11400714819323198485] 91) = Wd := ⟨_, rfl⟩
    rw [hWd] at mv hs HB1
    obtain ⟨D, hD⟩ : ∃ D, w1.heap.size = D := ⟨_, rfl⟩
    have zWd : Wd.heap.size = D + 1 := by rw [← hWd, ← hD]; simp
    rw [hD] at mv zB1 ⊢
    obtain ⟨af, cf, rfl⟩ := hs.1.slice
    obtain ⟨at', ct, rfl⟩ := hs.2.1.slice
    obtain ⟨an, cn, rfl⟩ := hs.2.2.1.slice
    obtain ⟨as', cs, rfl⟩ := hs.2.2.2.slice
    have zD := mv.deck.lt
    have hlen5 := (check_fields hsd.check).1.2
    have hlen1 := hsd.some
    have hlen1000 : s.fields.length ≤ 1000 := by omega
    have HL1000 := Lib.hid hlen1000
    obtain ⟨N, hN⟩ : ∃ N, s.fields.length = N := ⟨_, rfl⟩
    rw [hN] at hlen5 hlen1 hs ⊢
    have M2 := Lib.hid mv; have HS := Lib.hid hs; have HSD := Lib.hid hsd; have HNN := Lib.hid hN
    clear mv hs hsd hWd hD Hdk hN hlen1000
    go_wp2_with fail
    refine wp_calls_world (fun W3 hW3 => ?_)
    have hb3 : Below w2.heap.size w2 W3 := by rw [hW3]; exact (Below.refl w2.heap.size w2).alloc (Nat.le_refl _) _
    have hs3 : W3.heap[w2.heap.size]? = some (.cells #[.slice af N cf, .slice at' s.rules.titles.length ct, .slice an s.rules.nicks.length cn, .slice as' s.rules.streets.length cs] 33 (0, 0)) := by rw [hW3]; exact blk_new rfl
    have M3 := Lib.hid (M2.out.below hb3); have HS3 := Lib.hid hs3; have HSA := Lib.hid (HS.out.below hb3)
    have z23 := M2.out.size
    have hSne : ∀ b, Wd.heap.size ≤ b → b ≠ D := fun b h => by omega
    have HNe := Lib.hid hSne
    clear hb3 hs3 HS hW3 M2 hSne
    have hrd := records_deal D (fun b => Wd.heap.size ≤ b) (.slice af N cf) (.slice at' s.rules.titles.length ct) (.slice an s.rules.nicks.length cn) (.slice as' s.rules.streets.length cs) s 5 W3 M3.out.deck HSA.out HNe.out HSD.out (by decide)
    refine hrd.mono ?_
    rintro e w4 ⟨rv, R, rfl, hrv, hok, hR5, hasc, mv⟩
    obtain ⟨ar, cr, rfl⟩ := hrv.slice
    have K4 := Lib.hid (show OsAt D Wd w2.heap.size (fun b => Wd.heap.size ≤ b) (.slice af N cf) (.slice at' s.rules.titles.length ct) (.slice an s.rules.nicks.length cn) (.slice as' s.rules.streets.length cs) s w4 from
      ⟨M3.out.trans mv, mv.blk (k := w2.heap.size) (by omega) HS3.out, HSA.out.moved HNe.out mv, HNe.out, by omega⟩)
    have HRV := Lib.hid (hrv.move (T := fun b => Wd.heap.size ≤ b) (w' := w4) (Nat.le_refl _) fun b hb hs => ⟨rfl, by have h1 := M3.out.size; have hs' : W3.heap.size ≤ b := hs; show Wd.heap.size ≤ b; omega⟩)
    have HOk := Lib.hid hok; have HAsc := Lib.hid hasc; have HSm := Lib.hid (recs_small hok HL1000.out)
    clear hrv hok hasc mv M3 HS3 HSA hrd
    obtain ⟨p0, p1, p2, p3⟩ := cellsS K4.out.b
    by_cases hR2 : R.length < 2
    · have d2 : decide ((R.length : Int) < 2) = true := decide_eq_true (by omega)
      go_wp2_with fail
      refine (rall_any (fun b => Wd.heap.size ≤ b) (fun b => Wd.heap.size ≤ b) _ _ _ _ _ s R w4 K4.out.s HRV.out HSm.out.1 HSm.out.2 (by omega)).mono ?_
      rw [HOk.out.1]
      rintro e w5 ⟨rfl, hb⟩
      go_wp2_with fail
      go_ret
      exact ⟨rfl, (K4.out.m.below hb).base HB1.out (by omega)⟩
    · have d2 : decide ((R.length : Int) < 2) = false := decide_eq_false (by omega)
      go_wp2_with fail
      refine (next_any D w4 ((R.length : Int) - 1) K4.out.m.deck (by omega) (by omega)).mono ?_
      rintro e w5 ⟨ri, rfl, hi0, hi1, mv⟩
      obtain ⟨i, rfl⟩ := Int.eq_ofNat_of_zero_le hi0
      have hi2 : i + 1 < R.length := by omega
      have K5 := Lib.hid (K4.out.moved mv)
      have HRV5 := Lib.hid (HRV.out.move (T := fun b => Wd.heap.size ≤ b) mv.size fun b hb hs => ⟨mv.grown.block b hb (by have hs' : Wd.heap.size ≤ b := hs; simp; omega), hs⟩)
      clear mv p0 p1 p2 p3 K4 HRV d2
      obtain ⟨C, hC1, hC2, hC3⟩ := HRV5.out
      have hCl : C.length = R.length := by rw [← hC2, List.length_map]
      have hrd := Vec.reads (k := 3) (enc := encRV) (fun _ => rfl) hC1
      have HRd := Lib.hid hrd; have HC1 := Lib.hid hC1; have HC2 := Lib.hid hC2; have HC3 := Lib.hid hC3; have HCl := Lib.hid hCl
      have hcn : ([] : List RV).length + C.length ≤ 1000000000 := by simp; omega
      clear hrd hC1 hC2 hC3
      go_wp2_with (at_builtin; refine wpList_append_at rfl (.const (.slice none 0 0)) (.tmp 38) 58 rfl 48 (.agg #[.int .i64 0, .int .i64 0, .slice none 0 0]) 3 40 encRV (fun _ => rfl) one_encRV Tryz.underlying58 infoR rfl (by decide) (by decide) (w0 := w5) (v := .slice none 0 0) (A := ([] : List RV)) (B := C) rfl (OwnV.start _ _ _ _) rfl HRd.out hcn ?_; intro v7 w7 ho7 hk7 hz7 hat7; rw [List.nil_append] at ho7; obtain ⟨g, c7, rfl⟩ := own_blk7 ho7 (by omega))
      have hb7 : Below w5.heap.size w5 w7 := ho7.2
      obtain ⟨cur, hg7⟩ := own_cells7 ho7
      have hV7 : Vec w7 (fun b => w5.heap.size ≤ b) 3 encRV (.slice (some ⟨g, 0, none⟩) C.length c7) C := OwnV.vec (size := 3) (enc := encRV) (fun _ => rfl) ho7
      have hg5 : w5.heap.size ≤ g := own_ge7 ho7
      have HV7 := Lib.hid hV7; have HB7 := Lib.hid hb7
      have hiC0 : i < C.length := by omega
      obtain ⟨i1, hi1e⟩ : ∃ i1, i + 1 = i1 := ⟨_, rfl⟩
      have hwr : IntKind.i64.wrap ((i : Int) + 1) = (i1 : Int) := by rw [← hi1e, IntKind.wrap_i64]; omega
      have hji : (i1 : Int) < (R.length : Int) := by omega
      have hiC : i1 < C.length := by omega
      have hji0 : (i : Int) < (R.length : Int) := by omega
      obtain ⟨x, hx⟩ : ∃ x, C[i]'hiC0 = x := ⟨_, rfl⟩
      obtain ⟨y, hy⟩ : ∃ y, C[i1]'hiC = y := ⟨_, rfl⟩
      obtain ⟨_, _, e7, lg, gx⟩ := hV7.get i hiC0
      cases e7
      obtain ⟨_, _, e7, _, gy⟩ := hV7.get i1 hiC
      cases e7
      rw [hx] at gx; rw [hy] at gy
      have x0 := gx 0 _ rfl; have x1 := gx 1 _ rfl; have x2 := gx 2 _ rfl
      have y0 := gy 0 _ rfl; have y1 := gy 1 _ rfl; have y2 := gy 2 _ rfl
      simp only [Nat.zero_add, Nat.add_zero] at x0 x1 x2 y0 y1 y2
      have HI1 := Lib.hid hi1e
      have HX := Lib.hid hx; have HY := Lib.hid hy; have HG7 := Lib.hid hg7
      clear ho7 hk7 hz7 hat7 hb7 hV7 gx gy hx hy hi1e hcn HRd
      go_wp2_with fail
      have q0 : w7.frozen? ⟨g, i * 3, none⟩ = false := frozen_of_row _ _ _ _ _ HG7.out
      have q1 : w7.frozen? ⟨g, i * 3 + 1, none⟩ = false := frozen_of_row _ _ _ _ _ HG7.out
      have q2 : w7.frozen? ⟨g, i * 3 + 2, none⟩ = false := frozen_of_row _ _ _ _ _ HG7.out
      refine wp_region_noPanic ?_
      refine wp_region_k (by kernel_rfl) (fun w' => (w'.cell? ⟨g, i * 3, none⟩ = some (.int .i64 x.id) ∧ w'.cell? ⟨g, i * 3 + 1, none⟩ = some (.int .i64 x.ver) ∧ w'.cell? ⟨g, i * 3 + 2, none⟩ = some (.slice x.a x.n x.c)) ∧ w'.cell? ⟨g, i1 * 3, none⟩ = some (.int .i64 y.id) ∧ w'.cell? ⟨g, i1 * 3 + 1, none⟩ = some (.int .i64 y.ver) ∧ w'.cell? ⟨g, i1 * 3 + 2, none⟩ = some (.slice y.a y.n y.c)) 15 (⟨⟨x0, x1, x2⟩, y0, y1, y2⟩) (fun hHeld => ?_)
      refine wpAnyK_take (i := 0) (v := ?_) rfl (by kernel_rfl) (by kernel_rfl) (by kernel_rfl) (by kernel_rfl) (fun _ _ _ h => h) (Or.inl ⟨by rfl, ?_⟩) (by assumption) ?_
      rotate_left 1
      · (intro wS hSw; (try dsimp only at hSw); go_simp; try with_reducible rfl)
      try simp only [List.getElem_toArray, List.getElem_cons_zero, List.getElem_cons_succ, Act.put, List.setIfInBounds_toArray, List.set_cons_zero, List.set_cons_succ]
      refine wpAnyK_take (i := 1) (v := ?_) rfl (by kernel_rfl) (by kernel_rfl) (by kernel_rfl) (by kernel_rfl) (fun _ _ _ h => h) (Or.inl ⟨by rfl, ?_⟩) (by assumption) ?_
      rotate_left 1
      · (intro wS hSw; (try dsimp only at hSw); go_simp; try with_reducible rfl)
      try simp only [List.getElem_toArray, List.getElem_cons_zero, List.getElem_cons_succ, Act.put, List.setIfInBounds_toArray, List.set_cons_zero, List.set_cons_succ]
      refine wpAnyK_take (i := 5) (v := ?_) rfl (by kernel_rfl) (by kernel_rfl) (by kernel_rfl) (by kernel_rfl) (fun _ _ _ h => h) (Or.inl ⟨by rfl, ?_⟩) (by assumption) ?_
      rotate_left 1
      · (intro wS hSw; (try dsimp only at hSw); go_simp; try with_reducible rfl)
      try simp only [List.getElem_toArray, List.getElem_cons_zero, List.getElem_cons_succ, Act.put, List.setIfInBounds_toArray, List.set_cons_zero, List.set_cons_succ]
      refine wpAnyK_take (i := 6) (v := ?_) rfl (by kernel_rfl) (by kernel_rfl) (by kernel_rfl) (by kernel_rfl) (fun _ _ _ h => h) (Or.inl ⟨by rfl, ?_⟩) (by assumption) ?_
      rotate_left 1
      · (intro wS hSw; (try dsimp only at hSw); go_simp; try with_reducible rfl)
      try simp only [List.getElem_toArray, List.getElem_cons_zero, List.getElem_cons_succ, Act.put, List.setIfInBounds_toArray, List.set_cons_zero, List.set_cons_succ]
      refine wpAnyK_take (i := 7) (v := ?_) rfl (by kernel_rfl) (by kernel_rfl) (by kernel_rfl) (by kernel_rfl) (fun _ _ _ h => h) (Or.inl ⟨by rfl, ?_⟩) (by assumption) ?_
      rotate_left 1
      · (intro wS hSw; (try dsimp only at hSw); go_simp; try with_reducible rfl)
      try simp only [List.getElem_toArray, List.getElem_cons_zero, List.getElem_cons_succ, Act.put, List.setIfInBounds_toArray, List.set_cons_zero, List.set_cons_succ]
      refine wpAnyK_take (i := 8) (v := ?_) rfl (by kernel_rfl) (by kernel_rfl) (by kernel_rfl) (by kernel_rfl) (fun _ _ _ h => h) (Or.inl ⟨by rfl, ?_⟩) (by assumption) ?_
      rotate_left 1
      · (intro wS hSw; (try dsimp only at hSw); go_simp; try with_reducible rfl)
      try simp only [List.getElem_toArray, List.getElem_cons_zero, List.getElem_cons_succ, Act.put, List.setIfInBounds_toArray, List.set_cons_zero, List.set_cons_succ]
      refine wpAnyK_take (i := 9) (v := ?_) rfl (by kernel_rfl) (by kernel_rfl) (by kernel_rfl) (by kernel_rfl) (fun _ _ _ h => h) (Or.inl ⟨by rfl, ?_⟩) (by assumption) ?_
      rotate_left 1
      · (intro wS hSw; (try dsimp only at hSw); go_simp; try with_reducible rfl)
      try simp only [List.getElem_toArray, List.getElem_cons_zero, List.getElem_cons_succ, Act.put, List.setIfInBounds_toArray, List.set_cons_zero, List.set_cons_succ]
      refine wpAnyK_take (i := 10) (v := ?_) rfl (by kernel_rfl) (by kernel_rfl) (by kernel_rfl) (by kernel_rfl) (fun _ _ _ h => h) (Or.inl ⟨by rfl, ?_⟩) (by assumption) ?_
      rotate_left 1
      · (intro wS hSw; (try dsimp only at hSw); go_simp; try with_reducible rfl)
      try simp only [List.getElem_toArray, List.getElem_cons_zero, List.getElem_cons_succ, Act.put, List.setIfInBounds_toArray, List.set_cons_zero, List.set_cons_succ]
      refine wpAnyK_take (i := 11) (v := ?_) rfl (by kernel_rfl) (by kernel_rfl) (by kernel_rfl) (by kernel_rfl) (fun _ _ _ h => h) (Or.inl ⟨by rfl, ?_⟩) (by assumption) ?_
      rotate_left 1
      · (intro wS hSw; (try dsimp only at hSw); go_simp; try with_reducible rfl)
      try simp only [List.getElem_toArray, List.getElem_cons_zero, List.getElem_cons_succ, Act.put, List.setIfInBounds_toArray, List.set_cons_zero, List.set_cons_succ]
      refine wpAnyK_take (i := 12) (v := ?_) rfl (by kernel_rfl) (by kernel_rfl) (by kernel_rfl) (by kernel_rfl) (fun _ _ _ h => h) (Or.inl ⟨by rfl, ?_⟩) (by assumption) ?_
      rotate_left 1
      · (intro wS hSw; (try dsimp only at hSw); go_simp; try with_reducible rfl)
      try simp only [List.getElem_toArray, List.getElem_cons_zero, List.getElem_cons_succ, Act.put, List.setIfInBounds_toArray, List.set_cons_zero, List.set_cons_succ]
      refine wpAnyK_take (i := 13) (v := ?_) rfl (by kernel_rfl) (by kernel_rfl) (by kernel_rfl) (by kernel_rfl) (fun _ _ _ h => h) (Or.inl ⟨by rfl, ?_⟩) (by assumption) ?_
      rotate_left 1
      · (intro wS hSw; (try dsimp only at hSw); go_simp; try with_reducible rfl)
      try simp only [List.getElem_toArray, List.getElem_cons_zero, List.getElem_cons_succ, Act.put, List.setIfInBounds_toArray, List.set_cons_zero, List.set_cons_succ]
      refine wpAnyK_take0 (i := 2) (v := ?_) rfl (by kernel_rfl) (by kernel_rfl) (by kernel_rfl) (by decide) (fun _ _ _ h => h) (Or.inl ⟨by rfl, ?_⟩) (by first | exact fun _ => by assumption | exact fun h => absurd h (by decide)) ?_
      rotate_left 1
      · (intro wS hSw; (try dsimp only at hSw); go_simp; try with_reducible rfl)
      try simp only [List.getElem_toArray, List.getElem_cons_zero, List.getElem_cons_succ, Act.put, List.setIfInBounds_toArray, List.set_cons_zero, List.set_cons_succ]
      refine wpAnyK_take0 (i := 3) (v := ?_) rfl (by kernel_rfl) (by kernel_rfl) (by kernel_rfl) (by decide) (fun _ _ _ h => h) (Or.inl ⟨by rfl, ?_⟩) (by first | exact fun _ => by assumption | exact fun h => absurd h (by decide)) ?_
      rotate_left 1
      · (intro wS hSw; (try dsimp only at hSw); go_simp; try with_reducible rfl)
      try simp only [List.getElem_toArray, List.getElem_cons_zero, List.getElem_cons_succ, Act.put, List.setIfInBounds_toArray, List.set_cons_zero, List.set_cons_succ]
      refine wpAnyK_take0 (i := 4) (v := ?_) rfl (by kernel_rfl) (by kernel_rfl) (by kernel_rfl) (by decide) (fun _ _ _ h => h) (Or.inl ⟨by rfl, ?_⟩) (by first | exact fun _ => by assumption | exact fun h => absurd h (by decide)) ?_
      rotate_left 1
      · (intro wS hSw; (try dsimp only at hSw); go_simp; try with_reducible rfl)
      try simp only [List.getElem_toArray, List.getElem_cons_zero, List.getElem_cons_succ, Act.put, List.setIfInBounds_toArray, List.set_cons_zero, List.set_cons_succ]
      refine wpAnyK_take (i := 14) (v := ?_) rfl (by kernel_rfl) (by kernel_rfl) (by kernel_rfl) (by kernel_rfl) (fun _ _ _ h => h) (Or.inl ⟨by rfl, ?_⟩) (by assumption) ?_
      rotate_left 1
      · (intro wS hSw; (try dsimp only at hSw); go_simp; try with_reducible rfl)
      try simp only [List.getElem_toArray, List.getElem_cons_zero, List.getElem_cons_succ, Act.put, List.setIfInBounds_toArray, List.set_cons_zero, List.set_cons_succ]
      refine wpAnyK_ready (rs := [15]) (by kernel_rfl) (by simp) ?_
      refine AllReadyK.cons rfl (fun K hK => ?_) AllReadyK.nil
      go_simp
      skip
      refine shutK_off hK (by decide) ?_
      clear hK K
      try simp only [List.getElem_toArray, List.getElem_cons_zero, List.getElem_cons_succ, Act.put, List.setIfInBounds_toArray, List.set_cons_zero, List.set_cons_succ]
      refine wpK_nm (fun W8 hW8 => ?_)
      have hV8 : Vec W8 (fun b => w5.heap.size ≤ b) 3 encRV (.slice (some ⟨g, 0, none⟩) C.length c7) (C.set i y) := by rw [hW8]; exact (Vec.set3 HV7.out i y).below (Below.refl _ _).drew
      have hg8 : ∃ cur, W8.heap[g]? = some (.cells cur 48 (0, 0)) := by rw [hW8]; exact ⟨_, blk_set (i := i * 3 + 2) (v := .slice y.a y.n y.c) (blk_set (i := i * 3 + 1) (v := .int .i64 y.ver) (blk_set (i := i * 3) (v := .int .i64 y.id) HG7.out))⟩
      have hb8 : Below w5.heap.size w5 W8 := by rw [hW8]; exact (((HB7.out.setCell (p := ⟨g, i * 3, none⟩) hg5 _).setCell (p := ⟨g, i * 3 + 1, none⟩) hg5 _).setCell (p := ⟨g, i * 3 + 2, none⟩) hg5 _).drew
      obtain ⟨cur8, hg8⟩ := hg8
      obtain ⟨_, _, e8, lg8, gy8⟩ := hV8.get i1 (by rw [List.length_set]; exact hiC)
      cases e8
      rw [List.getElem_set_ne (by have := HI1.out; omega), HY.out] at gy8
      have y0' := gy8 0 _ rfl; have y1' := gy8 1 _ rfl; have y2' := gy8 2 _ rfl
      simp only [Nat.zero_add, Nat.add_zero] at y0' y1' y2'
      have r0 : W8.frozen? ⟨g, i1 * 3, none⟩ = false := frozen_of_row _ _ _ _ _ hg8
      have r1 : W8.frozen? ⟨g, i1 * 3 + 1, none⟩ = false := frozen_of_row _ _ _ _ _ hg8
      have r2 : W8.frozen? ⟨g, i1 * 3 + 2, none⟩ = false := frozen_of_row _ _ _ _ _ hg8
      have HV8 := Lib.hid hV8; have HB8 := Lib.hid hb8
      clear hV8 hg8 hb8 gy8 hW8 x0 x1 x2 y0 y1 y2 q0 q1 q2 hHeld HV7 HB7 HG7
      refine wpAnyK_take0 (i := 16) (v := ?_) rfl (by kernel_rfl) (by kernel_rfl) (by kernel_rfl) (by decide) (fun _ _ _ h => h) (Or.inl ⟨by rfl, ?_⟩) (by first | exact fun _ => by assumption | exact fun h => absurd h (by decide)) ?_
      rotate_left 1
      · (intro wS hSw; (try dsimp only at hSw); go_simp; try with_reducible rfl)
      try simp only [List.getElem_toArray, List.getElem_cons_zero, List.getElem_cons_succ, Act.put, List.setIfInBounds_toArray, List.set_cons_zero, List.set_cons_succ]
      refine wpAnyK_ready (rs := [17]) (by kernel_rfl) (by simp) ?_
      refine AllReadyK.cons rfl (fun K hK => ?_) AllReadyK.nil
      go_simp
      skip
      refine shutK_off hK (by decide) ?_
      clear hK K
      try simp only [List.getElem_toArray, List.getElem_cons_zero, List.getElem_cons_succ, Act.put, List.setIfInBounds_toArray, List.set_cons_zero, List.set_cons_succ]
      refine wpAnyK_done (by kernel_rfl) ?_ _
      refine NoPanic.normal ?_
      refine exitk_world (fun W9 hW9 => ?_)
      have hV9 : Vec W9 (fun b => w5.heap.size ≤ b) 3 encRV (.slice (some ⟨g, 0, none⟩) C.length c7) ((C.set i y).set i1 x) := by
        rw [hW9]
        have h := Vec.set3 HV8.out i1 x
        exact h
      have hb9 : Below w5.heap.size w5 W9 := by rw [hW9]; exact ((HB8.out.setCell (p := ⟨g, i1 * 3, none⟩) hg5 _).setCell (p := ⟨g, i1 * 3 + 1, none⟩) hg5 _).setCell (p := ⟨g, i1 * 3 + 2, none⟩) hg5 _
      have zd5 := K5.out.m.size
      have hsw : RecsVec W9 (fun b => Wd.heap.size ≤ b) (.slice (some ⟨g, 0, none⟩) R.length c7) (swapR R i) := by
        refine ⟨(C.set i y).set i1 x, ?_, ?_, fun z hz => ?_⟩
        · have h := hV9.move (S' := fun b => Wd.heap.size ≤ b) (w' := W9) (Nat.le_refl _) fun b hb hs => ⟨rfl, by have hs' : w5.heap.size ≤ b := hs; show Wd.heap.size ≤ b; omega⟩
          rw [hCl] at h
          exact h
        · have e1 := HI1.out
          subst e1
          rw [← HX.out, ← HY.out]
          unfold swapR
          rw [List.map_set, List.map_set, HC2.out, getD_lt hi2, getD_lt (show i < R.length by omega)]
          have g1 : pR C[i + 1] = R[i + 1] := by
            have : ∀ (M : List RecL) (h : C.map pR = M) (hm : i + 1 < M.length), pR (C[i + 1]'(by rw [← h, List.length_map] at hm; exact hm)) = M[i + 1] := by
              rintro M rfl hm; rw [List.getElem_map]
            exact this R HC2.out hi2
          have g2 : pR C[i] = R[i] := by
            have : ∀ (M : List RecL) (h : C.map pR = M) (hm : i < M.length), pR (C[i]'(by rw [← h, List.length_map] at hm; exact hm)) = M[i] := by
              rintro M rfl hm; rw [List.getElem_map]
            exact this R HC2.out (by omega)
          rw [g1, g2]
        · have hzC : z ∈ C := by
            rcases List.mem_or_eq_of_mem_set hz with h | h
            · rcases List.mem_or_eq_of_mem_set h with h | h
              · exact h
              · rw [h, ← HY.out]; exact List.getElem_mem _
            · rw [h, ← HX.out]; exact List.getElem_mem _
          exact (HC3.out z hzC).below hb9
      have K9 := Lib.hid (K5.out.below hb9); have HRV9 := Lib.hid (HRV5.out.below hb9); have HSw := Lib.hid hsw
      have hrd9 := Vec.reads (k := 3) (enc := encRV) (fun _ => rfl) (HC1.out.below hb9)
      have HRd9 := Lib.hid hrd9; have HC9 := Lib.hid (HC1.out.below hb9); have HC39 := Lib.hid (fun z hz => (HC3.out z hz).below hb9)
      clear hW9 hV9 hb9 hsw hrd9 y0' y1' y2' r0 r1 r2 HV8 HB8 K5 HRV5 HC1 HC3 HX HY HI1 hwr hji hji0
      go_wp2_with fail
      obtain ⟨l1, hl1e⟩ : ∃ l1, R.length - 1 = l1 := ⟨_, rfl⟩
      have hwl : IntKind.i64.wrap ((R.length : Int) - 1) = (l1 : Int) := by rw [← hl1e, IntKind.wrap_i64]; omega
      have hlR : (l1 : Int) < (R.length : Int) := by omega
      have hlC : l1 < C.length := by omega
      obtain ⟨z, hz⟩ : ∃ z, C[l1]'hlC = z := ⟨_, rfl⟩
      obtain ⟨b, off, ea, zb, gz⟩ := HC9.out.get l1 hlC
      rw [hz] at gz
      have z0 := gz 0 _ rfl; have z1 := gz 1 _ rfl; have z2 := gz 2 _ rfl
      simp only [Nat.add_zero] at z0
      subst ea
      have HL1 := Lib.hid hl1e; have HZ := Lib.hid hz
      have hCn : C.length ≤ 1000 := by omega
      clear gz hz hl1e
      go_cut [8] (fun s8 wx => ∃ (a8 : Option Addr) (c8 : Nat), s8 = .slice a8 (C ++ [z]).length c8 ∧ OwnV 48 3 encRV W9 s8 (C ++ [z]) wx)
      case first =>
        refine wp_region_noPanic ?_
        refine wp_region_k (by kernel_rfl) (fun w' => w'.cell? ⟨b, off + l1 * 3, none⟩ = some (.int .i64 z.id) ∧ w'.cell? ⟨b, off + l1 * 3 + 1, none⟩ = some (.int .i64 z.ver) ∧ w'.cell? ⟨b, off + l1 * 3 + 2, none⟩ = some (.slice z.a z.n z.c)) 9 (⟨z0, z1, z2⟩) (fun hHeld => ?_)
        refine wpAnyK_take (i := 0) (v := ?_) rfl (by kernel_rfl) (by kernel_rfl) (by kernel_rfl) (by kernel_rfl) (fun _ _ _ h => h) (Or.inl ⟨by rfl, ?_⟩) (by assumption) ?_
        rotate_left 1
        · (intro wS hSw; (try dsimp only at hSw); go_simp; try with_reducible rfl)
        try simp only [List.getElem_toArray, List.getElem_cons_zero, List.getElem_cons_succ, Act.put, List.setIfInBounds_toArray, List.set_cons_zero, List.set_cons_succ]
        refine wpAnyK_take (i := 2) (v := ?_) rfl (by kernel_rfl) (by kernel_rfl) (by kernel_rfl) (by kernel_rfl) (fun _ _ _ h => h) (Or.inl ⟨by rfl, ?_⟩) (by assumption) ?_
        rotate_left 1
        · (intro wS hSw; (try dsimp only at hSw); go_simp; try with_reducible rfl)
        try simp only [List.getElem_toArray, List.getElem_cons_zero, List.getElem_cons_succ, Act.put, List.setIfInBounds_toArray, List.set_cons_zero, List.set_cons_succ]
        refine wpAnyK_take (i := 3) (v := ?_) rfl (by kernel_rfl) (by kernel_rfl) (by kernel_rfl) (by kernel_rfl) (fun _ _ _ h => h) (Or.inl ⟨by rfl, ?_⟩) (by assumption) ?_
        rotate_left 1
        · (intro wS hSw; (try dsimp only at hSw); go_simp; try with_reducible rfl)
        try simp only [List.getElem_toArray, List.getElem_cons_zero, List.getElem_cons_succ, Act.put, List.setIfInBounds_toArray, List.set_cons_zero, List.set_cons_succ]
        refine wpAnyK_take (i := 4) (v := ?_) rfl (by kernel_rfl) (by kernel_rfl) (by kernel_rfl) (by kernel_rfl) (fun _ _ _ h => h) (Or.inl ⟨by rfl, ?_⟩) (by assumption) ?_
        rotate_left 1
        · (intro wS hSw; (try dsimp only at hSw); go_simp; try with_reducible rfl)
        try simp only [List.getElem_toArray, List.getElem_cons_zero, List.getElem_cons_succ, Act.put, List.setIfInBounds_toArray, List.set_cons_zero, List.set_cons_succ]
        refine wpAnyK_take (i := 5) (v := ?_) rfl (by kernel_rfl) (by kernel_rfl) (by kernel_rfl) (by kernel_rfl) (fun _ _ _ h => h) (Or.inl ⟨by rfl, ?_⟩) (by assumption) ?_
        rotate_left 1
        · (intro wS hSw; (try dsimp only at hSw); go_simp; try with_reducible rfl)
        try simp only [List.getElem_toArray, List.getElem_cons_zero, List.getElem_cons_succ, Act.put, List.setIfInBounds_toArray, List.set_cons_zero, List.set_cons_succ]
        refine wpAnyK_take (i := 6) (v := ?_) rfl (by kernel_rfl) (by kernel_rfl) (by kernel_rfl) (by kernel_rfl) (fun _ _ _ h => h) (Or.inl ⟨by rfl, ?_⟩) (by assumption) ?_
        rotate_left 1
        · (intro wS hSw; (try dsimp only at hSw); go_simp; try with_reducible rfl)
        try simp only [List.getElem_toArray, List.getElem_cons_zero, List.getElem_cons_succ, Act.put, List.setIfInBounds_toArray, List.set_cons_zero, List.set_cons_succ]
        refine wpAnyK_take (i := 7) (v := ?_) rfl (by kernel_rfl) (by kernel_rfl) (by kernel_rfl) (by kernel_rfl) (fun _ _ _ h => h) (Or.inl ⟨by rfl, ?_⟩) (by assumption) ?_
        rotate_left 1
        · (intro wS hSw; (try dsimp only at hSw); go_simp; try with_reducible rfl)
        try simp only [List.getElem_toArray, List.getElem_cons_zero, List.getElem_cons_succ, Act.put, List.setIfInBounds_toArray, List.set_cons_zero, List.set_cons_succ]
        have bD : Below W9.heap.size W9 W9.drew := (Below.refl _ _).drew
        refine wpAnyK_ready (rs := [1, 8]) (by kernel_rfl) (by simp) ?_
        refine AllReadyK.cons rfl (fun K hK => ?_) (AllReadyK.cons rfl (fun K hK => ?_) AllReadyK.nil)
        focus
          have hRd2 : Reads W9.drew 3 (.slice (some ⟨b, off, none⟩) R.length cr) C.length (C.flatMap encRV) := Vec.reads (k := 3) (enc := encRV) (fun _ => rfl) (by have h := HC9.out.below bD; exact h)
          refine wp_append_v (.const (.slice none 0 0)) (.tmp 56) 58 (by rfl) 48 (.agg #[.int .i64 0, .int .i64 0, .slice none 0 0]) 3 40 encRV (fun _ => rfl) one_encRV Tryz.underlying58 infoR rfl (by decide) (by decide) (w0 := W9) (v := .slice none 0 0) (A := ([] : List RV)) (B := C) (by rfl) (OwnV.nil bD) (by rfl) (hRd2) (by first | omega | (simp; done) | (simp; omega)) ?_
          intro v1 w3 ho1 _ hz1
          rw [List.nil_append] at ho1
          refine shutK hK (⟨(ho1.2.cell (p := ⟨b, off + l1 * 3, none⟩) zb).trans z0, (ho1.2.cell (p := ⟨b, off + l1 * 3 + 1, none⟩) zb).trans z1, (ho1.2.cell (p := ⟨b, off + l1 * 3 + 2, none⟩) zb).trans z2⟩) (fun hHeld => ?_)
          clear hK K
          try simp only [List.getElem_toArray, List.getElem_cons_zero, List.getElem_cons_succ, Act.put, List.setIfInBounds_toArray, List.set_cons_zero, List.set_cons_succ]
          have bB := ho1.2.trans (((Below.refl w3.heap.size w3).alloc (Nat.le_refl _) (.cells #[.int .i64 z.id, .int .i64 z.ver, .slice z.a z.n z.c] 48)).mono ho1.2.size)
          refine wpAnyK_ready (rs := [8]) (by kernel_rfl) (by simp) ?_
          refine AllReadyK.cons rfl (fun K hK => ?_) AllReadyK.nil
          go_simp
          skip
          refine shutK hK (⟨(bB.cell (p := ⟨b, off + l1 * 3, none⟩) zb).trans z0, (bB.cell (p := ⟨b, off + l1 * 3 + 1, none⟩) zb).trans z1, (bB.cell (p := ⟨b, off + l1 * 3 + 2, none⟩) zb).trans z2⟩) (fun hHeld => ?_)
          clear hK K
          try simp only [List.getElem_toArray, List.getElem_cons_zero, List.getElem_cons_succ, Act.put, List.setIfInBounds_toArray, List.set_cons_zero, List.set_cons_succ]
          have ho2 := OwnV.below ho1 ((Below.refl w3.heap.size w3).alloc (Nat.le_refl _) (.cells #[.int .i64 z.id, .int .i64 z.ver, .slice z.a z.n z.c] 48))
          have hg2 : (w3.alloc (.cells #[.int .i64 z.id, .int .i64 z.ver, .slice z.a z.n z.c] 48)).heap[w3.heap.size]? = some (.cells #[.int .i64 z.id, .int .i64 z.ver, .slice z.a z.n z.c] 48 (0, 0)) := blk_new rfl
          clear ho1 bB hz1
        rotate_left 1
        focus
          go_simp
          have bB := bD.alloc (Nat.le_refl _) (.cells #[.int .i64 z.id, .int .i64 z.ver, .slice z.a z.n z.c] 48)
          have hg0 : (W9.drew.alloc (.cells #[.int .i64 z.id, .int .i64 z.ver, .slice z.a z.n z.c] 48)).heap[W9.heap.size]? = some (.cells #[.int .i64 z.id, .int .i64 z.ver, .slice z.a z.n z.c] 48 (0, 0)) := blk_new rfl
          refine shutK hK (⟨(bB.cell (p := ⟨b, off + l1 * 3, none⟩) zb).trans z0, (bB.cell (p := ⟨b, off + l1 * 3 + 1, none⟩) zb).trans z1, (bB.cell (p := ⟨b, off + l1 * 3 + 2, none⟩) zb).trans z2⟩) (fun hHeld => ?_)
          clear hK K
          try simp only [List.getElem_toArray, List.getElem_cons_zero, List.getElem_cons_succ, Act.put, List.setIfInBounds_toArray, List.set_cons_zero, List.set_cons_succ]
          have hRd2 : Reads (W9.drew.alloc (.cells #[.int .i64 z.id, .int .i64 z.ver, .slice z.a z.n z.c] 48)) 3 (.slice (some ⟨b, off, none⟩) R.length cr) C.length (C.flatMap encRV) := Vec.reads (k := 3) (enc := encRV) (fun _ => rfl) (by have h := HC9.out.below bB; exact h)
          refine wpAnyK_ready (rs := [1]) (by kernel_rfl) (by simp) ?_
          refine AllReadyK.cons rfl (fun K hK => ?_) AllReadyK.nil
          refine wp_append_v (.const (.slice none 0 0)) (.tmp 56) 58 (by rfl) 48 (.agg #[.int .i64 0, .int .i64 0, .slice none 0 0]) 3 40 encRV (fun _ => rfl) one_encRV Tryz.underlying58 infoR rfl (by decide) (by decide) (w0 := W9) (v := .slice none 0 0) (A := ([] : List RV)) (B := C) (by rfl) (OwnV.nil bB) (by rfl) (hRd2) (by first | omega | (simp; done) | (simp; omega)) ?_; intro v1 w3 ho2 hk2 hz2; rw [List.nil_append] at ho2
          refine shutK hK (⟨(ho2.2.cell (p := ⟨b, off + l1 * 3, none⟩) zb).trans z0, (ho2.2.cell (p := ⟨b, off + l1 * 3 + 1, none⟩) zb).trans z1, (ho2.2.cell (p := ⟨b, off + l1 * 3 + 2, none⟩) zb).trans z2⟩) (fun hHeld => ?_)
          clear hK K
          try simp only [List.getElem_toArray, List.getElem_cons_zero, List.getElem_cons_succ, Act.put, List.setIfInBounds_toArray, List.set_cons_zero, List.set_cons_succ]
          have hg2 := hk2 _ _ (by simp [Value.ownBlock]) hg0
          clear hg0 bB hk2 hz2
        all_goals
          have hr2 : Reads _ 3 (.slice (some ⟨_, 0, none⟩) 1 1) [z].length ([z].flatMap encRV) := reads_block (size := 3) hg2 rfl
          refine wpAnyK_ready (rs := [9]) (by kernel_rfl) (by simp) ?_
          refine AllReadyK.cons rfl (fun K hK => ?_) AllReadyK.nil
          refine wp_append_v (.tmp 57) (.tmp 64) 58 (by rfl) 48 (.agg #[.int .i64 0, .int .i64 0, .slice none 0 0]) 3 40 encRV (fun _ => rfl) one_encRV Tryz.underlying58 infoR rfl (by decide) (by decide) (w0 := W9) (v := v1) (A := C) (B := [z]) (by rfl) (ho2) (by rfl) (hr2) (by first | omega | (simp; done) | (simp; omega)) ?_; intro v2 w5' ho3 _ _
          refine shutK_off hK (by decide) ?_
          clear hK K
          try simp only [List.getElem_toArray, List.getElem_cons_zero, List.getElem_cons_succ, Act.put, List.setIfInBounds_toArray, List.set_cons_zero, List.set_cons_succ]
          refine wpAnyK_ready (rs := [10]) (by kernel_rfl) (by simp) ?_
          refine AllReadyK.cons rfl (fun K hK => ?_) AllReadyK.nil
          go_simp
          skip
          refine shutK_off hK (by decide) ?_
          clear hK K
          try simp only [List.getElem_toArray, List.getElem_cons_zero, List.getElem_cons_succ, Act.put, List.setIfInBounds_toArray, List.set_cons_zero, List.set_cons_succ]
          refine wpAnyK_done (by kernel_rfl) ?_ _
          refine NoPanic.normal ?_
          go_wp2_with fail
          go_meet
          obtain ⟨a8, c8, e8⟩ := (OwnV.vec (size := 3) (enc := encRV) (fun _ => rfl) ho3).slice
          exact ⟨a8, c8, e8, ho3⟩
      case rest =>
        obtain ⟨wq, hwq⟩ : ∃ u, u = wc := ⟨_, rfl⟩
        subst hwq
        obtain ⟨a8, c8, rfl, ho8⟩ := hcut
        have hb8 := ho8.2
        have htw : RecsVec wq (fun b => Wd.heap.size ≤ b) (.slice a8 (C ++ [z]).length c8) (R ++ [R.getD (R.length - 1) noRec]) := by
          have hzd := K9.out.m.size
          refine ⟨C ++ [z], ?_, ?_, fun u hu => ?_⟩
          · exact (OwnV.vec (size := 3) (enc := encRV) (fun _ => rfl) ho8).move (S' := fun b => Wd.heap.size ≤ b) (w' := wq) (Nat.le_refl _) fun b hb hs => ⟨rfl, by have hs' : W9.heap.size ≤ b := hs; show Wd.heap.size ≤ b; omega⟩
          · rw [List.map_append, HC2.out, List.map_cons, List.map_nil]
            congr 2
            have e1 := HL1.out
            subst e1
            have g1 : ∀ (M : List RecL) (h : C.map pR = M) (hm : R.length - 1 < M.length), pR (C[R.length - 1]'(by rw [← h, List.length_map] at hm; exact hm)) = M[R.length - 1] := by
              rintro M rfl hm; rw [List.getElem_map]
            rw [getD_lt (show R.length - 1 < R.length by omega), ← g1 R HC2.out (by omega), HZ.out]
          · rcases List.mem_append.1 hu with h | h
            · exact (HC39.out u h).below hb8
            · simp at h; subst h
              exact (HC39.out u (by rw [← HZ.out]; exact List.getElem_mem _)).below hb8
        have Kq := Lib.hid (K9.out.below hb8); have HRVq := Lib.hid (HRV9.out.below hb8); have HSwq := Lib.hid (HSw.out.below hb8); have HTw := Lib.hid htw
        have hcap : R.length ≤ cr := by
          obtain ⟨C', h1, h2, _⟩ := HRVq.out
          have := h1.len
          have h3 : C'.length = R.length := by rw [← h2, List.length_map]
          omega
        clear ho8 hb8 htw K9 HRV9 HSw HC9 HC39 HC2 HZ HL1 HRd9 z0 z1 z2 zb hwl hlR
        generalize (C ++ [z]).length = n8 at HTw ⊢
        clear hlC
        go_wp2_with fail
        go_loopw [68] (fun t wr => ∃ j : Nat, t = .int .i64 j ∧ j ≤ R.length ∧ Below wq.heap.size wq wr) (fun t _ => R.length - (intOf t).toNat)
        case atStart => exact ⟨0, rfl, by omega, Below.refl _ _⟩
        case round =>
          obtain ⟨j, rfl, hj, hbw⟩ := hrel
          obtain ⟨wu, hwu⟩ : ∃ u, u = wr := ⟨_, rfl⟩
          subst hwu
          have HBw := Lib.hid hbw
          by_cases hlt : j < R.length
          · have hq : decide ((j : Int) < (R.length : Int)) = true := by simp; omega
            have hji : (j : Int) < (R.length : Int) := by omega
            obtain ⟨bb, oo, id, ver, aa, nn, cc, vals, eb, lb, c0, c1, c2, hRj, hvv⟩ := (HRVq.out.below hbw).at j hlt
            cases eb
            have hfi : findA id 0 R = (j : Int) := by
              have := findA_at R 0 j HAsc.out hlt
              rw [hRj, Nat.zero_add] at this
              exact this
            have HFi := Lib.hid hfi
            have djj : ((j : Int) != (j : Int)) = false := by simp
            clear hbw hRj hvv hfi
            go_wp2_with fail
            refine wp_calls_world (fun W3 hW3 => ?_)
            have hb3 : Below wu.heap.size wu W3 := by rw [hW3]; exact (Below.refl wu.heap.size wu).alloc (Nat.le_refl _) _
            clear hW3
            refine (rfind_any (fun b => Wd.heap.size ≤ b) _ R id W3 ((HRVq.out.below HBw.out).below hb3) (by omega)).mono ?_
            rw [HFi.out]
            rintro e w4 ⟨rfl, hb⟩
            have HB4 := Lib.hid (HBw.out.trans ((hb3.trans (hb.mono hb3.size)).mono HBw.out.size))
            clear hb hb3 c0 c1 c2
            go_wp2_with fail
            go_roundw
            case rel => exact ⟨j + 1, by go_num, by omega, HB4.out⟩
            case measure => simp [intOf]; omega
          · have hq : decide ((j : Int) < (R.length : Int)) = false := by simp; omega
            obtain rfl : j = R.length := by omega
            have Kw := Lib.hid (Kq.out.below hbw); have HRVw := Lib.hid (HRVq.out.below hbw); have HSww := Lib.hid (HSwq.out.below hbw); have HTww := Lib.hid (HTw.out.below hbw)
            clear hbw HBw Kq HRVq HSwq HTw
            obtain ⟨p0, p1, p2, p3⟩ := cellsS Kw.out.b
            have ly := lt_of_blk Kw.out.b
            go_wp2_with fail
            have hpos : 0 < R.length := by omega
            have hicr : (i : Int) ≤ (cr : Int) := by omega
            have hA0 := HOk.out.1
            have hA1 := swap_bad HOk.out.1 (by omega) HAsc.out hi2
            have hA2 := twice_bad HOk.out.1 (by omega) hpos
            have hA3 := take_good HOk.out.1 (by omega) HAsc.out i
            have HTk := Lib.hid (HRVw.out.take i (by omega))
            have HA0 := Lib.hid hA0; have HA1 := Lib.hid hA1; have HA2 := Lib.hid hA2; have HA3 := Lib.hid hA3
            clear hA0 hA1 hA2 hA3
            have b0 : Below wu.heap.size wu wu.drew := (Below.refl _ _).drew
            refine wp_region_noPanic ?_
            refine wp_region_held_drew (S := (fun w' => w'.cell? ⟨w2.heap.size, 0, none⟩ = some (.slice af N cf) ∧ w'.cell? ⟨w2.heap.size, 1, none⟩ = some (.slice at' s.rules.titles.length ct) ∧ w'.cell? ⟨w2.heap.size, 2, none⟩ = some (.slice an s.rules.nicks.length cn) ∧ w'.cell? ⟨w2.heap.size, 3, none⟩ = some (.slice as' s.rules.streets.length cs))) (by kernel_rfl) (⟨p0, p1, p2, p3⟩) (fun hHeld => ?_)
            refine wpAnyH_take (i := 0) (v := ?_) rfl (by kernel_rfl) (by kernel_rfl) (by kernel_rfl) (fun _ _ _ h => h) (Or.inl ⟨by rfl, ?_⟩) (by assumption) ?_
            rotate_left 1
            · (intro wS hSw; (try dsimp only at hSw); go_simp; try with_reducible rfl)
            try simp only [List.getElem_toArray, List.getElem_cons_zero, List.getElem_cons_succ, Act.put, List.setIfInBounds_toArray, List.set_cons_zero, List.set_cons_succ]
            refine wpAnyH_take (i := 1) (v := ?_) rfl (by kernel_rfl) (by kernel_rfl) (by kernel_rfl) (fun _ _ _ h => h) (Or.inl ⟨by rfl, ?_⟩) (by assumption) ?_
            rotate_left 1
            · (intro wS hSw; (try dsimp only at hSw); go_simp; try with_reducible rfl)
            try simp only [List.getElem_toArray, List.getElem_cons_zero, List.getElem_cons_succ, Act.put, List.setIfInBounds_toArray, List.set_cons_zero, List.set_cons_succ]
            refine wpAnyH_ready (rs := [2]) (by kernel_rfl) (by simp) ?_
            refine AllReadyH.cons rfl (fun K hK => ?_) AllReadyH.nil
            go_simp
            refine (rall_any (fun b => Wd.heap.size ≤ b) (fun b => Wd.heap.size ≤ b) _ _ _ _ _ s (R) _ (Kw.out.s.below b0) (HRVw.out.below b0) HSm.out.1 HSm.out.2 (by omega)).mono ?_; rw [HA0.out]; rintro e x1 ⟨rfl, hb⟩; have b1 := b0.trans (hb.mono b0.size); clear hb
            refine hK.out _ _ (⟨(b1.cell (p := ⟨w2.heap.size, 0, none⟩) ly).trans p0, (b1.cell (p := ⟨w2.heap.size, 1, none⟩) ly).trans p1, (b1.cell (p := ⟨w2.heap.size, 2, none⟩) ly).trans p2, (b1.cell (p := ⟨w2.heap.size, 3, none⟩) ly).trans p3⟩) (fun hHeld => ?_)
            clear hK K
            try simp only [List.getElem_toArray, List.getElem_cons_zero, List.getElem_cons_succ, Act.put, List.setIfInBounds_toArray, List.set_cons_zero, List.set_cons_succ]
            refine wpAnyH_take (i := 3) (v := ?_) rfl (by kernel_rfl) (by kernel_rfl) (by kernel_rfl) (fun _ _ _ h => h) (Or.inl ⟨by rfl, ?_⟩) (by assumption) ?_
            rotate_left 1
            · (intro wS hSw; (try dsimp only at hSw); go_simp; try with_reducible rfl)
            try simp only [List.getElem_toArray, List.getElem_cons_zero, List.getElem_cons_succ, Act.put, List.setIfInBounds_toArray, List.set_cons_zero, List.set_cons_succ]
            refine wpAnyH_take (i := 4) (v := ?_) rfl (by kernel_rfl) (by kernel_rfl) (by kernel_rfl) (fun _ _ _ h => h) (Or.inl ⟨by rfl, ?_⟩) (by assumption) ?_
            rotate_left 1
            · (intro wS hSw; (try dsimp only at hSw); go_simp; try with_reducible rfl)
            try simp only [List.getElem_toArray, List.getElem_cons_zero, List.getElem_cons_succ, Act.put, List.setIfInBounds_toArray, List.set_cons_zero, List.set_cons_succ]
            refine wpAnyH_take (i := 5) (v := ?_) rfl (by kernel_rfl) (by kernel_rfl) (by kernel_rfl) (fun _ _ _ h => h) (Or.inl ⟨by rfl, ?_⟩) (by assumption) ?_
            rotate_left 1
            · (intro wS hSw; (try dsimp only at hSw); go_simp; try with_reducible rfl)
            try simp only [List.getElem_toArray, List.getElem_cons_zero, List.getElem_cons_succ, Act.put, List.setIfInBounds_toArray, List.set_cons_zero, List.set_cons_succ]
            refine wpAnyH_take (i := 6) (v := ?_) rfl (by kernel_rfl) (by kernel_rfl) (by kernel_rfl) (fun _ _ _ h => h) (Or.inl ⟨by rfl, ?_⟩) (by assumption) ?_
            rotate_left 1
            · (intro wS hSw; (try dsimp only at hSw); go_simp; try with_reducible rfl)
            try simp only [List.getElem_toArray, List.getElem_cons_zero, List.getElem_cons_succ, Act.put, List.setIfInBounds_toArray, List.set_cons_zero, List.set_cons_succ]
            refine wpAnyH_ready (rs := [7]) (by kernel_rfl) (by simp) ?_
            refine AllReadyH.cons rfl (fun K hK => ?_) AllReadyH.nil
            go_simp
            refine (rall_any (fun b => Wd.heap.size ≤ b) (fun b => Wd.heap.size ≤ b) _ _ _ _ _ s (swapR R i) _ (Kw.out.s.below b1) (HSww.out.below b1) (fun r hr => HSm.out.1 r (swapR_mem hi2 r hr)) (fun r hr => HSm.out.2 r (swapR_mem hi2 r hr)) (by rw [swapR_len]; omega)).mono ?_; rw [HA1.out]; rintro e x2 ⟨rfl, hb⟩; have b2 := b1.trans (hb.mono b1.size); clear hb
            refine hK.out _ _ (⟨(b2.cell (p := ⟨w2.heap.size, 0, none⟩) ly).trans p0, (b2.cell (p := ⟨w2.heap.size, 1, none⟩) ly).trans p1, (b2.cell (p := ⟨w2.heap.size, 2, none⟩) ly).trans p2, (b2.cell (p := ⟨w2.heap.size, 3, none⟩) ly).trans p3⟩) (fun hHeld => ?_)
            clear hK K
            try simp only [List.getElem_toArray, List.getElem_cons_zero, List.getElem_cons_succ, Act.put, List.setIfInBounds_toArray, List.set_cons_zero, List.set_cons_succ]
            refine wpAnyH_take (i := 8) (v := ?_) rfl (by kernel_rfl) (by kernel_rfl) (by kernel_rfl) (fun _ _ _ h => h) (Or.inl ⟨by rfl, ?_⟩) (by assumption) ?_
            rotate_left 1
            · (intro wS hSw; (try dsimp only at hSw); go_simp; try with_reducible rfl)
            try simp only [List.getElem_toArray, List.getElem_cons_zero, List.getElem_cons_succ, Act.put, List.setIfInBounds_toArray, List.set_cons_zero, List.set_cons_succ]
            refine wpAnyH_take (i := 9) (v := ?_) rfl (by kernel_rfl) (by kernel_rfl) (by kernel_rfl) (fun _ _ _ h => h) (Or.inl ⟨by rfl, ?_⟩) (by assumption) ?_
            rotate_left 1
            · (intro wS hSw; (try dsimp only at hSw); go_simp; try with_reducible rfl)
            try simp only [List.getElem_toArray, List.getElem_cons_zero, List.getElem_cons_succ, Act.put, List.setIfInBounds_toArray, List.set_cons_zero, List.set_cons_succ]
            refine wpAnyH_take (i := 10) (v := ?_) rfl (by kernel_rfl) (by kernel_rfl) (by kernel_rfl) (fun _ _ _ h => h) (Or.inl ⟨by rfl, ?_⟩) (by assumption) ?_
            rotate_left 1
            · (intro wS hSw; (try dsimp only at hSw); go_simp; try with_reducible rfl)
            try simp only [List.getElem_toArray, List.getElem_cons_zero, List.getElem_cons_succ, Act.put, List.setIfInBounds_toArray, List.set_cons_zero, List.set_cons_succ]
            refine wpAnyH_take (i := 11) (v := ?_) rfl (by kernel_rfl) (by kernel_rfl) (by kernel_rfl) (fun _ _ _ h => h) (Or.inl ⟨by rfl, ?_⟩) (by assumption) ?_
            rotate_left 1
            · (intro wS hSw; (try dsimp only at hSw); go_simp; try with_reducible rfl)
            try simp only [List.getElem_toArray, List.getElem_cons_zero, List.getElem_cons_succ, Act.put, List.setIfInBounds_toArray, List.set_cons_zero, List.set_cons_succ]
            refine wpAnyH_take (i := 12) (v := ?_) rfl (by kernel_rfl) (by kernel_rfl) (by kernel_rfl) (fun _ _ _ h => h) (Or.inl ⟨by rfl, ?_⟩) (by assumption) ?_
            rotate_left 1
            · (intro wS hSw; (try dsimp only at hSw); go_simp; try with_reducible rfl)
            try simp only [List.getElem_toArray, List.getElem_cons_zero, List.getElem_cons_succ, Act.put, List.setIfInBounds_toArray, List.set_cons_zero, List.set_cons_succ]
            refine wpAnyH_ready (rs := [13]) (by kernel_rfl) (by simp) ?_
            refine AllReadyH.cons rfl (fun K hK => ?_) AllReadyH.nil
            go_simp
            refine (rall_any (fun b => Wd.heap.size ≤ b) (fun b => Wd.heap.size ≤ b) _ _ _ _ _ s (R ++ [R.getD (R.length - 1) noRec]) _ (Kw.out.s.below b2) (HTww.out.below b2) (fun r hr => HSm.out.1 r (twice_mem hpos r hr)) (fun r hr => HSm.out.2 r (twice_mem hpos r hr)) (by simp; omega)).mono ?_; rw [HA2.out]; rintro e x3 ⟨rfl, hb⟩; have b3 := b2.trans (hb.mono b2.size); clear hb
            refine hK.out _ _ (⟨(b3.cell (p := ⟨w2.heap.size, 0, none⟩) ly).trans p0, (b3.cell (p := ⟨w2.heap.size, 1, none⟩) ly).trans p1, (b3.cell (p := ⟨w2.heap.size, 2, none⟩) ly).trans p2, (b3.cell (p := ⟨w2.heap.size, 3, none⟩) ly).trans p3⟩) (fun hHeld => ?_)
            clear hK K
            try simp only [List.getElem_toArray, List.getElem_cons_zero, List.getElem_cons_succ, Act.put, List.setIfInBounds_toArray, List.set_cons_zero, List.set_cons_succ]
            refine wpAnyH_take (i := 14) (v := ?_) rfl (by kernel_rfl) (by kernel_rfl) (by kernel_rfl) (fun _ _ _ h => h) (Or.inl ⟨by rfl, ?_⟩) (by assumption) ?_
            rotate_left 1
            · (intro wS hSw; (try dsimp only at hSw); go_simp; try with_reducible rfl)
            try simp only [List.getElem_toArray, List.getElem_cons_zero, List.getElem_cons_succ, Act.put, List.setIfInBounds_toArray, List.set_cons_zero, List.set_cons_succ]
            refine wpAnyH_take (i := 15) (v := ?_) rfl (by kernel_rfl) (by kernel_rfl) (by kernel_rfl) (fun _ _ _ h => h) (Or.inl ⟨by rfl, ?_⟩) (by assumption) ?_
            rotate_left 1
            · (intro wS hSw; (try dsimp only at hSw); go_simp; try with_reducible rfl)
            try simp only [List.getElem_toArray, List.getElem_cons_zero, List.getElem_cons_succ, Act.put, List.setIfInBounds_toArray, List.set_cons_zero, List.set_cons_succ]
            refine wpAnyH_take (i := 16) (v := ?_) rfl (by kernel_rfl) (by kernel_rfl) (by kernel_rfl) (fun _ _ _ h => h) (Or.inl ⟨by rfl, ?_⟩) (by assumption) ?_
            rotate_left 1
            · (intro wS hSw; (try dsimp only at hSw); go_simp; try with_reducible rfl)
            try simp only [List.getElem_toArray, List.getElem_cons_zero, List.getElem_cons_succ, Act.put, List.setIfInBounds_toArray, List.set_cons_zero, List.set_cons_succ]
            refine wpAnyH_take (i := 17) (v := ?_) rfl (by kernel_rfl) (by kernel_rfl) (by kernel_rfl) (fun _ _ _ h => h) (Or.inl ⟨by rfl, ?_⟩) (by assumption) ?_
            rotate_left 1
            · (intro wS hSw; (try dsimp only at hSw); go_simp; try with_reducible rfl)
            try simp only [List.getElem_toArray, List.getElem_cons_zero, List.getElem_cons_succ, Act.put, List.setIfInBounds_toArray, List.set_cons_zero, List.set_cons_succ]
            refine wpAnyH_take (i := 18) (v := ?_) rfl (by kernel_rfl) (by kernel_rfl) (by kernel_rfl) (fun _ _ _ h => h) (Or.inl ⟨by rfl, ?_⟩) (by assumption) ?_
            rotate_left 1
            · (intro wS hSw; (try dsimp only at hSw); go_simp; try with_reducible rfl)
            try simp only [List.getElem_toArray, List.getElem_cons_zero, List.getElem_cons_succ, Act.put, List.setIfInBounds_toArray, List.set_cons_zero, List.set_cons_succ]
            refine wpAnyH_take (i := 19) (v := ?_) rfl (by kernel_rfl) (by kernel_rfl) (by kernel_rfl) (fun _ _ _ h => h) (Or.inl ⟨by rfl, ?_⟩) (by assumption) ?_
            rotate_left 1
            · (intro wS hSw; (try dsimp only at hSw); go_simp; try with_reducible rfl)
            try simp only [List.getElem_toArray, List.getElem_cons_zero, List.getElem_cons_succ, Act.put, List.setIfInBounds_toArray, List.set_cons_zero, List.set_cons_succ]
            refine wpAnyH_take (i := 20) (v := ?_) rfl (by kernel_rfl) (by kernel_rfl) (by kernel_rfl) (fun _ _ _ h => h) (Or.inl ⟨by rfl, ?_⟩) (by assumption) ?_
            rotate_left 1
            · (intro wS hSw; (try dsimp only at hSw); go_simp; try with_reducible rfl)
            try simp only [List.getElem_toArray, List.getElem_cons_zero, List.getElem_cons_succ, Act.put, List.setIfInBounds_toArray, List.set_cons_zero, List.set_cons_succ]
            refine wpAnyH_ready (rs := [21]) (by kernel_rfl) (by simp) ?_
            refine AllReadyH.cons rfl (fun K hK => ?_) AllReadyH.nil
            go_simp
            refine (rall_any (fun b => Wd.heap.size ≤ b) (fun b => Wd.heap.size ≤ b) _ _ _ _ _ s (R.take i) _ (Kw.out.s.below b3) (HTk.out.below b3) (fun r hr => HSm.out.1 r (List.mem_of_mem_take hr)) (fun r hr => HSm.out.2 r (List.mem_of_mem_take hr)) (by rw [List.length_take]; omega)).mono ?_; rw [HA3.out]; rintro e x4 ⟨rfl, hb⟩; have b4 := b3.trans (hb.mono b3.size); clear hb
            refine hK.out _ _ (⟨(b4.cell (p := ⟨w2.heap.size, 0, none⟩) ly).trans p0, (b4.cell (p := ⟨w2.heap.size, 1, none⟩) ly).trans p1, (b4.cell (p := ⟨w2.heap.size, 2, none⟩) ly).trans p2, (b4.cell (p := ⟨w2.heap.size, 3, none⟩) ly).trans p3⟩) (fun hHeld => ?_)
            clear hK K
            try simp only [List.getElem_toArray, List.getElem_cons_zero, List.getElem_cons_succ, Act.put, List.setIfInBounds_toArray, List.set_cons_zero, List.set_cons_succ]
            refine wpAnyH_take (i := 22) (v := ?_) rfl (by kernel_rfl) (by kernel_rfl) (by kernel_rfl) (fun _ _ _ h => h) (Or.inl ⟨by rfl, ?_⟩) (by assumption) ?_
            rotate_left 1
            · (intro wS hSw; (try dsimp only at hSw); go_simp; try with_reducible rfl)
            try simp only [List.getElem_toArray, List.getElem_cons_zero, List.getElem_cons_succ, Act.put, List.setIfInBounds_toArray, List.set_cons_zero, List.set_cons_succ]
            refine wpAnyH_take (i := 23) (v := ?_) rfl (by kernel_rfl) (by kernel_rfl) (by kernel_rfl) (fun _ _ _ h => h) (Or.inl ⟨by rfl, ?_⟩) (by assumption) ?_
            rotate_left 1
            · (intro wS hSw; (try dsimp only at hSw); go_simp; try with_reducible rfl)
            try simp only [List.getElem_toArray, List.getElem_cons_zero, List.getElem_cons_succ, Act.put, List.setIfInBounds_toArray, List.set_cons_zero, List.set_cons_succ]
            refine wpAnyH_take (i := 24) (v := ?_) rfl (by kernel_rfl) (by kernel_rfl) (by kernel_rfl) (fun _ _ _ h => h) (Or.inl ⟨by rfl, ?_⟩) (by assumption) ?_
            rotate_left 1
            · (intro wS hSw; (try dsimp only at hSw); go_simp; try with_reducible rfl)
            try simp only [List.getElem_toArray, List.getElem_cons_zero, List.getElem_cons_succ, Act.put, List.setIfInBounds_toArray, List.set_cons_zero, List.set_cons_succ]
            refine wpAnyH_done (by kernel_rfl) ?_ _
            refine NoPanic.normal ?_
            go_wp2_with fail
            go_ret
            exact ⟨rfl, (Kw.out.m.below b4).base HB1.out (by omega)⟩
  · have HMx := Lib.hid hM; clear hM
    have hd : decide (n ≤ 400) = false := by simpa using hn
    clear hr hn
    go_enter Tryz.func6, Tryz.ntmps6
    go_wp2_with fail
    refine (awake_r _ HMx.out).mono ?_; rintro e w1 ⟨rfl, hb1⟩
    go_wp2_with fail
    refine (few_any a n cap _).mono ?_; rintro e w' ⟨rfl, rfl⟩
    go_wp2_with fail
    refine (awake_r _ (HMx.out.old hb1)).mono ?_; rintro e w2 ⟨rfl, hb2⟩
    go_wp2_with fail
    go_ret
    exact ⟨rfl, hb1.trans (hb2.mono hb1.size)⟩
end Go.Proofs.YteijllklpneagaaGreatDoor
end
section
namespace Go.Proofs.YteijllklpneagaaGreatDoor.recordOrder
open Go.ChangeShapes Go.WideShapes Go.ChangeAt Go.RowKit Go.Joins
open Go.ChangeMaps (open_string shut_string)
set_option linter.unusedVariables false

theorem own : ownKnob Tryz.prog.godebug = none := by kernel_rfl
theorem laidOut : laidOutB Tryz.prog = true := by kernel_rfl

set_option maxRecDepth 100000 in
theorem lifted (os : Os) (started : os.Started) (H : Type) (enc : TypeId × Value → H) :
    ReturnsInHanded {} Tryz.checked os 6 .any (fun w args => (Rows.recordOrderSpec.pre enc Tryz.prog Tryz.f6 Rows.recordOrderRow.domain false w args ∧ laidMetH Tryz.prog Rows.recordOrderRow.laid w) ∧ sizedMet enc Tryz.prog Tryz.f6 (OpenSpec.ofChange Rows.recordOrderSpec) false w args) (Rows.recordOrderSpec.post enc Tryz.prog Tryz.f6 false true false false) := by
  refine handed_shaped (C := Tryz.checked) (X := fun w _ => laidMetH Tryz.prog Rows.recordOrderRow.laid w) (fun _ _ _ hh h => h.of_heap hh) own started (by kernel_rfl) Tryz.func6
    (ChangeSpec.witness_shaped (enc := enc) (C := Tryz.checked) (os := os) (X := fun w _ => laidMetH Tryz.prog Rows.recordOrderRow.laid w) false (World.laidAll Tryz.prog os Rows.recordOrderRow.laid) #[.slice none 0 0] 8 (World.laidAll_os _ _ _)
      (World.shaped_of_ZipB (by kernel_rfl) (by kernel_rfl)) (by kernel_rfl) (by kernel_rfl) (by kernel_rfl)
      (by rw [MakeChecks.laidMetH_plain _ _ _ (by kernel_rfl)]; exact laidMet_laidAll _ (by kernel_rfl) (by kernel_rfl))) ?_
  intro W base args ds gs before hval0 hW hLaid hsh
  have hval : ∀ (j : Nat) t v, Tryz.f6.params[j]? = some t → args[j]? = some v → Value.okWide Tryz.prog W .any base t v := hval0
  have hW' := hW
  obtain ⟨p, q, hA0, hV, rfl, hfz, hnd⟩ := hW
  have hA : DataW.TrodAll enc Tryz.prog W 0 (fun _ => true) true Tryz.f6.params.toList args.toList ds p := hA0
  rw [Tryz.params6] at hA hval
  obtain ⟨v0, vs0, d0, ds0, p0, q0, hargs, rfl, rfl, h0, r0⟩ := trodAll_cons hA
  obtain ⟨rfl, rfl, rfl⟩ := trodAll_nil r0
  obtain rfl : args = #[v0] := by cases args; simp_all
  obtain ⟨rfl, rfl⟩ := trodVars_none hV
  obtain ⟨a0, len0, cap0, rfl⟩ := okWide_slice Tryz.underlying22 (hval 0 22 v0 rfl rfl)
  have k0 := h0
  have lt0 : ∀ x ∈ p0, x.block < W.heap.size := by obtain ⟨m, hm⟩ := k0; exact DataW.trod_lt m _ _ _ hm
  obtain ⟨z0, w0⟩ : ∃ zs, IsRow .i64 W a0 len0 cap0 zs := by
    obtain ⟨fuel, hf⟩ := h0
    rcases open_ints Tryz.underlying22 Tryz.underlying3 (by kernel_rfl) hf with ⟨hcs, _⟩ | ⟨x, l, c, zs, hcs, _, hl, hm, hz, _, hcell, hwz⟩
    · simp [Value.cells] at hcs
      obtain ⟨rfl, rfl, rfl⟩ := hcs
      exact ⟨[], .inl ⟨rfl, rfl, rfl, rfl⟩⟩
    · simp [Value.cells] at hcs
      obtain ⟨rfl, rfl, rfl⟩ := hcs
      exact ⟨zs, .inr ⟨_, rfl, hl, hm, by simpa using hz, hcell, hwz⟩⟩
  clear hA0 hval0
  refine (rorder_walk a0 len0 cap0 z0 W w0 (Tryz.laysM145.s1_3 W hsh)).mono fun e W' ⟨he, bel⟩ => ?_
  subst he
  exact ⟨_, rfl, _, _, _, [], _, [], hW', trodAll_mk1 (shut_bool Tryz.underlying4 _), (trodAll_cons_mk (Below.trod laidOut (by kernel_rfl) (of_decide_eq_true (by kernel_rfl)) k0 bel lt0) trodAll_mk0), rfl, bel.frame _, fun h => by cases h⟩

set_option maxRecDepth 100000 in
set_option maxHeartbeats 100000000 in
theorem over : Rows.recordOrderRow.holds Tryz.pinned (OpenSpec.ofChange Rows.recordOrderSpec) :=
  OpenClaim.holds_of_wide 6 Tryz.f6 rfl rfl rfl rfl rfl rfl rfl ⟨rfl, rfl, rfl, rfl, rfl⟩ rfl rfl rfl rfl rfl (by as_aux_lemma => kernel_rfl) Tryz.func6 closed
    (of_decide_eq_true (by as_aux_lemma => kernel_rfl)) (by unfold Func.isWrapper; first | (rw [if_pos (by decide +kernel)]; kernel_rfl) | (rw [if_neg (by decide +kernel)]; exact ⟨rfl, rfl⟩))
    (fun os started H enc _ => lifted os started H enc)

set_option maxRecDepth 100000 in
set_option maxHeartbeats 100000000 in
/-- THE STATEMENT -/
theorem proved : Rows.RecordOrderCardSaid :=
  Claim7.holds_tied_plain_at .later [] [.data, .data, .data, .data, .sentinel, .sentinel, .pinned] true (true, "c763381d540523415eb3f65f196e0aa82129d3e5ead69307a360aaeeb136679d") true
    over (fun _ h => by cases h) (by as_aux_lemma => kernel_rfl) (fun _ h => by cases h) recordOrder_row_tie rfl ⟨rfl, rfl⟩ (by as_aux_lemma => kernel_rfl) rfl
    (fun f fn hf hfn => by
      obtain rfl : f = 6 := Option.some.inj ((show Tryz.prog.funcNamed Rows.recordOrderRow.func = some 6 by kernel_rfl).symm.trans hf) |>.symm
      obtain rfl : fn = Tryz.f6 := (Option.some.inj (Tryz.func6.symm.trans hfn)).symm
      exact ⟨by kernel_rfl, fun j t ht => by
        rw [Tryz.params6] at ht
        have hm : t ∈ [22] := by simpa using Array.mem_of_getElem? ht
        have hall : ([22].all fun u => !Tryz.prog.wantsStandIn u) = true := by kernel_rfl
        exact (show Tryz.prog.wantsStandIn t = false by simpa using List.all_eq_true.1 hall t hm)⟩)
    (by as_aux_lemma => kernel_rfl)
#print axioms proved
end Go.Proofs.YteijllklpneagaaGreatDoor.recordOrder
end
