/- Parts of one proof: RefSchB, MakeZZ, DeckRec, RecMake, CmpPlain, RecAll, EncF, EncG, JoinC, JoinT, RefGramA, RecLine, MakeB, Drawn. -/
import Derived.Test.YthnfmolkppbbpaaGreatDoorPartRb6
set_option linter.unusedSimpArgs false
set_option linter.unusedVariables false
namespace Go.Proofs.YthnfmolkppbbpaaGreatDoor
section
set_option maxRecDepth 100000
open Go.RowKit Cal
attribute [local go_sem] toList_mk mk_size
set_option maxHeartbeats 4000000 in
theorem rvalue_any (S : Nat → Prop) (vf vt vn vs : Value) (s : SchemaL) (f : Int) (x : ByteArray) (w : World) (h : SchemaAt w S vf vt vn vs s) (hx : x.size ≤ 9223372036854775000) :
    Calls Tryz.prog 57 #[.agg #[vf, vt, vn, vs], .int .i64 f, .string x] w fun e w' => e = .returned (pairV (valueN s f x.data.toList)) ∧ Below w.heap.size w w' := by
  have HS := Lib.hid h.any
  have HL := Lib.hid (Lib.toList_data x)
  obtain ⟨hf1, hf2⟩ := h
  obtain ⟨af, cf, rfl⟩ := hf1.slice
  have HV1 := Lib.hid hf1.any
  have hfin : ∀ p, valueN s f x.data.toList = p → Ending.returned (pairV p) = .returned (pairV (valueN s f x.data.toList)) := fun p h => by rw [h]
  have HF := Lib.hid hfin
  clear hf1 hf2 hfin
  have hval : valueN s f x.data.toList = if (findN s f).2 = 0 then (if x.data.toList = [] then ([], 0) else normK (findN s f).1 s.rules x.data.toList) else ([], (findN s f).2) := rfl
  have hkk := findN_kind (s := s) (f := f)
  have hfn : findN s f = if checkS s = 0 then (if 0 ≤ f ∧ f < s.fields.length then ((s.fields.getD f.toNat default).2, 0) else (0, 2)) else (0, checkS s) := rfl
  have K := rscheck_any Any1 (.slice af s.fields.length cf) vt vn vs s (w.alloc (.cells #[.slice af s.fields.length cf, vt, vn, vs] 33)) (HS.out.below ((Below.refl _ _).alloc (Nat.le_refl _) _))
  have hcf := fun h => (check_fields (s := s) h).1
  obtain ⟨c, hc⟩ : ∃ c, checkS s = c := ⟨_, rfl⟩
  rw [hc] at K hfn hcf
  have HK := Lib.hid K; clear K
  have START := Lib.hid (trivial : True)
  by_cases he : c = 0
  · subst he
    have hlen := (hcf rfl).2
    clear hcf
    rw [if_pos rfl] at hfn
    by_cases hr : 0 ≤ f ∧ f < s.fields.length
    · rw [if_pos hr] at hfn
      obtain ⟨r1, r2⟩ := hr
      obtain ⟨k, rfl⟩ := Int.eq_ofNat_of_zero_le r1
      rw [Int.toNat_natCast] at hfn
      have hk : k < s.fields.length := by omega
      obtain ⟨b, off, rfl, _, hb, hcell⟩ := vec_cell2 HV1.out (by omega)
      obtain ⟨y, hy⟩ : ∃ y, s.fields.getD k default = y := ⟨_, rfl⟩
      have hck := hcell k hk
      rw [hy] at hck hfn
      obtain ⟨nm, kd⟩ := y
      have C1 := Lib.hid (show w.cell? ⟨b, off + k * 2 + 1, none⟩ = some (.int .i64 kd) from hck 1 _ rfl)
      rw [hfn] at hval hkk
      dsimp only at hval hkk
      have hkd := hkk rfl
      rw [if_pos rfl] at hval
      have HVal := Lib.hid hval
      have t1 : decide ((k : Int) < 0) = false := by simp
      have t2 : decide ((s.fields.length : Int) ≤ k) = false := by simp; omega
      have t3 : (k : Int) < (s.fields.length : Int) := by omega
      clear hck hcell hfn hkk hval hy r1 r2
      by_cases hx0 : x.data.toList = []
      · have e1 : x.toList = [] := by rw [HL.out, hx0]
        have HE := Lib.hid (show valueN s (k : Int) x.data.toList = ([], 0) by rw [HVal.out, if_pos hx0])
        clear hx0 hkd
        go_enter Tryz.func57, Tryz.ntmps57
        go_wp2_with fail
        refine HK.out.mono ?_
        rintro e w1 ⟨rfl, hb1⟩
        have HB1 := Lib.hid (((Below.refl w.heap.size w).alloc (Nat.le_refl _) (.cells #[.slice (some ⟨b, off, none⟩) s.fields.length cf, vt, vn, vs] 33)).trans (hb1.mono (by simp)))
        have HX1 := Lib.hid (blk_below (b := w.heap.size) (o := .cells #[.slice (some ⟨b, off, none⟩) s.fields.length cf, vt, vn, vs] 33 (0, 0)) hb1 (by simp) (blk_new rfl))
        clear hb1 HK
        have z0 := lt_of_blk HX1.out
        obtain ⟨p0, p1, p2, p3⟩ := cells4 HX1.out
        go_wp2_with fail
        go_ret2
        exact ⟨HF.out _ HE.out, HB1.out⟩
      · have e1 : (x.toList == []) = false := by rw [HL.out]; simpa using hx0
        have e2 : x.toList.isEmpty = false := by rw [HL.out]; simpa using hx0
        have HE := Lib.hid (show valueN s (k : Int) x.data.toList = normK kd s.rules x.data.toList by rw [HVal.out, if_neg hx0])
        clear hx0
        rcases hkd with rfl | rfl | rfl | rfl
        · have HE2 := Lib.hid (show valueN s (k : Int) x.data.toList = nameN s.rules x.data.toList from HE.out)
          go_enter Tryz.func57, Tryz.ntmps57
          go_wp2_with fail
          refine HK.out.mono ?_
          rintro e w1 ⟨rfl, hb1⟩
          have HB1 := Lib.hid (((Below.refl w.heap.size w).alloc (Nat.le_refl _) (.cells #[.slice (some ⟨b, off, none⟩) s.fields.length cf, vt, vn, vs] 33)).trans (hb1.mono (by simp)))
          have HX1 := Lib.hid (blk_below (b := w.heap.size) (o := .cells #[.slice (some ⟨b, off, none⟩) s.fields.length cf, vt, vn, vs] 33 (0, 0)) hb1 (by simp) (blk_new rfl))
          clear hb1 HK
          have z0 := lt_of_blk HX1.out
          obtain ⟨p0, p1, p2, p3⟩ := cells4 HX1.out
          have c1 : w1.cell? ⟨b, off + k * 2 + 1, none⟩ = some (.int .i64 1) := (HB1.out.cell (p := ⟨b, off + k * 2 + 1, none⟩) hb).trans C1.out
          go_wp2_with fail
          refine (rnorm_any Any1 vt vn vs s.rules x _ (HS.out.2.below HB1.out) hx).mono ?_
          rw [← HE2.out]
          obtain ⟨⟨pl, pe⟩, hpp⟩ : ∃ p, valueN s (k : Int) x.data.toList = p := ⟨_, rfl⟩
          rw [hpp]
          have HPP := Lib.hid hpp
          unfold pairV
          rintro e w3 ⟨rfl, hb3⟩
          have HB3 := Lib.hid (HB1.out.trans (hb3.mono HB1.out.size))
          clear hb3 hpp HE HE2 p0 p1 p2 p3 c1
          go_wp2_with fail
          go_ret2
          exact ⟨HF.out _ HPP.out, HB3.out⟩
        · have HE2 := Lib.hid (show valueN s (k : Int) x.data.toList = dayN x.data.toList from HE.out)
          rcases parse_is x with ⟨da, db, dc, hv, hp, hd⟩ | ⟨hp, hd⟩
          · have HV := Lib.hid hv; have HP := Lib.hid hp
            have HE3 := Lib.hid (HE2.out.trans hd)
            clear hv hp hd HE HE2
            go_enter Tryz.func57, Tryz.ntmps57
            go_wp2_with fail
            refine HK.out.mono ?_
            rintro e w1 ⟨rfl, hb1⟩
            have HB1 := Lib.hid (((Below.refl w.heap.size w).alloc (Nat.le_refl _) (.cells #[.slice (some ⟨b, off, none⟩) s.fields.length cf, vt, vn, vs] 33)).trans (hb1.mono (by simp)))
            have HX1 := Lib.hid (blk_below (b := w.heap.size) (o := .cells #[.slice (some ⟨b, off, none⟩) s.fields.length cf, vt, vn, vs] 33 (0, 0)) hb1 (by simp) (blk_new rfl))
            clear hb1 HK
            have z0 := lt_of_blk HX1.out
            obtain ⟨p0, p1, p2, p3⟩ := cells4 HX1.out
            have c1 : w1.cell? ⟨b, off + k * 2 + 1, none⟩ = some (.int .i64 2) := (HB1.out.cell (p := ⟨b, off + k * 2 + 1, none⟩) hb).trans C1.out
            go_wp2_with fail
            refine (rparse_any x _).mono ?_
            rw [HP.out]
            rintro e w2 ⟨rfl, hb2⟩
            have HB2 := Lib.hid (HB1.out.trans (hb2.mono HB1.out.size))
            clear hb2 p0 p1 p2 p3 c1
            go_wp2_with fail
            refine (rformat_yes da db dc _ HV.out).mono ?_
            rintro e w3 ⟨rfl, hb3⟩
            have HB3 := Lib.hid ((HB2.out.alloc HB2.out.size (.cells #[.int .i64 da, .int .i64 db, .int .i64 dc] 91)).trans (hb3.mono (by have := HB2.out.size; simp; omega)))
            clear hb3
            go_wp2_with fail
            go_ret2
            exact ⟨HF.out _ HE3.out, HB3.out⟩
          · have HP := Lib.hid hp
            have HE3 := Lib.hid (HE2.out.trans hd)
            clear hp hd HE HE2
            go_enter Tryz.func57, Tryz.ntmps57
            go_wp2_with fail
            refine HK.out.mono ?_
            rintro e w1 ⟨rfl, hb1⟩
            have HB1 := Lib.hid (((Below.refl w.heap.size w).alloc (Nat.le_refl _) (.cells #[.slice (some ⟨b, off, none⟩) s.fields.length cf, vt, vn, vs] 33)).trans (hb1.mono (by simp)))
            have HX1 := Lib.hid (blk_below (b := w.heap.size) (o := .cells #[.slice (some ⟨b, off, none⟩) s.fields.length cf, vt, vn, vs] 33 (0, 0)) hb1 (by simp) (blk_new rfl))
            clear hb1 HK
            have z0 := lt_of_blk HX1.out
            obtain ⟨p0, p1, p2, p3⟩ := cells4 HX1.out
            have c1 : w1.cell? ⟨b, off + k * 2 + 1, none⟩ = some (.int .i64 2) := (HB1.out.cell (p := ⟨b, off + k * 2 + 1, none⟩) hb).trans C1.out
            go_wp2_with fail
            refine (rparse_any x _).mono ?_
            rw [HP.out]
            rintro e w2 ⟨rfl, hb2⟩
            have HB2 := Lib.hid (HB1.out.trans (hb2.mono HB1.out.size))
            clear hb2 p0 p1 p2 p3 c1
            go_wp2_with fail
            go_ret2
            exact ⟨HF.out _ HE3.out, HB2.out.alloc HB2.out.size _⟩
        · have HE2 := Lib.hid (show valueN s (k : Int) x.data.toList = codeN x.data.toList from HE.out)
          go_enter Tryz.func57, Tryz.ntmps57
          go_wp2_with fail
          refine HK.out.mono ?_
          rintro e w1 ⟨rfl, hb1⟩
          have HB1 := Lib.hid (((Below.refl w.heap.size w).alloc (Nat.le_refl _) (.cells #[.slice (some ⟨b, off, none⟩) s.fields.length cf, vt, vn, vs] 33)).trans (hb1.mono (by simp)))
          have HX1 := Lib.hid (blk_below (b := w.heap.size) (o := .cells #[.slice (some ⟨b, off, none⟩) s.fields.length cf, vt, vn, vs] 33 (0, 0)) hb1 (by simp) (blk_new rfl))
          clear hb1 HK
          have z0 := lt_of_blk HX1.out
          obtain ⟨p0, p1, p2, p3⟩ := cells4 HX1.out
          have c1 : w1.cell? ⟨b, off + k * 2 + 1, none⟩ = some (.int .i64 3) := (HB1.out.cell (p := ⟨b, off + k * 2 + 1, none⟩) hb).trans C1.out
          go_wp2_with fail
          refine (rcode_any x _ hx).mono ?_
          rw [← HE2.out]
          obtain ⟨⟨pl, pe⟩, hpp⟩ : ∃ p, valueN s (k : Int) x.data.toList = p := ⟨_, rfl⟩
          rw [hpp]
          have HPP := Lib.hid hpp
          unfold pairV
          rintro e w3 ⟨rfl, hb3⟩
          have HB3 := Lib.hid (HB1.out.trans (hb3.mono HB1.out.size))
          clear hb3 hpp HE HE2 p0 p1 p2 p3 c1
          go_wp2_with fail
          go_ret2
          exact ⟨HF.out _ HPP.out, HB3.out⟩
        · have HE2 := Lib.hid (show valueN s (k : Int) x.data.toList = addrN s.rules x.data.toList from HE.out)
          go_enter Tryz.func57, Tryz.ntmps57
          go_wp2_with fail
          refine HK.out.mono ?_
          rintro e w1 ⟨rfl, hb1⟩
          have HB1 := Lib.hid (((Below.refl w.heap.size w).alloc (Nat.le_refl _) (.cells #[.slice (some ⟨b, off, none⟩) s.fields.length cf, vt, vn, vs] 33)).trans (hb1.mono (by simp)))
          have HX1 := Lib.hid (blk_below (b := w.heap.size) (o := .cells #[.slice (some ⟨b, off, none⟩) s.fields.length cf, vt, vn, vs] 33 (0, 0)) hb1 (by simp) (blk_new rfl))
          clear hb1 HK
          have z0 := lt_of_blk HX1.out
          obtain ⟨p0, p1, p2, p3⟩ := cells4 HX1.out
          have c1 : w1.cell? ⟨b, off + k * 2 + 1, none⟩ = some (.int .i64 4) := (HB1.out.cell (p := ⟨b, off + k * 2 + 1, none⟩) hb).trans C1.out
          go_wp2_with fail
          refine (raddr_any Any1 vt vn vs s.rules x _ (HS.out.2.below HB1.out) hx).mono ?_
          rw [← HE2.out]
          obtain ⟨⟨pl, pe⟩, hpp⟩ : ∃ p, valueN s (k : Int) x.data.toList = p := ⟨_, rfl⟩
          rw [hpp]
          have HPP := Lib.hid hpp
          unfold pairV
          rintro e w3 ⟨rfl, hb3⟩
          have HB3 := Lib.hid (HB1.out.trans (hb3.mono HB1.out.size))
          clear hb3 hpp HE HE2 p0 p1 p2 p3 c1
          go_wp2_with fail
          go_ret2
          exact ⟨HF.out _ HPP.out, HB3.out⟩
    · rw [if_neg hr] at hfn
      have HE := Lib.hid (show valueN s f x.data.toList = ([], 2) by rw [hval, hfn]; rfl)
      clear hval hkk hfn
      by_cases r1 : 0 ≤ f
      · have t1 : decide (f < 0) = false := by simp; omega
        have t2 : decide ((s.fields.length : Int) ≤ f) = true := by simp; omega
        go_enter Tryz.func57, Tryz.ntmps57
        go_wp2_with fail
        refine HK.out.mono ?_
        rintro e w1 ⟨rfl, hb1⟩
        have HB1 := Lib.hid (((Below.refl w.heap.size w).alloc (Nat.le_refl _) (.cells #[.slice af s.fields.length cf, vt, vn, vs] 33)).trans (hb1.mono (by simp)))
        have HX1 := Lib.hid (blk_below (b := w.heap.size) (o := .cells #[.slice af s.fields.length cf, vt, vn, vs] 33 (0, 0)) hb1 (by simp) (blk_new rfl))
        clear hb1 HK
        have z0 := lt_of_blk HX1.out
        obtain ⟨p0, p1, p2, p3⟩ := cells4 HX1.out
        go_wp2_with fail
        go_ret2
        exact ⟨HF.out _ HE.out, HB1.out⟩
      · have t1 : decide (f < 0) = true := by simp; omega
        go_enter Tryz.func57, Tryz.ntmps57
        go_wp2_with fail
        refine HK.out.mono ?_
        rintro e w1 ⟨rfl, hb1⟩
        have HB1 := Lib.hid (((Below.refl w.heap.size w).alloc (Nat.le_refl _) (.cells #[.slice af s.fields.length cf, vt, vn, vs] 33)).trans (hb1.mono (by simp)))
        have HX1 := Lib.hid (blk_below (b := w.heap.size) (o := .cells #[.slice af s.fields.length cf, vt, vn, vs] 33 (0, 0)) hb1 (by simp) (blk_new rfl))
        clear hb1 HK
        have z0 := lt_of_blk HX1.out
        obtain ⟨p0, p1, p2, p3⟩ := cells4 HX1.out
        go_wp2_with fail
        go_ret2
        exact ⟨HF.out _ HE.out, HB1.out⟩
  · rw [if_neg he] at hfn
    have HE := Lib.hid (show valueN s f x.data.toList = ([], c) by rw [hval, hfn]; dsimp only; rw [if_neg he])
    have he1 : (c != 0) = true := by simpa using he
    clear hval hkk hfn hcf he
    go_enter Tryz.func57, Tryz.ntmps57
    go_wp2_with fail
    refine HK.out.mono ?_
    rintro e w1 ⟨rfl, hb1⟩
    have HB1 := Lib.hid (((Below.refl w.heap.size w).alloc (Nat.le_refl _) (.cells #[.slice af s.fields.length cf, vt, vn, vs] 33)).trans (hb1.mono (by simp)))
    have HX1 := Lib.hid (blk_below (b := w.heap.size) (o := .cells #[.slice af s.fields.length cf, vt, vn, vs] 33 (0, 0)) hb1 (by simp) (blk_new rfl))
    clear hb1 HK
    have z0 := lt_of_blk HX1.out
    obtain ⟨p0, p1, p2, p3⟩ := cells4 HX1.out
    go_wp2_with fail
    go_ret2
    exact ⟨HF.out _ HE.out, HB1.out⟩
end
section
set_option maxRecDepth 100000
open Go.RowKit
attribute [local go_sem] toList_mk mk_size str_append
def kindsD : List Int := [1, 1, 2, 4, 3]
theorem kindsD_bd (k : Nat) (hk : k < 5) : 1 ≤ kindsD.getD k 0 ∧ kindsD.getD k 0 ≤ 4 := by
  have : ∀ j : Fin 5, 1 ≤ kindsD.getD j 0 ∧ kindsD.getD j 0 ≤ 4 := by decide
  exact this ⟨k, hk⟩
theorem kinds_cell {w : World} {b : Nat} (h : w.heap[b]? = some (.cells (kindsD.map (Value.int .i64)).toArray 3 (0, 0))) (k : Nat) (hk : k < 5) : w.cell? ⟨b, k, none⟩ = some (.int .i64 (kindsD.getD k 0)) := by
  rw [cell_of_row _ _ _ _ _ _ h, List.getElem?_toArray, List.getElem?_map]
  have : k < kindsD.length := hk
  rw [List.getD, List.getElem?_eq_getElem this]; rfl
set_option maxHeartbeats 8000000 in
theorem schema_deal (D : Nat) (w : World) (h : DeckAt w D) :
    Calls Tryz.prog 8 #[.pointer (some ⟨D, 0, none⟩)] w (SchemaPost D w) := by
  have zD := h.lt
  have M0 := Lib.hid (Moved.start h); clear h
  go_enter Tryz.func8, Tryz.ntmps8
  go_wp2_with fail
  refine (rules_deal D _ (M0.out.alloc _).deck).mono ?_
  rintro e w1 ⟨vt, vn, vs, r, rfl, hr, hd, mv⟩
  obtain ⟨at', ct, rfl⟩ := hr.1.slice
  obtain ⟨an, cn, rfl⟩ := hr.2.1.slice
  obtain ⟨as', cs, rfl⟩ := hr.2.2.slice
  have zw : w.heap.size < w1.heap.size := by have := mv.size; simp at this; omega
  have X1 := Lib.hid (show w1.heap[w.heap.size]? = some (.cells nil4 33 (0, 0)) from mv.blk (by omega) (blk_new rfl))
  have M1 := Lib.hid ((M0.out.alloc _).trans mv)
  have HR := Lib.hid hr; have HRD := Lib.hid hd
  clear hr hd mv
  go_wp2_with fail
  have K0 := Lib.hid (show SMid D w w1.heap.size (.slice at' r.titles.length ct) (.slice an r.nicks.length cn) (.slice as' r.streets.length cs) r (.slice none 0 0) [] ((w1.alloc (.cells #[.slice none 0 0, .slice at' r.titles.length ct, .slice an r.nicks.length cn, .slice as' r.streets.length cs] 33)).alloc (.cells (namesD.flatMap encS).toArray 9)) from
    ⟨blk_old (blk_old X1.out), blk_old (blk_new rfl), blk_new (by simp), ⟨rfl, .inl ⟨rfl, rfl⟩⟩, by
      have hb : Below w1.heap.size w1 ((w1.alloc (.cells #[.slice none 0 0, .slice at' r.titles.length ct, .slice an r.nicks.length cn, .slice as' r.streets.length cs] 33)).alloc (.cells (namesD.flatMap encS).toArray 9)) := ((Below.refl _ _).alloc (Nat.le_refl _) _).alloc (by simp) _
      have mvv : ∀ b, b < w1.heap.size → (w.alloc (.cells nil4 33)).heap.size ≤ b → _ ∧ (w.heap.size < b ∧ b < w1.heap.size) := fun b h1 h2 => ⟨hb.block b h1, by simp at h2; omega, h1⟩
      exact ⟨HR.out.1.move hb.size mvv, HR.out.2.1.move hb.size mvv, HR.out.2.2.move hb.size mvv⟩, FieldsD.nil, (M1.out.alloc _).alloc _, zw⟩)
  refine (next_any D _ 4 K0.out.moved.deck (by omega) (by omega)).mono ?_
  rintro e w2 ⟨q, rfl, q0, q1, mv⟩
  obtain ⟨q, rfl⟩ := Int.eq_ofNat_of_zero_le q0
  have K1 := Lib.hid (K0.out.gone zD mv)
  clear mv K0 X1 M1 HR M0
  go_wp2_with fail
  go_loopw [6] (fun i wr => ∃ (k : Nat) (F : List F2) (vf : Value), i = .int .i64 k ∧ k ≤ 1 + q ∧ F.length = k ∧ SMid D w w1.heap.size (.slice at' r.titles.length ct) (.slice an r.nicks.length cn) (.slice as' r.streets.length cs) r vf F wr) (fun i _ => 1 + q - (intOf i).toNat)
  case atStart => exact ⟨0, [], _, rfl, by omega, rfl, K1.out⟩
  case round =>
    obtain ⟨k, F, vf, rfl, hk, hF, hm⟩ := hrel
    have HF := Lib.hid hF; have KM := Lib.hid hm
    clear hm hF K1
    by_cases hlt : k < 1 + q
    · have hq : decide ((k : Int) < 1 + q) = true := by simp; omega
      have hix : (k : Int) < 5 := by omega
      have hc : (wr.alloc (.cells #[.int .i64 1, .int .i64 1, .int .i64 2, .int .i64 4, .int .i64 3] 3)).cell? ⟨wr.heap.size, k, none⟩ = _ := kinds_cell (w := wr.alloc (.cells (kindsD.map (Value.int .i64)).toArray 3)) (b := wr.heap.size) (blk_new rfl) k (by omega)
      obtain ⟨kb1, kb2⟩ := kindsD_bd k (by omega)
      obtain ⟨kd, hkd⟩ : ∃ kd, kindsD.getD k 0 = kd := ⟨_, rfl⟩
      rw [hkd] at hc kb1 kb2
      clear hkd
      go_wp2_with fail
      refine (one_any D _ 4 (KM.out.moved.alloc _).deck (by omega) (by omega)).mono ?_
      rintro e w3 ⟨u, rfl, mv⟩
      have KN := Lib.hid (KM.out.gone zD (((Moved.start KM.out.moved.deck).alloc _).trans mv))
      clear hc mv
      go_upto_if 25 with (fail)
      go_cut [7] (fun s7 wx => ∃ kd : Int, s7 = .int .i64 kd ∧ 1 ≤ kd ∧ kd ≤ 4 ∧ SMid D w w1.heap.size (.slice at' r.titles.length ct) (.slice an r.nicks.length cn) (.slice as' r.streets.length cs) r vf F wx)
      case first =>
        cases u
        · go_wp2_with fail
          go_meet
          exact ⟨kd, rfl, kb1, kb2, KN.out⟩
        · go_wp2_with fail
          refine (next_any D _ 4 KN.out.moved.deck (by omega) (by omega)).mono ?_
          rintro e w4 ⟨p, rfl, p0, p1, mv⟩
          have KO := Lib.hid (KN.out.gone zD mv)
          clear mv
          go_wp2_with fail
          go_meet
          exact ⟨1 + p, rfl, by omega, by omega, KO.out⟩
      case rest =>
        obtain ⟨kx, rfl, kx1, kx2, hm⟩ := hcut
        have KX := Lib.hid hm
        clear hm KM KN kb1 kb2
        obtain ⟨av, cv, hav⟩ := own_slice KX.out.own
        rw [HF.out] at hav
        subst hav
        have cY := (cells4 KX.out.s).1
        have cN := KX.out.n.cell k (by show k < 5; omega)
        have zY := lt_of_blk KX.out.n
        have zY0 : w1.heap.size < wc.heap.size := by omega
        obtain ⟨nm, hnm⟩ : ∃ nm, namesD.getD k [] = nm := ⟨_, rfl⟩
        rw [hnm] at cN
        have HNM := Lib.hid hnm; clear hnm
        go_wp2_with fail
        have hown := own_below KX.out.own (((Below.refl _ _).alloc (Nat.le_refl _) (.cells #[strV nm, .int .i64 kx] 62)).drew)
        have hnews : ∀ j u, [strV nm, Value.int .i64 kx][j]? = some u → ((wc.alloc (.cells #[strV nm, .int .i64 kx] 62)).drew).cell? ((⟨wc.heap.size, 0, none⟩ : Addr).add j) = some u := fun j u hu => by
          rw [add_plain, World.cell?_drew, cell_of_row _ _ _ _ _ _ (heap_alloc_new wc _), Nat.zero_add]; simpa using hu
        have hone : ∀ u ∈ [strV nm, Value.int .i64 kx], u.oneCell' = true := by intro u hu; simp at hu; rcases hu with rfl | rfl <;> rfl
        obtain ⟨i0, hi, hz0, hz1, hz2⟩ := info_parts infoF
        have hbA := ((Below.refl _ wc).alloc (Nat.le_refl _) (.cells #[strV nm, .int .i64 kx] 62)).drew
        have HBA := Lib.hid hbA; have HOwn := Lib.hid hown; have HNews := Lib.hid hnews; have HOne := Lib.hid hone; have HI := Lib.hid hi; have HZ0 := Lib.hid hz0; have HZ1 := Lib.hid hz1; have HZ2 := Lib.hid hz2
        have fY := (frozen_of_row _ _ _ _ _ KX.out.s : wc.frozen? ⟨w1.heap.size, 0, none⟩ = false)
        clear hbA hown hnews hone hi hz0 hz1 hz2
        rw [HF.out] at HOwn
        go_region_law (((refine step_append_lies _ rfl (.tmp 30) (.tmp 37) 27 (by rfl) (w1.heap.size + 2) 62 i0 (.agg #[.string ⟨#[]⟩, .int .i64 0]) 2 24 Tryz.underlying27 HI.out HZ0.out HZ1.out HZ2.out rfl (by decide) (.slice av k cv) k (F.flatMap encF) (by rfl) HOwn.out ⟨wc.heap.size, 0, none⟩ 1 1 [strV nm, .int .i64 kx] (by rfl) rfl HNews.out HOne.out (by omega) (by unfold maxLen; omega) (by omega) (by simp; omega) (wc.heap.size + 1) (by simp) ?_); intro g cap w5 hown5 hg5 hat5 hlt5; have cY5 := (hg5.cell_far ⟨w1.heap.size, 0, none⟩ (by simp; omega) (own_far HOwn.out (by show w1.heap.size < _; omega))).trans ((HBA.out.cell (p := ⟨w1.heap.size, 0, none⟩) (by show w1.heap.size < _; omega)).trans cY); have fY5 := (hg5.frozen_far ⟨w1.heap.size, 0, none⟩ (by simp; omega) (own_far HOwn.out (by show w1.heap.size < _; omega))).trans ((HBA.out.frozen (p := ⟨w1.heap.size, 0, none⟩) (by show w1.heap.size < _; omega)).trans fY)))
        all_goals
          have hfd := KX.out.fields.snoc (by rw [HF.out]; omega) kx1 kx2
          rw [HF.out, HNM.out] at hfd
          have hown6 := hown5
          rw [show F.flatMap encF ++ [strV nm, .int .i64 kx] = F.flatMap encF ++ encF (nm, kx) from rfl, ← HF.out] at hown6
          have KS := Lib.hid (KX.out.step (x := (nm, kx)) zD HBA.out hg5 hown6 hfd)
          rw [HF.out] at KS
          clear hfd hown6 hown5 hg5 hat5 cY5 fY5
          go_wp2_with fail
          go_roundw
          case rel => exact ⟨k + 1, F ++ [(nm, kx)], _, by go_num, by omega, by rw [List.length_append, HF.out]; rfl, KS.out⟩
          case measure => simp [intOf]; omega
    · have hq : decide ((k : Int) < 1 + q) = false := by simp; omega
      obtain ⟨av, cv, hav⟩ := own_slice KM.out.own
      subst hav
      have HZ := Lib.hid KM.out.z
      have HM := Lib.hid KM.out.moved
      have HR := Lib.hid KM.out.rules
      have HO := Lib.hid KM.out.own
      have HFd := Lib.hid KM.out.fields
      obtain ⟨c0, c1, c2, c3⟩ := cells4 KM.out.s
      obtain ⟨d0, d1, d2, d3⟩ := cells4 KM.out.z
      have g0 := (frozen_of_row _ _ _ _ _ KM.out.z : wr.frozen? ⟨w.heap.size, 0, none⟩ = false)
      have g1 := (frozen_of_row _ _ _ _ _ KM.out.z : wr.frozen? ⟨w.heap.size, 1, none⟩ = false)
      have g2 := (frozen_of_row _ _ _ _ _ KM.out.z : wr.frozen? ⟨w.heap.size, 2, none⟩ = false)
      have g3 := (frozen_of_row _ _ _ _ _ KM.out.z : wr.frozen? ⟨w.heap.size, 3, none⟩ = false)
      have z0 := lt_of_blk KM.out.z
      have z1 := lt_of_blk KM.out.s
      clear KM
      go_wp2_with fail
      have hz := (blk_set (i := 3) (v := (.slice as' r.streets.length cs)) (blk_set (i := 2) (v := (.slice an r.nicks.length cn)) (blk_set (i := 1) (v := (.slice at' r.titles.length ct)) (blk_set (i := 0) (v := (.slice av F.length cv)) HZ.out))))
      have hm := ((((HM.out.set (a := ⟨w.heap.size, 0, none⟩) (Nat.le_refl _) (.slice av F.length cv)).set (a := ⟨w.heap.size, 1, none⟩) (Nat.le_refl _) (.slice at' r.titles.length ct)).set (a := ⟨w.heap.size, 2, none⟩) (Nat.le_refl _) (.slice an r.nicks.length cn)).set (a := ⟨w.heap.size, 3, none⟩) (Nat.le_refl _) (.slice as' r.streets.length cs))
      have hv := (((((Vec.owns (k := 2) (enc := encF) (S := fun b => w.heap.size < b) (fun _ => rfl) HO.out (fun b h1 _ => by omega)).set1 (a := ⟨w.heap.size, 0, none⟩) (fun b h => Nat.ne_of_gt h) (.slice av F.length cv)).set1 (a := ⟨w.heap.size, 1, none⟩) (fun b h => Nat.ne_of_gt h) (.slice at' r.titles.length ct)).set1 (a := ⟨w.heap.size, 2, none⟩) (fun b h => Nat.ne_of_gt h) (.slice an r.nicks.length cn)).set1 (a := ⟨w.heap.size, 3, none⟩) (fun b h => Nat.ne_of_gt h) (.slice as' r.streets.length cs))
      have ht := (((((HR.out.1.weaken (S' := fun b => w.heap.size < b) fun b h => h.1).set1 (a := ⟨w.heap.size, 0, none⟩) (fun b h => Nat.ne_of_gt h) (.slice av F.length cv)).set1 (a := ⟨w.heap.size, 1, none⟩) (fun b h => Nat.ne_of_gt h) (.slice at' r.titles.length ct)).set1 (a := ⟨w.heap.size, 2, none⟩) (fun b h => Nat.ne_of_gt h) (.slice an r.nicks.length cn)).set1 (a := ⟨w.heap.size, 3, none⟩) (fun b h => Nat.ne_of_gt h) (.slice as' r.streets.length cs))
      have hn := (((((HR.out.2.1.weaken (S' := fun b => w.heap.size < b) fun b h => h.1).set1 (a := ⟨w.heap.size, 0, none⟩) (fun b h => Nat.ne_of_gt h) (.slice av F.length cv)).set1 (a := ⟨w.heap.size, 1, none⟩) (fun b h => Nat.ne_of_gt h) (.slice at' r.titles.length ct)).set1 (a := ⟨w.heap.size, 2, none⟩) (fun b h => Nat.ne_of_gt h) (.slice an r.nicks.length cn)).set1 (a := ⟨w.heap.size, 3, none⟩) (fun b h => Nat.ne_of_gt h) (.slice as' r.streets.length cs))
      have hs := (((((HR.out.2.2.weaken (S' := fun b => w.heap.size < b) fun b h => h.1).set1 (a := ⟨w.heap.size, 0, none⟩) (fun b h => Nat.ne_of_gt h) (.slice av F.length cv)).set1 (a := ⟨w.heap.size, 1, none⟩) (fun b h => Nat.ne_of_gt h) (.slice at' r.titles.length ct)).set1 (a := ⟨w.heap.size, 2, none⟩) (fun b h => Nat.ne_of_gt h) (.slice an r.nicks.length cn)).set1 (a := ⟨w.heap.size, 3, none⟩) (fun b h => Nat.ne_of_gt h) (.slice as' r.streets.length cs))
      have hw : ∀ b, w.heap.size < b → w.heap.size ≤ b := fun b h => Nat.le_of_lt h
      have hF1 : 1 ≤ F.length := by have := HF.out; omega
      exact bodyPost_row1 rfl rfl hz Tryz.underlying33 rfl (by kernel_rfl) ⟨_, _, _, _, ⟨F, r⟩, rfl, ⟨hv.weaken hw, ht.weaken hw, hn.weaken hw, hs.weaken hw⟩, ⟨HFd.out, hF1, HRD.out⟩, hm⟩
end
section
set_option maxRecDepth 100000
open Go.RowKit Cal
attribute [local go_sem] toList_mk mk_size str_append
/-- a record in memory: its three cells -/
def RecVal (w : World) (S : Nat → Prop) (v : Value) (r : RecL) : Prop := ∃ s, v = .agg #[.int .i64 r.id, .int .i64 r.ver, s] ∧ Vec w S 1 encS s r.vals
def MakePost (p : RecL × Int) (w : World) (e : Ending) (w' : World) : Prop := ∃ v, e = .returned (.tuple #[v, .int .i64 p.2]) ∧ RecVal w' (fun b => w.heap.size ≤ b) v p.1 ∧ Below w.heap.size w w'
/-- .. of raw values as many as fields, right numbers, a valid schema -/
theorem makeN_in {s : SchemaL} {id ver : Int} {raws : List (List UInt8)} (h0 : checkS s = 0) (h1 : raws.length = s.fields.length) (h2 : numberedB id ver = true) : makeN s id ver raws = if (makeA s 0 [] raws).2 = 0 then (⟨id, ver, (makeA s 0 [] raws).1⟩, 0) else (noRec, (makeA s 0 [] raws).2) := by
  unfold makeN; rw [if_pos h0, if_pos h1, if_pos h2]
/-- where ref13.Make stands: the schema's box, the result's, the record's, its values -/
structure MkAt (w : World) (rb : Nat) (vf vt vn vs : Value) (id ver : Int) (v : Value) (C : List (List UInt8)) (wr : World) : Prop where
  s : wr.heap[w.heap.size]? = some (.cells #[vf, vt, vn, vs] 33 (0, 0))
  z : wr.heap[w.heap.size + 1]? = some (.cells #[.int .i64 0, .int .i64 0, .slice none 0 0] 44 (0, 0))
  r : wr.heap[rb]? = some (.cells #[.int .i64 id, .int .i64 ver, v] 44 (0, 0))
  own : wr.ownsRow (rb + 1) 9 1 v C.length (C.flatMap encS)
  b : Below w.heap.size w wr
  lt : w.heap.size + 1 < rb
  lt2 : rb < wr.heap.size
theorem MkAt.below {w : World} {rb : Nat} {vf vt vn vs : Value} {id ver : Int} {v : Value} {C : List (List UInt8)} {wr wx : World} (h : MkAt w rb vf vt vn vs id ver v C wr) (hb : Below wr.heap.size wr wx) : MkAt w rb vf vt vn vs id ver v C wx :=
  ⟨blk_below hb (lt_of_blk h.s) h.s, blk_below hb (lt_of_blk h.z) h.z, blk_below hb (lt_of_blk h.r) h.r, own_below' h.own hb, h.b.trans (hb.mono h.b.size), h.lt, Nat.lt_of_lt_of_le h.lt2 hb.size⟩
set_option maxHeartbeats 8000000 in
theorem rmake_yes (S T : Nat → Prop) (vf vt vn vs : Value) (s : SchemaL) (id ver : Int) (raws : List (List UInt8)) (rv : Value) (w : World) (h : SchemaAt w S vf vt vn vs s) (hv : Vec w T 1 encS rv raws) (hc : checkS s = 0) (hl : raws.length = s.fields.length) (hn : numberedB id ver = true) (hs : ∀ x ∈ raws, x.length ≤ 1000000) :
    Calls Tryz.prog 24 #[.agg #[vf, vt, vn, vs], .int .i64 id, .int .i64 ver, rv] w (MakePost (makeN s id ver raws) w) := by
  have hmk := makeN_in hc hl hn
  obtain ⟨R, hR⟩ : ∃ R, makeN s id ver raws = R := ⟨_, rfl⟩
  rw [hR] at hmk ⊢
  have HMK := Lib.hid hmk
  clear hmk hR
  obtain ⟨a, cap, rfl⟩ := hv.slice
  obtain ⟨af, cf, rfl⟩ := h.1.slice
  have h5 : raws.length ≤ 5 := by have := (check_fields hc).1.2; omega
  have hne : ((raws.length : Int) != (s.fields.length : Int)) = false := by rw [hl]; simp
  have hn0 := hn
  simp only [numberedB, Bool.and_eq_true, decide_eq_true_iff] at hn0
  obtain ⟨⟨⟨n1, n2⟩, n3⟩, n4⟩ := hn0
  have e1 : decide (id < (1 : Int)) = false := by simp; omega
  have e2 : decide ((1048576 : Int) < id) = false := by simp; omega
  have e3 : decide (ver < (1 : Int)) = false := by simp; omega
  have e4 : decide ((1048576 : Int) < ver) = false := by simp; omega
  have HC := Lib.hid hc; have HV := Lib.hid hv.any; have HS := Lib.hid h.any; have HSh := Lib.hid hs
  clear h hv hc hl hn hs n1 n2 n3 n4
  go_enter Tryz.func24, Tryz.ntmps24
  go_wp2_with fail
  refine wp_calls_world (fun W hW => ?_)
  have hb0 : Below w.heap.size w W := by rw [hW]; exact ((Below.refl w.heap.size w).alloc (Nat.le_refl _) _).alloc (by simp) _
  have hs0 : W.heap[w.heap.size]? = some (.cells #[.slice af s.fields.length cf, vt, vn, vs] 33 (0, 0)) := by rw [hW]; exact blk_old (blk_new rfl)
  have hz0 : W.heap[w.heap.size + 1]? = some (.cells #[.int .i64 0, .int .i64 0, .slice none 0 0] 44 (0, 0)) := by rw [hW]; exact blk_new (by simp)
  clear hW
  refine (rscheck_any Any1 _ _ _ _ s _ (HS.out.below hb0)).mono ?_
  rw [HC.out]
  rintro e w1 ⟨rfl, hb⟩
  have hs1 := blk_below hb (lt_of_blk hs0) hs0; have hz1 := blk_below hb (lt_of_blk hz0) hz0
  have HB1 := Lib.hid (hb0.trans (hb.mono hb0.size)); have HS1 := Lib.hid hs1; have HZ1 := Lib.hid hz1
  obtain ⟨s0, s1, s2, s3⟩ := cellsS hs1
  clear hb hb0 hs0 hz0 hs1 hz1
  go_wp2_with fail
  refine wp_world (fun W2 hW2 => ?_)
  have hm0 : MkAt w w1.heap.size (.slice af s.fields.length cf) vt vn vs id ver (.slice none 0 0) [] W2 := by
    rw [hW2]
    exact ⟨blk_old HS1.out, blk_old HZ1.out, blk_new rfl, ⟨by simp, .inl ⟨rfl, rfl⟩⟩, HB1.out.alloc HB1.out.size _, lt_of_blk HZ1.out, by simp⟩
  have HM0 := Lib.hid hm0
  clear hW2 hm0 s0 s1 s2 s3
  go_loopw [12, 13, 14] (fun i _ _ wr => ∃ (j : Nat) (v : Value) (C : List (List UInt8)), i = .int .i64 j ∧ j ≤ raws.length ∧ C.length = j ∧ Hid (makeA s j C (raws.drop j) = makeA s 0 [] raws) ∧ MkAt w w1.heap.size (.slice af s.fields.length cf) vt vn vs id ver v C wr) (fun i _ _ _ => raws.length - (intOf i).toNat)
  case atStart => exact ⟨0, _, [], rfl, by omega, rfl, Lib.hid rfl, HM0.out⟩
  case round =>
    obtain ⟨j, vC, C, rfl, hj, hCl, HT, hm⟩ := hrel
    have HM := Lib.hid hm; have HCl := Lib.hid hCl; clear hm hCl HM0
    obtain ⟨s0, s1, s2, s3⟩ := cellsS HM.out.s
    by_cases hlt : j < raws.length
    · have hq : decide ((j : Int) < raws.length) = true := by simp; omega
      obtain ⟨x, hx⟩ : ∃ x, raws[j] = x := ⟨_, rfl⟩
      have hxl : x.length ≤ 1000000 := HSh.out x (by rw [← hx]; exact List.getElem_mem _)
      have hT := HT.out
      rw [List.drop_eq_getElem_cons hlt, hx, makeA] at hT
      obtain ⟨b, off, rfl, hb, hc⟩ := (HV.out.below HM.out.b).get j hlt
      have c0 := hc 0 _ rfl
      rw [Nat.mul_one, Nat.add_zero, hx] at c0
      obtain ⟨⟨y, er⟩, hp⟩ : ∃ p, valueN s j x = p := ⟨_, rfl⟩
      rw [hp] at hT
      dsimp only at hT
      have HT2 := Lib.hid hT; have HPv := Lib.hid hp
      clear hc hT hx HT hp
      go_wp2_with fail
      have hbw : b < wr.heap.size := hb
      have hzs := lt_of_blk HM.out.s
      refine wp_region_noPanic ?_
      refine wp_region_held_drew (S := (fun w' => w'.cell? ⟨w.heap.size, 0, none⟩ = some (.slice af s.fields.length cf) ∧ w'.cell? ⟨w.heap.size, 1, none⟩ = some vt ∧ w'.cell? ⟨w.heap.size, 2, none⟩ = some vn ∧ w'.cell? ⟨w.heap.size, 3, none⟩ = some vs ∧ w'.cell? ⟨b, off + j, none⟩ = some (strV x))) (by kernel_rfl) (⟨s0, s1, s2, s3, c0⟩) (fun hHeld => ?_)
      refine tH 0 (h := ?_)
      try simp only [List.getElem_toArray, List.getElem_cons_zero, List.getElem_cons_succ, Act.put, List.setIfInBounds_toArray, List.set_cons_zero, List.set_cons_succ]
      refine tH 1 (h := ?_)
      try simp only [List.getElem_toArray, List.getElem_cons_zero, List.getElem_cons_succ, Act.put, List.setIfInBounds_toArray, List.set_cons_zero, List.set_cons_succ]
      refine tH 2 (h := ?_)
      try simp only [List.getElem_toArray, List.getElem_cons_zero, List.getElem_cons_succ, Act.put, List.setIfInBounds_toArray, List.set_cons_zero, List.set_cons_succ]
      refine tH 3 (h := ?_)
      try simp only [List.getElem_toArray, List.getElem_cons_zero, List.getElem_cons_succ, Act.put, List.setIfInBounds_toArray, List.set_cons_zero, List.set_cons_succ]
      refine tH 4 (h := ?_)
      try simp only [List.getElem_toArray, List.getElem_cons_zero, List.getElem_cons_succ, Act.put, List.setIfInBounds_toArray, List.set_cons_zero, List.set_cons_succ]
      refine tH 5 (h := ?_)
      try simp only [List.getElem_toArray, List.getElem_cons_zero, List.getElem_cons_succ, Act.put, List.setIfInBounds_toArray, List.set_cons_zero, List.set_cons_succ]
      refine wpAnyH_ready (rs := [6]) (by kernel_rfl) (by simp) ?_
      refine AllReadyH.cons rfl (fun K hK => ?_) AllReadyH.nil
      go_simp
      refine (rvalue_any Any1 _ vt vn vs s j ⟨x.toArray⟩ _ ((HS.out.below HM.out.b).below (Below.refl _ _).drew) (by rw [mk_size]; omega)).mono ?_; rw [show (⟨x.toArray⟩ : ByteArray).data.toList = x by simp, HPv.out]; unfold pairV; rintro e w2 ⟨rfl, hb2⟩; have b2 := ((Below.refl wr.heap.size wr).drew).trans hb2; clear hb2
      refine hK.out _ _ (⟨(b2.cell (p := ⟨w.heap.size, 0, none⟩) hzs).trans s0, (b2.cell (p := ⟨w.heap.size, 1, none⟩) hzs).trans s1, (b2.cell (p := ⟨w.heap.size, 2, none⟩) hzs).trans s2, (b2.cell (p := ⟨w.heap.size, 3, none⟩) hzs).trans s3, (b2.cell (p := ⟨b, off + j, none⟩) hbw).trans c0⟩) (fun hHeld => ?_)
      clear hK K
      try simp only [List.getElem_toArray, List.getElem_cons_zero, List.getElem_cons_succ, Act.put, List.setIfInBounds_toArray, List.set_cons_zero, List.set_cons_succ]
      refine tH 7 (h := ?_)
      try simp only [List.getElem_toArray, List.getElem_cons_zero, List.getElem_cons_succ, Act.put, List.setIfInBounds_toArray, List.set_cons_zero, List.set_cons_succ]
      refine tH 8 (h := ?_)
      try simp only [List.getElem_toArray, List.getElem_cons_zero, List.getElem_cons_succ, Act.put, List.setIfInBounds_toArray, List.set_cons_zero, List.set_cons_succ]
      refine tH 9 (h := ?_)
      try simp only [List.getElem_toArray, List.getElem_cons_zero, List.getElem_cons_succ, Act.put, List.setIfInBounds_toArray, List.set_cons_zero, List.set_cons_succ]
      refine tH 10 (h := ?_)
      try simp only [List.getElem_toArray, List.getElem_cons_zero, List.getElem_cons_succ, Act.put, List.setIfInBounds_toArray, List.set_cons_zero, List.set_cons_succ]
      refine tH 11 (h := ?_)
      try simp only [List.getElem_toArray, List.getElem_cons_zero, List.getElem_cons_succ, Act.put, List.setIfInBounds_toArray, List.set_cons_zero, List.set_cons_succ]
      refine wpAnyH_done (by kernel_rfl) ?_ _
      refine NoPanic.normal ?_
      have HM2 := Lib.hid (HM.out.below b2)
      clear hHeld s0 s1 s2 s3 c0 b2 HM hbw hzs hb
      by_cases he : er = 0
      · subst he
        have HT3 := Lib.hid (show makeA s (j + 1) (C ++ [y]) (raws.drop (j + 1)) = makeA s 0 [] raws by rw [← HT2.out, if_pos rfl])
        clear HT2
        obtain ⟨r0, r1, r2⟩ := cells3 HM2.out.r
        have f2 := frozen_of_row _ _ 2 _ _ HM2.out.r
        have hrz := HM2.out.lt2
        have hone : ∀ u ∈ (#[strV y] : Array Value).toList, u.oneCell' = true := by intro u hu; simp at hu; subst hu; rfl
        have hbase : w1.heap.size + 1 ≤ w2.heap.size := hrz
        have hown := HM2.out.own
        have HOwn := Lib.hid hown
        clear hown
        have hcl : C.length < 1099511627776 := by rw [HCl.out]; omega
        go_wp2_with (at_builtin; refine wpList_append_new rfl _ _ 28 rfl (w1.heap.size + 1) 9 1 16 (.string ⟨#[]⟩) Tryz.underlying28 infoS rfl (by decide) (by decide) _ _ _ rfl HOwn.out #[strV y] 1 rfl rfl hone hcl hbase ?_; intro v2 w8 ho8 hw8; obtain ⟨av2, cv2, rfl⟩ := own_slice ho8; have hr8 := (hw8 w2 (Below.refl _ _)).block w1.heap.size (Nat.lt_succ_self _) |>.trans HM2.out.r; obtain ⟨q0, q1, q2⟩ := cells3 hr8; have g2 := frozen_of_row _ _ 2 _ _ hr8; have y8 := lt_of_blk hr8)
        have HW8 := Lib.hid (hw8 w2 (Below.refl _ _)); have HO8 := Lib.hid ho8; have HR8 := Lib.hid hr8
        clear hw8 ho8 hr8
        have hlt := HM2.out.lt
        go_roundw
        case rel =>
          refine ⟨j + 1, .slice av2 (C.length + 1) cv2, C ++ [y], by go_num, by omega, by rw [List.length_append, HCl.out]; rfl, HT3, ?_⟩
          refine ⟨blk_far ((HW8.out.block w.heap.size (by omega)).trans HM2.out.s) (by show w.heap.size ≠ w1.heap.size; omega), blk_far ((HW8.out.block (w.heap.size + 1) (by omega)).trans HM2.out.z) (by show w.heap.size + 1 ≠ w1.heap.size; omega), blk_set (i := 2) HR8.out, ?_, ?_, hlt, by simpa [World.setCell] using y8⟩
          · rw [List.length_append, List.flatMap_append]
            exact own_same HO8.out fun g h1 h2 => heap_setCell_other _ _ _ _ (by show g ≠ w1.heap.size; omega)
          · exact (HM2.out.b.trans (HW8.out.mono (by omega))).setCell (p := ⟨w1.heap.size, 2, none⟩) (by show w.heap.size ≤ w1.heap.size; omega) _
        case measure => simp [intOf]; omega
      · have hne2 : (er != 0) = true := by simpa using he
        have hR : R = (noRec, er) := by rw [HMK.out, ← HT2.out, if_neg he, if_neg he]
        have HRR := Lib.hid hR
        obtain ⟨z0, z1, z2⟩ := cells3 HM2.out.z
        have f0 := frozen_of_row _ _ 0 _ _ HM2.out.z; have f1 := frozen_of_row _ _ 1 _ _ HM2.out.z; have f2 := frozen_of_row _ _ 2 _ _ HM2.out.z
        have yz := lt_of_blk HM2.out.z
        clear hR he HT2
        go_wp2_with fail
        rw [HRR.out]
        exact bodyPost_row2 rfl rfl (blk_set (i := 2) (v := .slice none 0 0) (blk_set (i := 1) (v := .int .i64 0) (blk_set (i := 0) (v := .int .i64 0) HM2.out.z))) Tryz.underlying44 rfl (by kernel_rfl)
          ⟨_, rfl, ⟨_, rfl, Vec.nil _ _ _ _⟩, ((HM2.out.b.setCell (p := ⟨w.heap.size + 1, 0, none⟩) (Nat.le_succ _) _).setCell (p := ⟨w.heap.size + 1, 1, none⟩) (Nat.le_succ _) _).setCell (p := ⟨w.heap.size + 1, 2, none⟩) (Nat.le_succ _) _⟩
    · have hq : decide ((j : Int) < raws.length) = false := by simp; omega
      obtain rfl : j = raws.length := by omega
      have hT := HT.out
      rw [List.drop_length, makeA] at hT
      have hR : R = (⟨id, ver, C⟩, 0) := by rw [HMK.out, ← hT, if_pos rfl]
      have HRR := Lib.hid hR
      have hlt := HM.out.lt
      obtain ⟨z0, z1, z2⟩ := cells3 HM.out.z
      obtain ⟨r0, r1, r2⟩ := cells3 HM.out.r
      have f0 := frozen_of_row _ _ 0 _ _ HM.out.z; have f1 := frozen_of_row _ _ 1 _ _ HM.out.z; have f2 := frozen_of_row _ _ 2 _ _ HM.out.z
      have yz := lt_of_blk HM.out.z
      obtain ⟨aC, cC, hvC⟩ := own_slice HM.out.own
      subst hvC
      clear hR hT HT s0 s1 s2 s3
      go_wp2_with fail
      rw [HRR.out]
      refine bodyPost_row2 rfl rfl (blk_set (i := 2) (v := .slice aC C.length cC) (blk_set (i := 1) (v := .int .i64 ver) (blk_set (i := 0) (v := .int .i64 id) HM.out.z))) Tryz.underlying44 rfl (by kernel_rfl)
        ⟨_, rfl, ⟨_, rfl, ?_⟩, ((HM.out.b.setCell (p := ⟨w.heap.size + 1, 0, none⟩) (Nat.le_succ _) _).setCell (p := ⟨w.heap.size + 1, 1, none⟩) (Nat.le_succ _) _).setCell (p := ⟨w.heap.size + 1, 2, none⟩) (Nat.le_succ _) _⟩
      have hown := own_same (w' := ((wr.setCell ⟨w.heap.size + 1, 0, none⟩ (.int .i64 id)).setCell ⟨w.heap.size + 1, 1, none⟩ (.int .i64 ver)).setCell ⟨w.heap.size + 1, 2, none⟩ (.slice aC C.length cC)) HM.out.own fun g h1 h2 => ((heap_setCell_other _ _ _ _ (by show g ≠ w.heap.size + 1; omega)).trans (heap_setCell_other _ _ _ _ (by show g ≠ w.heap.size + 1; omega))).trans (heap_setCell_other _ _ _ _ (by show g ≠ w.heap.size + 1; omega))
      exact Vec.owns (k := 1) (enc := encS) (fun _ => rfl) hown (fun b h1 _ => by show w.heap.size ≤ b; omega)
end
section
set_option maxRecDepth 100000
open Go.RowKit Cal
attribute [local go_sem] toList_mk mk_size str_append
theorem made_strs (m : Nat) : madeCells #[strV []] m = ((List.replicate m ([] : List UInt8)).flatMap encS).toArray := by
  have e : ((List.replicate m ([] : List UInt8)).flatMap encS) = List.replicate m (strV []) := by
    induction m with
    | zero => rfl
    | succ m ih => rw [List.replicate_succ, List.flatMap_cons, ih]; rfl
  rw [e]
  unfold madeCells
  apply Array.toList_inj.1
  rw [Array.toList_map, Array.toList_range]
  refine List.ext_getElem (by simp) fun i h1 h2 => ?_
  simp [Nat.mod_one]
theorem row_put (L : List (List UInt8)) (j : Nat) (y : List UInt8) : ((L.flatMap encS).toArray).setIfInBounds j (strV y) = ((L.set j y).flatMap encS).toArray := by
  rw [flat_set]; simp
/-- where Make stands: the schema's box, the result's, the record's, its values -/
structure PkAt (w : World) (g : Nat) (vf vt vn vs : Value) (id ver : Int) (n : Nat) (L : List (List UInt8)) (wr : World) : Prop where
  s : wr.heap[w.heap.size]? = some (.cells #[vf, vt, vn, vs] 33 (0, 0))
  z : wr.heap[w.heap.size + 1]? = some (.cells #[.int .i64 0, .int .i64 0, .slice none 0 0] 44 (0, 0))
  row : wr.heap[g]? = some (.cells (L.flatMap encS).toArray 9 (0, 0))
  r : wr.heap[g + 1]? = some (.cells #[.int .i64 id, .int .i64 ver, .slice (some ⟨g, 0, none⟩) n n] 44 (0, 0))
  b : Below w.heap.size w wr
  lt : w.heap.size + 1 < g
theorem PkAt.below {w : World} {g : Nat} {vf vt vn vs : Value} {id ver : Int} {n : Nat} {L : List (List UInt8)} {wr wx : World} (h : PkAt w g vf vt vn vs id ver n L wr) (hb : Below wr.heap.size wr wx) : PkAt w g vf vt vn vs id ver n L wx :=
  ⟨blk_below hb (lt_of_blk h.s) h.s, blk_below hb (lt_of_blk h.z) h.z, blk_below hb (lt_of_blk h.row) h.row, blk_below hb (lt_of_blk h.r) h.r, h.b.trans (hb.mono h.b.size), h.lt⟩
theorem fill_set {C : List (List UInt8)} {j n : Nat} (hC : C.length = j) (hj : j < n) (y : List UInt8) : (C ++ List.replicate (n - j) []).set j y = (C ++ [y]) ++ List.replicate (n - (j + 1)) [] := by
  subst hC
  rw [List.set_append_right _ _ (Nat.le_refl _), Nat.sub_self, show n - C.length = (n - (C.length + 1)) + 1 by omega, List.replicate_succ, List.set_cons_zero]
  simp
set_option maxHeartbeats 8000000 in
theorem pmake_yes (S T : Nat → Prop) (vf vt vn vs : Value) (s : SchemaL) (id ver : Int) (raws : List (List UInt8)) (rv : Value) (w : World) (h : SchemaAt w S vf vt vn vs s) (hv : Vec w T 1 encS rv raws) (hc : checkS s = 0) (hl : raws.length = s.fields.length) (hn : numberedB id ver = true) (hs : ∀ x ∈ raws, x.length ≤ 1000000) :
    Calls Tryz.prog 23 #[.agg #[vf, vt, vn, vs], .int .i64 id, .int .i64 ver, rv] w (MakePost (makeN s id ver raws) w) := by
  have hmk := makeN_in hc hl hn
  obtain ⟨R, hR⟩ : ∃ R, makeN s id ver raws = R := ⟨_, rfl⟩
  rw [hR] at hmk ⊢
  have HMK := Lib.hid hmk
  clear hmk hR
  obtain ⟨a, cap, rfl⟩ := hv.slice
  obtain ⟨af, cf, rfl⟩ := h.1.slice
  have h5 : raws.length ≤ 5 := by have := (check_fields hc).1.2; omega
  have hne : ((raws.length : Int) != (s.fields.length : Int)) = false := by rw [hl]; simp
  have hmr := run_make_row' (P := Tryz.prog) 28 9 (.string ⟨#[]⟩) 16 Tryz.underlying28 infoS rfl .i64 .i64 raws.length (by omega) (by omega)
  rw [show (Value.string ⟨#[]⟩) = strV [] from rfl, made_strs] at hmr
  have HC := Lib.hid hc; have HV := Lib.hid hv.any; have HS := Lib.hid h.any; have HSh := Lib.hid hs; have HN := Lib.hid hn
  clear h hv hc hl hn hs
  go_enter Tryz.func23, Tryz.ntmps23
  go_wp2_with fail
  refine wp_calls_world (fun W hW => ?_)
  have hb0 : Below w.heap.size w W := by rw [hW]; exact ((Below.refl w.heap.size w).alloc (Nat.le_refl _) _).alloc (by simp) _
  have hs0 : W.heap[w.heap.size]? = some (.cells #[.slice af s.fields.length cf, vt, vn, vs] 33 (0, 0)) := by rw [hW]; exact blk_old (blk_new rfl)
  have hz0 : W.heap[w.heap.size + 1]? = some (.cells #[.int .i64 0, .int .i64 0, .slice none 0 0] 44 (0, 0)) := by rw [hW]; exact blk_new (by simp)
  clear hW
  refine (scheck_any Any1 _ _ _ _ s W (HS.out.below hb0)).mono ?_
  rw [HC.out]
  rintro e w1 ⟨rfl, hb⟩
  have hs1 := blk_below hb (lt_of_blk hs0) hs0; have hz1 := blk_below hb (lt_of_blk hz0) hz0
  have HB1 := Lib.hid (hb0.trans (hb.mono hb0.size)); have HS1 := Lib.hid hs1; have HZ1 := Lib.hid hz1
  obtain ⟨s0, s1, s2, s3⟩ := cellsS hs1
  have dz : ((0 : Int) != 0) = false := rfl
  clear hb hb0 hs0 hz0 hs1 hz1
  go_wp2_with fail
  refine (numbered_any _ _ _).mono ?_
  rw [HN.out]
  rintro e w2 ⟨rfl, rfl⟩
  go_wp2_with fail
  refine wp_world (fun W2 hW2 => ?_)
  have hm0 : PkAt w w1.heap.size (.slice af s.fields.length cf) vt vn vs id ver raws.length (List.replicate raws.length []) W2 := by
    rw [hW2]
    exact ⟨blk_old (blk_old HS1.out), blk_old (blk_old HZ1.out), blk_old (blk_new rfl), blk_new (by simp), (HB1.out.alloc HB1.out.size _).alloc (by have := HB1.out.size; simp; omega) _, lt_of_blk HZ1.out⟩
  have HM0 := Lib.hid hm0
  clear hW2 hm0 s0 s1 s2 s3 hmr
  go_loopw [12, 13, 14, 15, 44] (fun _ _ _ _ i wr => ∃ (j : Nat) (C : List (List UInt8)), i = .int .i64 j ∧ j ≤ raws.length ∧ C.length = j ∧ Hid (makeA s j C (raws.drop j) = makeA s 0 [] raws) ∧ PkAt w w1.heap.size (.slice af s.fields.length cf) vt vn vs id ver raws.length (C ++ List.replicate (raws.length - j) []) wr) (fun _ _ _ _ i _ => raws.length - (intOf i).toNat)
  case atStart => exact ⟨0, [], rfl, by omega, rfl, Lib.hid rfl, HM0.out⟩
  case round =>
    obtain ⟨j, C, rfl, hj, hCl, HT, hm⟩ := hrel
    have HM := Lib.hid hm; have HCl := Lib.hid hCl; clear hm hCl HM0
    obtain ⟨s0, s1, s2, s3⟩ := cellsS HM.out.s
    by_cases hlt : j < raws.length
    · have hq : decide ((j : Int) < raws.length) = true := by simp; omega
      obtain ⟨x, hx⟩ : ∃ x, raws[j] = x := ⟨_, rfl⟩
      have hxl : x.length ≤ 1000000 := HSh.out x (by rw [← hx]; exact List.getElem_mem _)
      have hT := HT.out
      rw [List.drop_eq_getElem_cons hlt, hx, makeA] at hT
      obtain ⟨b, off, rfl, hb, hc⟩ := (HV.out.below HM.out.b).get j hlt
      have c0 := hc 0 _ rfl
      rw [Nat.mul_one, Nat.add_zero, hx] at c0
      obtain ⟨⟨y, er⟩, hp⟩ : ∃ p, valueN s j x = p := ⟨_, rfl⟩
      rw [hp] at hT
      dsimp only at hT
      have HT2 := Lib.hid hT; have HPv := Lib.hid hp
      clear hc hT hx HT hp
      go_wp2_with fail
      refine (value_any Any1 _ vt vn vs s j ⟨x.toArray⟩ _ (HS.out.below HM.out.b) (by rw [mk_size]; omega)).mono ?_
      rw [show (⟨x.toArray⟩ : ByteArray).data.toList = x by simp, HPv.out]
      unfold pairV
      rintro e w2 ⟨rfl, hb2⟩
      have HM2 := Lib.hid (HM.out.below hb2)
      clear hb2 s0 s1 s2 s3 c0 HM hb
      by_cases he : er = 0
      · subst he
        have HT3 := Lib.hid (show makeA s (j + 1) (C ++ [y]) (raws.drop (j + 1)) = makeA s 0 [] raws by rw [← HT2.out, if_pos rfl])
        clear HT2
        obtain ⟨r0, r1, r2⟩ := cells3 HM2.out.r
        have lr := lt_of_blk HM2.out.r; have lg := lt_of_blk HM2.out.row
        have cg := HM2.out.row
        have hlen : ((C ++ List.replicate (raws.length - j) []).flatMap encS).length = raws.length := by
          have e : ∀ L : List (List UInt8), (L.flatMap encS).length = L.length := by
            intro L; induction L with
            | nil => rfl
            | cons a L ih => rw [List.flatMap_cons, List.length_append, ih]; simp [encS]; omega
          rw [e, List.length_append, List.length_replicate, HCl.out]; omega
        obtain ⟨cz, hcz⟩ : ∃ cz, w2.cell? ⟨w1.heap.size, j, none⟩ = some cz := by
          rw [cell_of_row _ _ j _ _ _ cg]; rw [List.getElem?_toArray]; exact ⟨_, List.getElem?_eq_getElem (by rw [hlen]; exact hlt)⟩
        have fz := frozen_of_row _ _ j _ _ cg
        have hji : (j : Int) < (raws.length : Int) := by omega
        go_wp2_with fail
        go_roundw
        case rel =>
          refine ⟨j + 1, C ++ [y], by go_num, by omega, by rw [List.length_append, HCl.out]; rfl, HT3, ?_⟩
          have hlt2 := HM2.out.lt
          refine ⟨blk_far HM2.out.s (by show w.heap.size ≠ w1.heap.size; omega), blk_far HM2.out.z (by show w.heap.size + 1 ≠ w1.heap.size; omega), ?_, blk_far HM2.out.r (by show w1.heap.size + 1 ≠ w1.heap.size; omega), HM2.out.b.setCell (p := ⟨w1.heap.size, j, none⟩) (by show w.heap.size ≤ w1.heap.size; omega) _, hlt2⟩
          have h := blk_set (i := j) (v := strV y) HM2.out.row
          rw [row_put, fill_set HCl.out hlt] at h
          exact h
        case measure => simp [intOf]; omega
      · have hne2 : (er != 0) = true := by simpa using he
        have hR : R = (noRec, er) := by rw [HMK.out, ← HT2.out, if_neg he, if_neg he]
        have HRR := Lib.hid hR
        obtain ⟨z0, z1, z2⟩ := cells3 HM2.out.z
        have f0 := frozen_of_row _ _ 0 _ _ HM2.out.z; have f1 := frozen_of_row _ _ 1 _ _ HM2.out.z; have f2 := frozen_of_row _ _ 2 _ _ HM2.out.z
        have yz := lt_of_blk HM2.out.z
        clear hR he HT2
        go_wp2_with fail
        rw [HRR.out]
        exact bodyPost_row2 rfl rfl (blk_set (i := 2) (v := .slice none 0 0) (blk_set (i := 1) (v := .int .i64 0) (blk_set (i := 0) (v := .int .i64 0) HM2.out.z))) Tryz.underlying44 rfl (by kernel_rfl)
          ⟨_, rfl, ⟨_, rfl, Vec.nil _ _ _ _⟩, ((HM2.out.b.setCell (p := ⟨w.heap.size + 1, 0, none⟩) (Nat.le_succ _) _).setCell (p := ⟨w.heap.size + 1, 1, none⟩) (Nat.le_succ _) _).setCell (p := ⟨w.heap.size + 1, 2, none⟩) (Nat.le_succ _) _⟩
    · have hq : decide ((j : Int) < raws.length) = false := by simp; omega
      obtain rfl : j = raws.length := by omega
      have hT := HT.out
      rw [List.drop_length, makeA] at hT
      have hR : R = (⟨id, ver, C⟩, 0) := by rw [HMK.out, ← hT, if_pos rfl]
      have HRR := Lib.hid hR
      have hlt := HM.out.lt
      obtain ⟨z0, z1, z2⟩ := cells3 HM.out.z
      obtain ⟨r0, r1, r2⟩ := cells3 HM.out.r
      have f0 := frozen_of_row _ _ 0 _ _ HM.out.z; have f1 := frozen_of_row _ _ 1 _ _ HM.out.z; have f2 := frozen_of_row _ _ 2 _ _ HM.out.z
      have yz := lt_of_blk HM.out.z
      have hrow := HM.out.row
      rw [Nat.sub_self, List.replicate_zero, List.append_nil] at hrow
      have HRow := Lib.hid hrow
      clear hR hT HT s0 s1 s2 s3 hrow
      go_wp2_with fail
      rw [HRR.out]
      refine bodyPost_row2 rfl rfl (blk_set (i := 2) (v := .slice (some ⟨w1.heap.size, 0, none⟩) raws.length raws.length) (blk_set (i := 1) (v := .int .i64 ver) (blk_set (i := 0) (v := .int .i64 id) HM.out.z))) Tryz.underlying44 rfl (by kernel_rfl)
        ⟨_, rfl, ⟨_, rfl, ?_⟩, ((HM.out.b.setCell (p := ⟨w.heap.size + 1, 0, none⟩) (Nat.le_succ _) _).setCell (p := ⟨w.heap.size + 1, 1, none⟩) (Nat.le_succ _) _).setCell (p := ⟨w.heap.size + 1, 2, none⟩) (Nat.le_succ _) _⟩
      have h := blk_far (blk_far (blk_far (a := ⟨w.heap.size + 1, 0, none⟩) (v := .int .i64 id) HRow.out (by show w1.heap.size ≠ w.heap.size + 1; omega)) (a := ⟨w.heap.size + 1, 1, none⟩) (v := .int .i64 ver) (by show w1.heap.size ≠ w.heap.size + 1; omega)) (a := ⟨w.heap.size + 1, 2, none⟩) (v := .slice (some ⟨w1.heap.size, 0, none⟩) raws.length raws.length) (by show w1.heap.size ≠ w.heap.size + 1; omega)
      exact blockVec (k := 1) (enc := encS) (L := C) (S := fun b => w.heap.size ≤ b) (A := w1.heap.size) (fun _ => rfl) h (by show w.heap.size ≤ w1.heap.size; omega) raws.length HCl.out.symm
end
section
open Go.RowKit
theorem getD_at {α : Type} (l : List α) (d : α) {i : Nat} (h : i < l.length) : l.getD i d = l[i] := by rw [List.getD, List.getElem?_eq_getElem h]; rfl
end
section
set_option maxRecDepth 100000
open Go.RowKit
structure RV where
  id : Int
  ver : Int
  a : Option Addr
  n : Nat
  c : Nat
  vals : List (List UInt8)
abbrev encRV (x : RV) : List Value := [.int .i64 x.id, .int .i64 x.ver, .slice x.a x.n x.c]
def pR (x : RV) : RecL := ⟨x.id, x.ver, x.vals⟩
/-- records in memory -/
def RecsVec (w : World) (S : Nat → Prop) (v : Value) (R : List RecL) : Prop := ∃ C : List RV, Vec w S 3 encRV v C ∧ C.map pR = R ∧ ∀ x ∈ C, Vec w S 1 encS (.slice x.a x.n x.c) x.vals
theorem RecsVec.move {w w' : World} {S T : Nat → Prop} {v : Value} {R : List RecL} (h : RecsVec w S v R) (hz : w.heap.size ≤ w'.heap.size) (hS : ∀ x, x < w.heap.size → S x → w'.heap[x]? = w.heap[x]? ∧ T x) : RecsVec w' T v R := by
  obtain ⟨C, h1, h2, h3⟩ := h
  exact ⟨C, h1.move hz hS, h2, fun x hx => (h3 x hx).move hz hS⟩
theorem RecsVec.below {w w' : World} {S : Nat → Prop} {v : Value} {R : List RecL} (h : RecsVec w S v R) (hb : Below w.heap.size w w') : RecsVec w' S v R := h.move hb.size fun x hx hs => ⟨hb.block x hx, hs⟩
theorem RecsVec.any {w : World} {S : Nat → Prop} {v : Value} {R : List RecL} (h : RecsVec w S v R) : RecsVec w Any1 v R := h.move (Nat.le_refl _) fun x hx hs => ⟨rfl, trivial⟩
theorem RecsVec.slice {w : World} {S : Nat → Prop} {v : Value} {R : List RecL} (h : RecsVec w S v R) : ∃ a cap, v = .slice a R.length cap := by
  obtain ⟨C, h1, h2, _⟩ := h
  obtain ⟨a, cap, rfl⟩ := h1.slice
  exact ⟨a, cap, by rw [← h2, List.length_map]⟩
theorem RecsVec.at {w : World} {S : Nat → Prop} {a : Option Addr} {n cap : Nat} {R : List RecL} (h : RecsVec w S (.slice a n cap) R) (j : Nat) (hj : j < R.length) :
    ∃ (b off : Nat) (id ver : Int) (aa : Option Addr) (nn cc : Nat) (vals : List (List UInt8)), a = some ⟨b, off, none⟩ ∧ b < w.heap.size ∧ w.cell? ⟨b, off + j * 3, none⟩ = some (.int .i64 id) ∧ w.cell? ⟨b, off + j * 3 + 1, none⟩ = some (.int .i64 ver) ∧ w.cell? ⟨b, off + j * 3 + 2, none⟩ = some (.slice aa nn cc) ∧ R[j] = ⟨id, ver, vals⟩ ∧ Vec w S 1 encS (.slice aa nn cc) vals := by
  obtain ⟨C, h1, h2, h3⟩ := h
  have hj2 : j < C.length := by rw [← h2, List.length_map] at hj; exact hj
  obtain ⟨b, off, e, hb, hc⟩ := h1.get j hj2
  refine ⟨b, off, C[j].id, C[j].ver, C[j].a, C[j].n, C[j].c, C[j].vals, e, hb, hc 0 _ rfl, hc 1 _ rfl, hc 2 _ rfl, ?_, h3 _ (List.getElem_mem hj2)⟩
  subst h2
  rw [List.getElem_map]; rfl
/-- an ID that is not behind the one before -/
def notB : Option Int → Int → Bool
  | some q, x => decide (x ≤ q)
  | none, _ => false
/-- the first error of a list, behind a record with an ID -/
def allA (s : SchemaL) : Option Int → List RecL → Int
  | _, [] => 0
  | p, r :: R => if checkI s r = 0 then (if notB p r.id = true then 12 else allA s (some r.id) R) else checkI s r
theorem allA_cons (s : SchemaL) (p : Option Int) (r : RecL) (R : List RecL) : allA s p (r :: R) = if checkI s r = 0 then (if notB p r.id = true then 12 else allA s (some r.id) R) else checkI s r := rfl
def allN (s : SchemaL) (R : List RecL) : Int := if checkS s = 0 then (if R.length ≤ 64 then allA s none R else 1) else checkS s
def prevR (R : List RecL) (j : Nat) : Option Int := if j = 0 then none else some (R.getD (j - 1) noRec).id
theorem allA_yes {s : SchemaL} : ∀ (R : List RecL) (p : Option Int), (∀ r ∈ R, checkI s r = 0) → (∀ q r, p = some q → R.head? = some r → q < r.id) → (∀ j (h : j + 1 < R.length), (R[j]'(by omega)).id < R[j + 1].id) → allA s p R = 0
  | [], p, _, _, _ => rfl
  | r :: R, p, h1, h2, h3 => by
    unfold allA
    rw [if_pos (h1 r List.mem_cons_self), if_neg]
    · refine allA_yes R (some r.id) (fun x hx => h1 x (List.mem_cons_of_mem _ hx)) (fun q x hq hx => ?_) (fun j h => h3 (j + 1) (by simpa using h))
      cases hq
      cases R with
      | nil => cases hx
      | cons y R => cases hx; exact h3 0 (by simp)
    · cases p with
      | none => simp [notB]
      | some q =>
        have := h2 q r rfl rfl
        simp [notB]; omega
set_option maxHeartbeats 4000000 in
theorem rall_any (S T : Nat → Prop) (vf vt vn vs rv : Value) (s : SchemaL) (R : List RecL) (w : World) (h : SchemaAt w S vf vt vn vs s) (hr : RecsVec w T rv R) (hl : ∀ r ∈ R, ∀ x ∈ r.vals, x.length ≤ 1000000) (hn : ∀ r ∈ R, r.vals.length ≤ 1000000) (hR : R.length ≤ 1000000) :
    Calls Tryz.prog 26 #[.agg #[vf, vt, vn, vs], rv] w fun e w' => e = .returned (.int .i64 (allN s R)) ∧ Below w.heap.size w w' := by
  obtain ⟨ar, cr, rfl⟩ := hr.slice
  have HS := Lib.hid h; have HR := Lib.hid hr.any; have HL := Lib.hid hl; have HN := Lib.hid hn
  obtain ⟨E, hE⟩ : ∃ E, allN s R = E := ⟨_, rfl⟩
  rw [hE]
  have HE := Lib.hid hE
  clear h hr hl hn hE
  go_enter Tryz.func26, Tryz.ntmps26
  go_wp2_with fail
  refine wp_calls_world (fun W hW => ?_)
  have hb0 : Below w.heap.size w W := by rw [hW]; exact (Below.refl w.heap.size w).alloc (Nat.le_refl _) _
  have hs0 : W.heap[w.heap.size]? = some (.cells #[vf, vt, vn, vs] 33 (0, 0)) := by rw [hW]; exact blk_new rfl
  clear hW
  refine (scheck_any S _ _ _ _ s W (HS.out.below hb0)).mono ?_
  rintro e w1 ⟨rfl, hb⟩
  have hs1 := blk_below hb (lt_of_blk hs0) hs0
  have HB1 := Lib.hid (hb0.trans (hb.mono hb0.size)); have HS1 := Lib.hid hs1
  clear hb hb0 hs0 hs1
  obtain ⟨c, hc⟩ : ∃ c, checkS s = c := ⟨_, rfl⟩
  rw [hc]
  by_cases hc0 : c = 0
  · subst hc0
    have dz : ((0 : Int) != 0) = false := rfl
    by_cases h64 : R.length ≤ 64
    · have d64 : decide ((64 : Int) < (R.length : Int)) = false := by simp; omega
      have HE2 := Lib.hid (show allA s none R = E by rw [← HE.out]; unfold allN; rw [if_pos hc, if_pos h64])
      clear hc HE
      go_wp2_with fail
      go_loopw [19] (fun t wr => ∃ j : Nat, t = .int .i64 j ∧ j ≤ R.length ∧ Hid (allA s (prevR R j) (R.drop j) = E) ∧ Below w1.heap.size w1 wr) (fun t _ => R.length - (intOf t).toNat)
      case atStart => exact ⟨0, rfl, by omega, HE2, Below.refl _ _⟩
      case round =>
        obtain ⟨j, rfl, hj, HT, hbw⟩ := hrel
        have HBW := Lib.hid hbw
        by_cases hlt : j < R.length
        · have hq : decide ((j : Int) < (R.length : Int)) = true := by simp; omega
          have hji : (j : Int) < (R.length : Int) := by omega
          have hbw0 := HB1.out.trans (hbw.mono HB1.out.size)
          obtain ⟨b, off, id, ver, aa, nn, cc, vals, rfl, lb, c0, c1, c2, hRj, hvv⟩ := (HR.out.below hbw0).at j hlt
          obtain ⟨s0, s1, s2, s3⟩ := cellsS (blk_below hbw (lt_of_blk HS1.out) HS1.out)
          have lsr : w.heap.size < wr.heap.size := by have := lt_of_blk HS1.out; have := hbw.size; omega
          have hT := HT.out
          rw [List.drop_eq_getElem_cons hlt, allA_cons] at hT
          have hmem : R[j] ∈ R := List.getElem_mem hlt
          have HLv := Lib.hid (HL.out _ hmem); have HNv := HN.out _ hmem
          have HP := Lib.hid (show j ≠ 0 → ∃ pid : Int, prevR R j = some pid ∧ wr.cell? ⟨b, off + (j - 1) * 3, none⟩ = some (.int .i64 pid) from fun h0 => by
            obtain ⟨b', off', id', ver', aa', nn', cc', vals', he, _, d0, _, _, hR', _⟩ := (HR.out.below hbw0).at (j - 1) (by omega)
            cases he
            refine ⟨id', ?_, d0⟩
            unfold prevR
            rw [if_neg h0, getD_at _ _ (by omega), hR'])
          rw [hRj] at hT HLv HNv
          have HRJ := Lib.hid hRj; have HV := Lib.hid hvv; have HT2 := Lib.hid hT
          clear hT hmem hRj hvv HT hbw
          dsimp only at HLv HNv
          have hvl := HV.out.len.1
          subst hvl
          obtain ⟨ci, hci⟩ : ∃ ci, checkI s ⟨id, ver, vals⟩ = ci := ⟨_, rfl⟩
          go_wp2_with fail
          refine wp_calls_world (fun Wc hWc => ?_)
          have hbc : Below wr.heap.size wr Wc := by rw [hWc]; exact (Below.refl wr.heap.size wr).alloc (Nat.le_refl _) _
          have hy : Wc.heap[wr.heap.size]? = some (.cells #[.int .i64 id, .int .i64 ver, .slice aa vals.length cc] 44 (0, 0)) := by rw [hWc]; exact blk_new rfl
          clear hWc
          refine (rchk_any S _ _ _ _ s ⟨id, ver, vals⟩ _ Wc ((HS.out.below hbw0).below hbc) (HV.out.below hbc) HLv.out HNv).mono ?_
          rw [hci]
          rintro e w2 ⟨rfl, hb⟩
          have hbr := hbc.trans (hb.mono hbc.size)
          have hy2 := blk_below hb (lt_of_blk hy) hy
          have HB2 := Lib.hid (HBW.out.trans (hbr.mono HBW.out.size))
          obtain ⟨r0, r1, r2⟩ := cells3 hy2
          have ly := lt_of_blk hy2
          have HBR := Lib.hid hbr
          clear hb hbc hy hy2 hbr s0 s1 s2 s3 c0 c1 c2
          by_cases hci0 : ci = 0
          · subst hci0
            have hT3 := HT2.out
            rw [hci, if_pos rfl] at hT3
            have HT3 := Lib.hid hT3
            clear hT3 HT2 hci
            by_cases hj0 : j = 0
            · have dj : decide (0 < j) = false := by simp; omega
              have HT4 := Lib.hid (show allA s (prevR R (j + 1)) (R.drop (j + 1)) = E by
                have := HT3.out
                rw [show prevR R j = none by unfold prevR; rw [if_pos hj0]] at this
                rw [← this]
                unfold prevR
                rw [if_neg (by omega), show j + 1 - 1 = j by omega, getD_at _ _ hlt, HRJ.out]; rfl)
              clear HT3 HP
              go_upto_region 12 with fail
              refine wp_region_noPanic ?_
              refine wp_region_held_drew (S := (fun w' => True)) (by kernel_rfl) (trivial) (fun hHeld => ?_)
              refine tH 0 (h := ?_)
              try simp only [List.getElem_toArray, List.getElem_cons_zero, List.getElem_cons_succ, Act.put, List.setIfInBounds_toArray, List.set_cons_zero, List.set_cons_succ]
              refine tH 1 (h := ?_)
              try simp only [List.getElem_toArray, List.getElem_cons_zero, List.getElem_cons_succ, Act.put, List.setIfInBounds_toArray, List.set_cons_zero, List.set_cons_succ]
              refine tH 2 (h := ?_)
              try simp only [List.getElem_toArray, List.getElem_cons_zero, List.getElem_cons_succ, Act.put, List.setIfInBounds_toArray, List.set_cons_zero, List.set_cons_succ]
              refine sH 3 (h := ?_)
              try simp only [List.getElem_toArray, List.getElem_cons_zero, List.getElem_cons_succ, Act.put, List.setIfInBounds_toArray, List.set_cons_zero, List.set_cons_succ]
              refine sH 4 (h := ?_)
              try simp only [List.getElem_toArray, List.getElem_cons_zero, List.getElem_cons_succ, Act.put, List.setIfInBounds_toArray, List.set_cons_zero, List.set_cons_succ]
              refine sH 5 (h := ?_)
              try simp only [List.getElem_toArray, List.getElem_cons_zero, List.getElem_cons_succ, Act.put, List.setIfInBounds_toArray, List.set_cons_zero, List.set_cons_succ]
              refine sH 6 (h := ?_)
              try simp only [List.getElem_toArray, List.getElem_cons_zero, List.getElem_cons_succ, Act.put, List.setIfInBounds_toArray, List.set_cons_zero, List.set_cons_succ]
              refine sH 7 (h := ?_)
              try simp only [List.getElem_toArray, List.getElem_cons_zero, List.getElem_cons_succ, Act.put, List.setIfInBounds_toArray, List.set_cons_zero, List.set_cons_succ]
              refine sH 8 (h := ?_)
              try simp only [List.getElem_toArray, List.getElem_cons_zero, List.getElem_cons_succ, Act.put, List.setIfInBounds_toArray, List.set_cons_zero, List.set_cons_succ]
              refine sH 9 (h := ?_)
              try simp only [List.getElem_toArray, List.getElem_cons_zero, List.getElem_cons_succ, Act.put, List.setIfInBounds_toArray, List.set_cons_zero, List.set_cons_succ]
              refine sH 10 (h := ?_)
              try simp only [List.getElem_toArray, List.getElem_cons_zero, List.getElem_cons_succ, Act.put, List.setIfInBounds_toArray, List.set_cons_zero, List.set_cons_succ]
              refine sH 11 (h := ?_)
              try simp only [List.getElem_toArray, List.getElem_cons_zero, List.getElem_cons_succ, Act.put, List.setIfInBounds_toArray, List.set_cons_zero, List.set_cons_succ]
              refine tH 12 (h := ?_)
              try simp only [List.getElem_toArray, List.getElem_cons_zero, List.getElem_cons_succ, Act.put, List.setIfInBounds_toArray, List.set_cons_zero, List.set_cons_succ]
              refine wpAnyH_done (by kernel_rfl) ?_ _
              refine NoPanic.normal ?_
              go_wp2_with fail
              go_roundw
              case rel => exact ⟨j + 1, by go_num, by omega, HT4, HB2.out.drew⟩
              case measure => simp [intOf]; omega
            · have dj : decide (0 < j) = true := by simp; omega
              obtain ⟨pid, hpr, hpc⟩ := HP.out hj0
              have hpc2 := (HBR.out.cell (p := ⟨b, off + (j - 1) * 3, none⟩) lb).trans hpc
              have hj1 : (j : Int) - 1 < (R.length : Int) := by omega
              have hj2 : (1 : Int) ≤ (j : Int) := by omega
              have hj3 : ((j : Int) - 1).toNat = j - 1 := by omega
              have hwr : IntKind.i64.wrap ((j : Int) - 1) = (j : Int) - 1 := by rw [IntKind.wrap_i64]; omega
              have hT4 := HT3.out
              rw [hpr] at hT4
              clear HP hpc HT3
              by_cases hle : id ≤ pid
              · have dle : decide (id ≤ pid) = true := by simpa using hle
                have hE12 : E = 12 := by rw [← hT4]; unfold notB; dsimp only; rw [if_pos dle]
                subst hE12
                clear hT4
                go_upto_region 12 with fail
                refine wp_region_noPanic ?_
                refine wp_region_held_drew (S := (fun w' => w'.cell? ⟨b, off + (j - 1) * 3, none⟩ = some (.int .i64 pid) ∧ w'.cell? ⟨wr.heap.size, 0, none⟩ = some (.int .i64 id))) (by kernel_rfl) (⟨hpc2, r0⟩) (fun hHeld => ?_)
                refine tH 0 (h := ?_)
                try simp only [List.getElem_toArray, List.getElem_cons_zero, List.getElem_cons_succ, Act.put, List.setIfInBounds_toArray, List.set_cons_zero, List.set_cons_succ]
                refine tH 1 (h := ?_)
                try simp only [List.getElem_toArray, List.getElem_cons_zero, List.getElem_cons_succ, Act.put, List.setIfInBounds_toArray, List.set_cons_zero, List.set_cons_succ]
                refine tH 2 (h := ?_)
                try simp only [List.getElem_toArray, List.getElem_cons_zero, List.getElem_cons_succ, Act.put, List.setIfInBounds_toArray, List.set_cons_zero, List.set_cons_succ]
                refine tH 3 (h := ?_)
                try simp only [List.getElem_toArray, List.getElem_cons_zero, List.getElem_cons_succ, Act.put, List.setIfInBounds_toArray, List.set_cons_zero, List.set_cons_succ]
                refine tH 4 (h := ?_)
                try simp only [List.getElem_toArray, List.getElem_cons_zero, List.getElem_cons_succ, Act.put, List.setIfInBounds_toArray, List.set_cons_zero, List.set_cons_succ]
                refine tH 5 (h := ?_)
                try simp only [List.getElem_toArray, List.getElem_cons_zero, List.getElem_cons_succ, Act.put, List.setIfInBounds_toArray, List.set_cons_zero, List.set_cons_succ]
                refine tH 6 (h := ?_)
                try simp only [List.getElem_toArray, List.getElem_cons_zero, List.getElem_cons_succ, Act.put, List.setIfInBounds_toArray, List.set_cons_zero, List.set_cons_succ]
                refine tH 7 (h := ?_)
                try simp only [List.getElem_toArray, List.getElem_cons_zero, List.getElem_cons_succ, Act.put, List.setIfInBounds_toArray, List.set_cons_zero, List.set_cons_succ]
                refine tH 8 (h := ?_)
                try simp only [List.getElem_toArray, List.getElem_cons_zero, List.getElem_cons_succ, Act.put, List.setIfInBounds_toArray, List.set_cons_zero, List.set_cons_succ]
                refine tH 9 (h := ?_)
                try simp only [List.getElem_toArray, List.getElem_cons_zero, List.getElem_cons_succ, Act.put, List.setIfInBounds_toArray, List.set_cons_zero, List.set_cons_succ]
                refine tH 10 (h := ?_)
                try simp only [List.getElem_toArray, List.getElem_cons_zero, List.getElem_cons_succ, Act.put, List.setIfInBounds_toArray, List.set_cons_zero, List.set_cons_succ]
                refine tH 11 (h := ?_)
                try simp only [List.getElem_toArray, List.getElem_cons_zero, List.getElem_cons_succ, Act.put, List.setIfInBounds_toArray, List.set_cons_zero, List.set_cons_succ]
                refine tH 12 (h := ?_)
                try simp only [List.getElem_toArray, List.getElem_cons_zero, List.getElem_cons_succ, Act.put, List.setIfInBounds_toArray, List.set_cons_zero, List.set_cons_succ]
                refine wpAnyH_done (by kernel_rfl) ?_ _
                refine NoPanic.normal ?_
                go_wp2_with fail
                go_ret
                exact ⟨rfl, HB1.out.trans (HB2.out.drew.mono HB1.out.size)⟩
              · have dle : decide (id ≤ pid) = false := by simpa using hle
                have HT5 := Lib.hid (show allA s (prevR R (j + 1)) (R.drop (j + 1)) = E by
                  rw [← hT4]
                  unfold notB; dsimp only
                  rw [if_neg (by rw [dle]; decide)]
                  unfold prevR
                  rw [if_neg (by omega), show j + 1 - 1 = j by omega, getD_at _ _ hlt, HRJ.out])
                clear hT4
                go_upto_region 12 with fail
                refine wp_region_noPanic ?_
                refine wp_region_held_drew (S := (fun w' => w'.cell? ⟨b, off + (j - 1) * 3, none⟩ = some (.int .i64 pid) ∧ w'.cell? ⟨wr.heap.size, 0, none⟩ = some (.int .i64 id))) (by kernel_rfl) (⟨hpc2, r0⟩) (fun hHeld => ?_)
                refine tH 0 (h := ?_)
                try simp only [List.getElem_toArray, List.getElem_cons_zero, List.getElem_cons_succ, Act.put, List.setIfInBounds_toArray, List.set_cons_zero, List.set_cons_succ]
                refine tH 1 (h := ?_)
                try simp only [List.getElem_toArray, List.getElem_cons_zero, List.getElem_cons_succ, Act.put, List.setIfInBounds_toArray, List.set_cons_zero, List.set_cons_succ]
                refine tH 2 (h := ?_)
                try simp only [List.getElem_toArray, List.getElem_cons_zero, List.getElem_cons_succ, Act.put, List.setIfInBounds_toArray, List.set_cons_zero, List.set_cons_succ]
                refine tH 3 (h := ?_)
                try simp only [List.getElem_toArray, List.getElem_cons_zero, List.getElem_cons_succ, Act.put, List.setIfInBounds_toArray, List.set_cons_zero, List.set_cons_succ]
                refine tH 4 (h := ?_)
                try simp only [List.getElem_toArray, List.getElem_cons_zero, List.getElem_cons_succ, Act.put, List.setIfInBounds_toArray, List.set_cons_zero, List.set_cons_succ]
                refine tH 5 (h := ?_)
                try simp only [List.getElem_toArray, List.getElem_cons_zero, List.getElem_cons_succ, Act.put, List.setIfInBounds_toArray, List.set_cons_zero, List.set_cons_succ]
                refine tH 6 (h := ?_)
                try simp only [List.getElem_toArray, List.getElem_cons_zero, List.getElem_cons_succ, Act.put, List.setIfInBounds_toArray, List.set_cons_zero, List.set_cons_succ]
                refine tH 7 (h := ?_)
                try simp only [List.getElem_toArray, List.getElem_cons_zero, List.getElem_cons_succ, Act.put, List.setIfInBounds_toArray, List.set_cons_zero, List.set_cons_succ]
                refine tH 8 (h := ?_)
                try simp only [List.getElem_toArray, List.getElem_cons_zero, List.getElem_cons_succ, Act.put, List.setIfInBounds_toArray, List.set_cons_zero, List.set_cons_succ]
                refine tH 9 (h := ?_)
                try simp only [List.getElem_toArray, List.getElem_cons_zero, List.getElem_cons_succ, Act.put, List.setIfInBounds_toArray, List.set_cons_zero, List.set_cons_succ]
                refine tH 10 (h := ?_)
                try simp only [List.getElem_toArray, List.getElem_cons_zero, List.getElem_cons_succ, Act.put, List.setIfInBounds_toArray, List.set_cons_zero, List.set_cons_succ]
                refine tH 11 (h := ?_)
                try simp only [List.getElem_toArray, List.getElem_cons_zero, List.getElem_cons_succ, Act.put, List.setIfInBounds_toArray, List.set_cons_zero, List.set_cons_succ]
                refine tH 12 (h := ?_)
                try simp only [List.getElem_toArray, List.getElem_cons_zero, List.getElem_cons_succ, Act.put, List.setIfInBounds_toArray, List.set_cons_zero, List.set_cons_succ]
                refine wpAnyH_done (by kernel_rfl) ?_ _
                refine NoPanic.normal ?_
                go_wp2_with fail
                go_roundw
                case rel => exact ⟨j + 1, by go_num, by omega, HT5, HB2.out.drew⟩
                case measure => simp [intOf]; omega
          · have hE3 : E = ci := by rw [← HT2.out, hci, if_neg hci0]
            have dne : (ci != (0 : Int)) = true := by simpa using hci0
            subst hE3
            clear HT2 hci HE2 HP
            go_wp2_with fail
            go_ret
            exact ⟨rfl, HB1.out.trans (HB2.out.mono HB1.out.size)⟩
        · have hq : decide ((j : Int) < (R.length : Int)) = false := by simp; omega
          obtain rfl : j = R.length := by omega
          have hE0 : E = 0 := by rw [← HT.out, List.drop_length]; rfl
          subst hE0
          go_wp2_with fail
          go_ret
          exact ⟨rfl, HB1.out.trans (hbw.mono HB1.out.size)⟩
    · have d64 : decide ((64 : Int) < (R.length : Int)) = true := decide_eq_true (by omega)
      have hE1 : E = 1 := by rw [← HE.out]; unfold allN; rw [if_pos hc, if_neg h64]
      subst hE1
      clear hc HE
      go_wp2_with fail
      go_ret
      exact ⟨rfl, HB1.out⟩
  · have dne : (c != (0 : Int)) = true := by simpa using hc0
    have hE1 : E = c := by rw [← HE.out]; unfold allN; rw [hc, if_neg hc0]
    subst hE1
    clear HE
    go_wp2_with fail
    go_ret
    exact ⟨rfl, HB1.out⟩
end
section
set_option maxRecDepth 100000
open Go.RowKit
/-- the cells of one of some arrays -/
theorem BitsVec.at {w : World} {S : Nat → Prop} {a : Option Addr} {n cap : Nat} {L : List BitsL} (h : BitsVec w S (.slice a n cap) L) (j : Nat) (hj : j < L.length) :
    ∃ (b off : Nat) (c : BV), a = some ⟨b, off, none⟩ ∧ b < w.heap.size ∧ w.cell? ⟨b, off + j * 2, none⟩ = some (.int .i64 c.len) ∧ w.cell? ⟨b, off + j * 2 + 1, none⟩ = some (.slice c.a c.n c.c) ∧ BitsAt w S (.agg (encBV c).toArray) (L.getD j noBits) := by
  obtain ⟨C, hC, hA⟩ := h
  have hj2 : j < C.length := by rw [hA.1]; exact hj
  obtain ⟨b, off, e, hb, hc⟩ := hC.get j hj2
  refine ⟨b, off, C[j], e, hb, by have := hc 0 _ rfl; simpa using this, by have := hc 1 _ rfl; simpa using this, ?_⟩
  rw [getD_at _ _ hj]
  exact hA.2 j hj2 hj
theorem BitsVec.len {w : World} {S : Nat → Prop} {a : Option Addr} {n cap : Nat} {L : List BitsL} (h : BitsVec w S (.slice a n cap) L) : n = L.length ∧ n ≤ cap := by
  obtain ⟨C, hC, hA⟩ := h
  have := hC.len; have := hA.1; omega
end
section
set_option maxRecDepth 100000
open Go.RowKit
attribute [local go_sem] toList_mk mk_size str_append
theorem EncVal.below {w w' : World} {S : Nat → Prop} {v : Value} {e : EncL} (h : EncVal w S v e) (hb : Below w.heap.size w w') : EncVal w' S v e := by
  obtain ⟨s, rfl, h⟩ := h; exact ⟨s, rfl, h.below hb⟩
/-- a row that lies in a block of its own -/
theorem own_new {α : Type} {w0 w : World} {e : TypeId} {enc : α → List Value} {L : List α} {g size n : Nat} (hb : Below w0.heap.size w0 w) (hg : w0.heap.size ≤ g) (h : w.heap[g]? = some (.cells (L.flatMap enc).toArray e (0, 0))) (hl : (L.flatMap enc).length = L.length * size) (hm : L.length ≤ 1000000) (hn : n = L.length) :
    OwnV e size enc w0 (.slice (some ⟨g, 0, none⟩) n n) L w := by
  subst hn
  exact ⟨⟨hl, .inr ⟨g, L.length, _, rfl, hg, h, Nat.le_refl _, by unfold maxLen; omega, by simpa using hl, by rw [← hl]; show List.take _ (L.flatMap enc) = _; exact List.take_length⟩⟩, hb⟩
end
section
def joinC (c : UInt8) : List (List UInt8) → List UInt8
  | [] => []
  | [a] => a
  | a :: b :: r => a ++ c :: joinC c (b :: r)
theorem splC_join (c : UInt8) : ∀ (L : List (List UInt8)), L ≠ [] → (∀ x ∈ L, c ∉ x) → splC c [] (joinC c L) = L
  | [], h, _ => absurd rfl h
  | [a], _, h => by
    rw [joinC, splC_no c a (h a (by simp))]; simp
  | a :: b :: r, _, h => by
    rw [joinC, splC_at c a _ (h a (by simp)), splC_join c (b :: r) (by simp) (fun x hx => h x (List.mem_cons_of_mem _ hx))]; simp
end
section
set_option maxRecDepth 100000
open Go.RowKit
theorem join_sep (c : UInt8) (L : List (List UInt8)) : Lib.join L [c] = joinC c L := by
  induction L with
  | nil => rfl
  | cons a L ih =>
    cases L with
    | nil => rw [Lib.join_one]; rfl
    | cons b L =>
      rw [Lib.join_cons] at *
      simp only [Lib.joinTail, List.map_cons, List.flatten_cons, joinC] at *
      rw [← ih]
      simp
theorem joinc_any (c : UInt8) (S : Nat → Prop) (v : Value) (L : List (List UInt8)) (w : World) (h : Vec w S 1 encS v L) (hn : L.length ≤ 1000000) (hj : (joinC c L).length ≤ 1000000000) :
    Calls Tryz.prog 67 #[v, strV [c]] w fun e w' => e = .returned (strV (joinC c L)) ∧ Below w.heap.size w w' := by
  obtain ⟨a, cap, rfl, hcap, h0⟩ := h
  have hjj : Lib.join ((L.map mkS).map (·.data.toList)) [c] = joinC c L := by
    rw [List.map_map, ← join_sep]; congr 1; conv => rhs; rw [← List.map_id L]
    exact List.map_congr_left fun x _ => by simp [mkS]
  by_cases hz : L = []
  · subst hz
    exact (Tryz.strings_Join_none a cap ⟨#[c]⟩ w).mono fun e w' ⟨he, hw⟩ => ⟨he, by rw [hw]; exact Below.refl _ _⟩
  · obtain ⟨b, off, rfl, _, hb, hc⟩ := h0 (List.length_pos_iff.2 hz)
    have := Tryz.strings_Join b off cap (L.map mkS) ⟨#[c]⟩ w (fun j x hx => by
      rw [List.getElem?_map] at hx
      obtain ⟨y, hy, rfl⟩ := Option.map_eq_some_iff.1 hx
      have := hc j y hy 0 _ rfl
      simpa [mkS] using this) hb (by simp; omega) (by simpa using hcap) (by rw [show (⟨#[c]⟩ : ByteArray).data.toList = [c] from rfl, hjj]; omega)
    rw [show (⟨#[c]⟩ : ByteArray).data.toList = [c] from rfl, hjj, List.length_map] at this
    exact this
end
section
set_option maxRecDepth 100000
open Go.RowKit
attribute [local go_sem] toList_mk mk_size
theorem encS_one : ∀ x : List UInt8, ∀ u ∈ encS x, u.oneCell' = true := by intro x u hu; simp [encS] at hu; subst hu; rfl
end
section
set_option maxRecDepth 100000
open Go.RowKit Cal
attribute [local go_sem] toList_mk mk_size str_append
theorem joinC_len (c : UInt8) (m : Nat) : ∀ (L : List (List UInt8)), (∀ x ∈ L, x.length ≤ m) → (joinC c L).length ≤ L.length * (m + 1)
  | [], _ => by simp [joinC]
  | [a], h => by have := h a (by simp); simp [joinC]; omega
  | a :: b :: r, h => by
    have h1 := h a (by simp)
    have h2 := joinC_len c m (b :: r) (fun x hx => h x (List.mem_cons_of_mem _ hx))
    simp only [joinC, List.length_append, List.length_cons] at *
    rw [Nat.add_mul, Nat.one_mul]
    omega
/-- strconv.Itoa at a number spells these digits -/
def Spells (n : Int) (x : List UInt8) : Prop := x.length ≤ 20 ∧ ∀ w, Calls Tryz.prog 39 #[.int .i64 n] w fun e w' => e = .returned (strV x) ∧ Below w.heap.size w w'
theorem spells_small (i : Nat) (h : i < 100) : Spells i (Lib.decDigits i) := ⟨by have := digs_len i h; omega, fun w => (Tryz.strconv_Itoa_small i h w).mono (by rintro e w' ⟨rfl, rfl⟩; exact ⟨rfl, Below.refl _ _⟩)⟩
set_option maxHeartbeats 4000000 in
theorem rline_yes (S : Nat → Prop) (r : RecL) (sv : Value) (x y : List UInt8) (w : World) (hv : Vec w S 1 encS sv r.vals) (hx : Spells r.id x) (hy : Spells r.ver y) (hs : ∀ t ∈ r.vals, t.length ≤ 1000) (hn : r.vals.length ≤ 1000) :
    Calls Tryz.prog 37 #[.agg #[.int .i64 r.id, .int .i64 r.ver, sv]] w fun e w' => e = .returned (strV (joinC 9 (x :: y :: r.vals))) ∧ Below w.heap.size w w' := by
  obtain ⟨a, cap, rfl⟩ := hv.slice
  obtain ⟨id, ver, vals⟩ := r
  dsimp only at hv hx hy hs hn ⊢
  have hjl : (joinC 9 (x :: y :: vals)).length ≤ 1000000000 := by
    have := joinC_len 9 1000 (x :: y :: vals) (fun t ht => by
      rcases List.mem_cons.1 ht with rfl | h
      · have := hx.1; omega
      · rcases List.mem_cons.1 h with rfl | h
        · have := hy.1; omega
        · exact hs t h)
    simp only [List.length_cons] at this
    omega
  have HV := Lib.hid hv.any; have HX := Lib.hid hx; have HY := Lib.hid hy; have HJ := Lib.hid hjl; have HN := Lib.hid hn
  clear hv hx hy hs hjl hn
  go_enter Tryz.func37, Tryz.ntmps37
  go_wp2_with fail
  refine wp_world (fun W hW => ?_)
  have hb0 : Below w.heap.size w W := by rw [hW]; exact (Below.refl w.heap.size w).alloc (Nat.le_refl _) _
  have hr0 : W.heap[w.heap.size]? = some (.cells #[.int .i64 id, .int .i64 ver, .slice a vals.length cap] 44 (0, 0)) := by rw [hW]; exact blk_new rfl
  clear hW
  obtain ⟨c0, c1, c2⟩ := cells3 hr0
  have lr := lt_of_blk hr0
  have HB0 := Lib.hid hb0
  clear hb0 hr0
  have bD : Below W.heap.size W W.drew := (Below.refl _ _).drew
  refine wp_region_noPanic ?_
  refine wp_region_k (by kernel_rfl) (fun w' => w'.cell? ⟨w.heap.size, 0, none⟩ = some (.int .i64 id) ∧ w'.cell? ⟨w.heap.size, 1, none⟩ = some (.int .i64 ver) ∧ w'.cell? ⟨w.heap.size, 2, none⟩ = some (.slice a vals.length cap)) 9 (⟨c0, c1, c2⟩) (fun hHeld => ?_)
  refine tK 0 (h := ?_)
  try simp only [List.getElem_toArray, List.getElem_cons_zero, List.getElem_cons_succ, Act.put, List.setIfInBounds_toArray, List.set_cons_zero, List.set_cons_succ]
  refine tK 1 (h := ?_)
  try simp only [List.getElem_toArray, List.getElem_cons_zero, List.getElem_cons_succ, Act.put, List.setIfInBounds_toArray, List.set_cons_zero, List.set_cons_succ]
  refine tK 3 (h := ?_)
  try simp only [List.getElem_toArray, List.getElem_cons_zero, List.getElem_cons_succ, Act.put, List.setIfInBounds_toArray, List.set_cons_zero, List.set_cons_succ]
  refine tK 4 (h := ?_)
  try simp only [List.getElem_toArray, List.getElem_cons_zero, List.getElem_cons_succ, Act.put, List.setIfInBounds_toArray, List.set_cons_zero, List.set_cons_succ]
  refine tK 7 (h := ?_)
  try simp only [List.getElem_toArray, List.getElem_cons_zero, List.getElem_cons_succ, Act.put, List.setIfInBounds_toArray, List.set_cons_zero, List.set_cons_succ]
  refine tK 8 (h := ?_)
  try simp only [List.getElem_toArray, List.getElem_cons_zero, List.getElem_cons_succ, Act.put, List.setIfInBounds_toArray, List.set_cons_zero, List.set_cons_succ]
  refine wpAnyK_ready (rs := [2]) (by kernel_rfl) (by simp) ?_
  refine AllReadyK.cons rfl (fun K hK => ?_) AllReadyK.nil
  go_simp
  refine (HX.out.2 _).mono ?_; rintro e w1 ⟨rfl, hb⟩; have b1 := bD.trans (hb.mono bD.size); clear hb
  refine shutK hK (⟨(b1.cell (p := ⟨w.heap.size, 0, none⟩) lr).trans c0, (b1.cell (p := ⟨w.heap.size, 1, none⟩) lr).trans c1, (b1.cell (p := ⟨w.heap.size, 2, none⟩) lr).trans c2⟩) (fun hHeld => ?_)
  clear hK K
  try simp only [List.getElem_toArray, List.getElem_cons_zero, List.getElem_cons_succ, Act.put, List.setIfInBounds_toArray, List.set_cons_zero, List.set_cons_succ]
  refine wpAnyK_ready (rs := [5]) (by kernel_rfl) (by simp) ?_
  refine AllReadyK.cons rfl (fun K hK => ?_) AllReadyK.nil
  go_simp
  refine (HY.out.2 _).mono ?_; rintro e w2 ⟨rfl, hb⟩; have b2 := b1.trans (hb.mono b1.size); clear hb
  refine shutK hK (⟨(b2.cell (p := ⟨w.heap.size, 0, none⟩) lr).trans c0, (b2.cell (p := ⟨w.heap.size, 1, none⟩) lr).trans c1, (b2.cell (p := ⟨w.heap.size, 2, none⟩) lr).trans c2⟩) (fun hHeld => ?_)
  clear hK K
  try simp only [List.getElem_toArray, List.getElem_cons_zero, List.getElem_cons_succ, Act.put, List.setIfInBounds_toArray, List.set_cons_zero, List.set_cons_succ]
  have b3 := b2.alloc b2.size (.cells ([x, y].flatMap encS).toArray 9)
  refine wpAnyK_ready (rs := [6]) (by kernel_rfl) (by simp) ?_
  refine AllReadyK.cons rfl (fun K hK => ?_) AllReadyK.nil
  go_simp
  skip
  refine shutK hK (⟨(b3.cell (p := ⟨w.heap.size, 0, none⟩) lr).trans c0, (b3.cell (p := ⟨w.heap.size, 1, none⟩) lr).trans c1, (b3.cell (p := ⟨w.heap.size, 2, none⟩) lr).trans c2⟩) (fun hHeld => ?_)
  clear hK K
  try simp only [List.getElem_toArray, List.getElem_cons_zero, List.getElem_cons_succ, Act.put, List.setIfInBounds_toArray, List.set_cons_zero, List.set_cons_succ]
  have ho : OwnV 9 1 encS w (.slice (some ⟨w2.heap.size, 0, none⟩) 2 2) [x, y] (w2.alloc (.cells ([x, y].flatMap encS).toArray 9)) := own_new (HB0.out.trans (b3.mono HB0.out.size)) (Nat.le_trans HB0.out.size b2.size) (blk_new rfl) rfl (by simp) rfl
  have hrd := Vec.reads (k := 1) (enc := encS) (fun _ => rfl) (HV.out.below (HB0.out.trans (b3.mono HB0.out.size)))
  have HO := Lib.hid ho; have HRd := Lib.hid hrd
  have hbd : ([x, y] : List (List UInt8)).length + vals.length ≤ 1000000000 := by have := HN.out; simp; omega
  clear ho hrd b1 b2 b3 bD
  refine wpAnyK_ready (rs := [9]) (by kernel_rfl) (by simp) ?_
  refine AllReadyK.cons rfl (fun K hK => ?_) AllReadyK.nil
  refine wp_append_v (.tmp 9) (.tmp 11) 28 (by rfl) 9 (.string ⟨#[]⟩) 1 16 encS (fun _ => rfl) encS_one Tryz.underlying28 infoS rfl (by decide) (by decide) (w0 := w) (v := .slice (some ⟨w2.heap.size, 0, none⟩) 2 2) (A := [x, y]) (B := vals) (by rfl) HO.out (by rfl) HRd.out hbd ?_; intro v5 w5 ho5 hk5 hz5
  refine shutK_off hK (by decide) ?_
  clear hK K
  try simp only [List.getElem_toArray, List.getElem_cons_zero, List.getElem_cons_succ, Act.put, List.setIfInBounds_toArray, List.set_cons_zero, List.set_cons_succ]
  have HO5 := Lib.hid ho5
  clear ho5 hk5 hz5
  refine wpAnyK_ready (rs := [10]) (by kernel_rfl) (by simp) ?_
  refine AllReadyK.cons rfl (fun K hK => ?_) AllReadyK.nil
  go_simp
  refine (joinc_any 9 _ v5 ([x, y] ++ vals) w5 (OwnV.vec (enc := encS) (fun _ => rfl) HO5.out) (by have := HN.out; simp; omega) HJ.out).mono ?_; rintro e w6 ⟨rfl, hb⟩; have HB6 := Lib.hid (HO5.out.2.trans (hb.mono HO5.out.2.size)); clear hb
  refine shutK_off hK (by decide) ?_
  clear hK K
  try simp only [List.getElem_toArray, List.getElem_cons_zero, List.getElem_cons_succ, Act.put, List.setIfInBounds_toArray, List.set_cons_zero, List.set_cons_succ]
  refine wpAnyK_ready (rs := [11]) (by kernel_rfl) (by simp) ?_
  refine AllReadyK.cons rfl (fun K hK => ?_) AllReadyK.nil
  go_simp
  skip
  refine shutK_off hK (by decide) ?_
  clear hK K
  try simp only [List.getElem_toArray, List.getElem_cons_zero, List.getElem_cons_succ, Act.put, List.setIfInBounds_toArray, List.set_cons_zero, List.set_cons_succ]
  refine wpAnyK_done (by kernel_rfl) ?_ _
  refine NoPanic.normal ?_
  go_wp2_with fail
  go_ret
  exact ⟨rfl, HB6.out⟩
set_option maxHeartbeats 4000000 in
/-- Line of a valid record -/
theorem rLine_yes (S : Nat → Prop) (vf vt vn vs : Value) (s : SchemaL) (r : RecL) (sv : Value) (x y : List UInt8) (w : World) (h : SchemaAt w S vf vt vn vs s) (hv : Vec w Any1 1 encS sv r.vals) (hc : checkN s r = 0) (hx : Spells r.id x) (hy : Spells r.ver y) (hs : ∀ t ∈ r.vals, t.length ≤ 1000) (hn : r.vals.length ≤ 1000) :
    Calls Tryz.prog 13 #[.agg #[vf, vt, vn, vs], .agg #[.int .i64 r.id, .int .i64 r.ver, sv]] w fun e w' => e = .returned (.tuple #[strV (joinC 9 (x :: y :: r.vals)), .int .i64 0]) ∧ Below w.heap.size w w' := by
  obtain ⟨a, cap, rfl⟩ := hv.slice
  have HV := Lib.hid hv; have HS := Lib.hid h; have HC := Lib.hid hc; have HX := Lib.hid hx; have HY := Lib.hid hy; have HSh := Lib.hid hs
  have dz : ((0 : Int) != 0) = false := rfl
  obtain ⟨id, ver, vals⟩ := r
  dsimp only at HV HX HY HSh hn ⊢
  clear hv h hc hx hy hs
  go_enter Tryz.func13, Tryz.ntmps13
  go_wp2_with fail
  refine wp_calls_world (fun W hW => ?_)
  have hb0 : Below w.heap.size w W := by rw [hW]; exact ((Below.refl w.heap.size w).alloc (Nat.le_refl _) _).alloc (by simp) _
  have hr0 : W.heap[w.heap.size + 1]? = some (.cells #[.int .i64 id, .int .i64 ver, .slice a vals.length cap] 44 (0, 0)) := by rw [hW]; exact blk_new (by simp)
  clear hW
  refine (rcheck_all S _ _ _ _ s ⟨id, ver, vals⟩ _ W (HS.out.below hb0) (HV.out.below hb0) (fun t ht => by have := HSh.out t ht; omega) (by show vals.length ≤ 1000000; omega)).mono ?_
  rw [HC.out]
  rintro e w1 ⟨rfl, hb⟩
  have hr1 := blk_below hb (lt_of_blk hr0) hr0
  have HB1 := Lib.hid (hb0.trans (hb.mono hb0.size))
  obtain ⟨r0, r1, r2⟩ := cells3 hr1
  clear hb hb0 hr0 hr1
  go_wp2_with fail
  refine (rline_yes Any1 ⟨id, ver, vals⟩ _ x y w1 (HV.out.below HB1.out) HX.out HY.out HSh.out hn).mono ?_
  rintro e w2 ⟨rfl, hb⟩
  have HB2 := Lib.hid (HB1.out.trans (hb.mono HB1.out.size))
  clear hb
  go_wp2_with fail
  go_ret2
  exact ⟨rfl, HB2.out⟩
set_option maxHeartbeats 4000000 in
/-- the file of no records -/
theorem rfile_none (S : Nat → Prop) (vf vt vn vs : Value) (s : SchemaL) (w : World) (h : SchemaAt w S vf vt vn vs s) (hc : checkS s = 0) :
    Calls Tryz.prog 10 #[.agg #[vf, vt, vn, vs], .slice none 0 0] w fun e w' => e = .returned (.tuple #[strV [101, 110, 100, 32, 48, 10], .int .i64 0]) ∧ Below w.heap.size w w' := by
  have h0 : allN s [] = 0 := by unfold allN; rw [if_pos hc]; rfl
  have hit := (spells_small 0 (by decide)).2
  rw [show Lib.decDigits 0 = [48] from by decide +kernel] at hit
  have HS := Lib.hid h; have HC := Lib.hid hc; have H0 := Lib.hid h0; have HI := Lib.hid hit
  have dz : ((0 : Int) != 0) = false := rfl
  clear h hc h0 hit
  go_enter Tryz.func10, Tryz.ntmps10
  go_wp2_with fail
  refine wp_calls_world (fun W hW => ?_)
  have hb0 : Below w.heap.size w W := by rw [hW]; exact (Below.refl w.heap.size w).alloc (Nat.le_refl _) _
  clear hW
  refine (rall_any S Any1 _ _ _ _ (.slice none 0 0) s [] W (HS.out.below hb0) ⟨[], Vec.nil _ _ _ _, rfl, fun x hx => by simp at hx⟩ (fun r hr => by simp at hr) (fun r hr => by simp at hr) (by simp)).mono ?_
  rw [H0.out]
  rintro e w1 ⟨rfl, hb⟩
  have HB1 := Lib.hid (hb0.trans (hb.mono hb0.size))
  clear hb hb0
  go_wp2_with fail
  refine wp_world (fun W2 hW2 => ?_)
  have hb2 : Below w1.heap.size w1 W2 := by rw [hW2]; exact (Below.refl w1.heap.size w1).alloc (Nat.le_refl _) _
  have hh2 : HoldsB w1.heap.size w1.heap.size [] W2 := by rw [hW2]; exact ⟨.inl ⟨Nat.le_refl _, _, blk_new rfl, ⟨rfl, .inl ⟨rfl, rfl⟩⟩, by simp [Value.ownBlock]⟩, by simp⟩
  have HH2 := Lib.hid hh2; have HB2 := Lib.hid (HB1.out.trans (hb2.mono HB1.out.size)); have HB12 := Lib.hid hb2
  clear hW2 hb2 hh2
  go_loopw [18] (fun i wr => i = .int .i64 0 ∧ wr = W2) (fun i _ => 0)
  case atStart => exact ⟨rfl, rfl⟩
  case round =>
    obtain ⟨rfl, rfl⟩ := hrel
    go_wp2_with fail
    refine (HI.out _).mono ?_
    rintro e w3 ⟨rfl, hb⟩
    have HH3 := Lib.hid (HH2.out.below hb); have HB3 := Lib.hid (HB12.out.trans (hb.mono HB12.out.size))
    clear hb
    go_wp2_with fail
    refine (wstr_k w1.heap.size w1.heap.size (Lib.byteCells []) ⟨([101, 110, 100, 32, 48, 10] : List UInt8).toArray⟩ _ HH3.out.1 (by rw [Lib.byteCells_length, mk_size]; simp) HH3.out.2).mono ?_
    rintro e w4 ⟨rfl, h4, hb4, hk4⟩
    rw [show Lib.strCells ⟨([101, 110, 100, 32, 48, 10] : List UInt8).toArray⟩ = Lib.byteCells [101, 110, 100, 32, 48, 10] from rfl, ← Lib.byteCells_append, List.nil_append] at h4
    have HB4 := Lib.hid (HB3.out.trans hb4)
    have H4 := Lib.hid h4
    have hz4 := Nat.le_trans HH3.out.2 hb4.size
    clear h4 hb4 hk4
    go_wp2_with fail
    refine (bstr_k w1.heap.size w1.heap.size _ _ (.inr H4.out) hz4).mono ?_
    rintro e w5 ⟨rfl, hb5⟩
    have HB5 := Lib.hid (HB1.out.trans ((HB4.out.trans hb5).mono HB1.out.size))
    clear hb5
    go_wp2_with fail
    go_ret2
    exact ⟨rfl, HB5.out⟩
end
section
open Go.RowKit
theorem deck_law {w w1 : World} {a : Option Addr} {n cap : Nat} {zs : List Int} (hn : n ≤ 400) (hr : IsRow .i64 w a n cap zs) (hb : Below w.heap.size w w1) :
    DeckAt (w1.alloc (.cells #[.slice a n cap, .int .i64 0, .int .u64 11400714819323198485] 65)) w1.heap.size :=
  deck_new hn fun h0 => by
    obtain ⟨b, off, e1, e2, e3⟩ := hr.read h0
    exact ⟨b, off, e1, Nat.lt_of_lt_of_le e2 hb.size, fun i hi => by obtain ⟨x, hx⟩ := e3 i hi; exact ⟨x, (hb.cell (p := ⟨b, off + i, none⟩) e2).trans hx⟩⟩
end
section
set_option maxRecDepth 100000
open Go.RowKit Cal
attribute [local go_sem] toList_mk mk_size str_append
theorem SchemaAt.moved {D : Nat} {w w' : World} {S : Nat → Prop} {vf vt vn vs : Value} {s : SchemaL} (h : SchemaAt w S vf vt vn vs s) (hS : ∀ b, S b → b ≠ D) (m : Moved D w w') : SchemaAt w' S vf vt vn vs s :=
  have mv : ∀ b, b < w.heap.size → S b → w'.heap[b]? = w.heap[b]? ∧ S b := fun b hb hs => ⟨m.grown.block b hb (by have := hS b hs; simp; omega), hs⟩
  ⟨h.1.move m.size mv, h.2.1.move m.size mv, h.2.2.1.move m.size mv, h.2.2.2.move m.size mv⟩
theorem fields_cell {w : World} {S : Nat → Prop} {a : Option Addr} {n cap : Nat} {F : List F2} (h : Vec w S 2 encF (.slice a n cap) F) (h0 : 0 < F.length) : ∃ b off, a = some ⟨b, off, none⟩ ∧ S b ∧ b < w.heap.size ∧ ∀ j, j < F.length → w.cell? ⟨b, off + j * 2 + 1, none⟩ = some (.int .i64 (F.getD j default).2) := by
  obtain ⟨b, off, e, hS, hb, hc⟩ := vec_cell2 h h0
  exact ⟨b, off, e, hS, hb, fun j hj => hc j hj 1 _ rfl⟩
/-- where a law stands that has dealt a schema: the deck in block D, the schema in block y, the kind of a field in cell o of block b -/
structure Drawn (D : Nat) (w : World) (y : Nat) (S : Nat → Prop) (vf vt vn vs : Value) (s : SchemaL) (b o : Nat) (kf : Int) (wr : World) : Prop where
  m : Moved D w wr
  x : wr.heap[y]? = some (.cells #[vf, vt, vn, vs] 33 (0, 0))
  s : SchemaAt wr S vf vt vn vs s
  c : wr.cell? ⟨b, o, none⟩ = some (.int .i64 kf)
  ne : ∀ b, S b → b ≠ D
  yD : y ≠ D
  bD : b ≠ D
theorem Drawn.moved {D : Nat} {w : World} {y : Nat} {S : Nat → Prop} {vf vt vn vs : Value} {s : SchemaL} {b o : Nat} {kf : Int} {wr wd : World} (h : Drawn D w y S vf vt vn vs s b o kf wr) (m : Moved D wr wd) : Drawn D w y S vf vt vn vs s b o kf wd :=
  ⟨h.m.trans m, m.blk h.yD h.x, h.s.moved h.ne m, (World.cell?_of_block (w := wr) (a := ⟨b, o, none⟩) (m.grown.block b (World.block_lt_of_cell? _ ⟨b, o, none⟩ h.c) (by have := h.bD; simp; omega))).trans h.c, h.ne, h.yD, h.bD⟩
theorem Drawn.below {D : Nat} {w : World} {y : Nat} {S : Nat → Prop} {vf vt vn vs : Value} {s : SchemaL} {b o : Nat} {kf : Int} {wr wd : World} (h : Drawn D w y S vf vt vn vs s b o kf wr) (hb : Below wr.heap.size wr wd) : Drawn D w y S vf vt vn vs s b o kf wd :=
  h.moved ((Moved.start h.m.deck).below hb)
end
end Go.Proofs.YthnfmolkppbbpaaGreatDoor
