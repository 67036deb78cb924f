/- Parts of one proof: SchB, SchC, SchD, SchE, SchF, SchG, SchH. -/
import Derived.Test.YtfgoiojmbphmnaaGreatDoorPartSchemaBack3
section
/- schema: days, and what the kinds' own functions return. -/
set_option linter.unusedSimpArgs false
set_option linter.unusedVariables false
set_option maxRecDepth 100000
namespace Go.Proofs.YtfgoiojmbphmnaaGreatDoor
open Go.RowKit Cal
attribute [local go_sem] toList_mk mk_size
def dayF (y m d : List UInt8) : List UInt8 × Int := bif vldB (numI y) (numI m) (numI d) then (digits8 (numI y) (numI m) (numI d), 0) else ([], 4)
def byteL (l : List UInt8) (i : Nat) : Int := ((l.getD i 0).toNat : Int)
/-- the eight digits of a day that is written in one of three forms, and the error -/
def dayN (l : List UInt8) : List UInt8 × Int :=
  if l.length = 10 then
    if byteL l 4 = 45 ∧ byteL l 7 = 45 then dayF (l.take 4) ((l.drop 5).take 2) ((l.drop 8).take 2)
    else if byteL l 2 = 46 ∧ byteL l 5 = 46 then dayF ((l.drop 6).take 4) ((l.drop 3).take 2) (l.take 2)
    else if byteL l 2 = 47 ∧ byteL l 5 = 47 then dayF ((l.drop 6).take 4) (l.take 2) ((l.drop 3).take 2)
    else ([], 4)
  else ([], 4)
def DayIs (x : Value) (p : List UInt8 × Int) : Prop := (∃ a b c : Int, vldB a b c = true ∧ x = .tuple #[.agg #[.int .i64 a, .int .i64 b, .int .i64 c], .int .i64 0] ∧ p = (digits8 a b c, 0)) ∨ (x = .tuple #[.agg #[.int .i64 0, .int .i64 0, .int .i64 0], .int .i64 4] ∧ p = ([], 4))
theorem dateL_is (y m d : List UInt8) : DayIs (dateL y m d) (dayF y m d) := by
  unfold dateL dateR dayF
  cases h : vldB (numI y) (numI m) (numI d)
  · exact .inr ⟨rfl, rfl⟩
  · exact .inl ⟨_, _, _, h, rfl, rfl⟩
theorem parse_is (s : ByteArray) : DayIs (parseV s) (dayN s.data.toList) := by
  have hl : s.data.toList.length = s.size := by simp
  unfold parseV dayN
  rw [hl]
  show DayIs _ (if s.size = 10 then if byteAt s 4 = 45 ∧ byteAt s 7 = 45 then _ else if byteAt s 2 = 46 ∧ byteAt s 5 = 46 then _ else if byteAt s 2 = 47 ∧ byteAt s 5 = 47 then _ else _ else _)
  split
  · split
    · exact dateL_is _ _ _
    · split
      · exact dateL_is _ _ _
      · split
        · exact dateL_is _ _ _
        · exact .inr ⟨rfl, rfl⟩
  · exact .inr ⟨rfl, rfl⟩
set_option maxHeartbeats 1000000 in
theorem day_any (vt vn vs : Value) (s : ByteArray) (w : World) :
    Calls Tryz.prog 106 #[.agg #[vt, vn, vs], .string s] w fun e w' => e = .returned (pairV (dayN s.data.toList)) ∧ Below w.heap.size w w' := by
  rcases parse_is s with ⟨a, b, c, hv, hp, hd⟩ | ⟨hp, hd⟩
  · rw [hd]
    have HV := Lib.hid hv
    have HP := Lib.hid hp
    clear hd hp hv
    go_enter Tryz.func106, Tryz.ntmps106
    go_wp2_with fail
    refine (parse_any s _).mono ?_
    rw [HP.out]
    rintro e w1 ⟨rfl, hb1⟩
    have HB1 := Lib.hid (((Below.refl w.heap.size w).alloc (Nat.le_refl _) _).trans (hb1.mono (by simp)))
    clear hb1
    go_wp2_with fail
    refine (format_yes a b c _ HV.out).mono ?_
    rintro e w2 ⟨rfl, hb2⟩
    have HB2 := Lib.hid ((HB1.out.alloc HB1.out.size (.cells #[.int .i64 a, .int .i64 b, .int .i64 c] 49)).trans (hb2.mono (by have := HB1.out.size; simp; omega)))
    clear hb2
    go_wp2_with fail
    go_ret2
    exact ⟨rfl, HB2.out⟩
  · rw [hd]
    have HP := Lib.hid hp
    clear hd hp
    go_enter Tryz.func106, Tryz.ntmps106
    go_wp2_with fail
    refine (parse_any s _).mono ?_
    rw [HP.out]
    rintro e w1 ⟨rfl, hb1⟩
    have HB1 := Lib.hid (((Below.refl w.heap.size w).alloc (Nat.le_refl _) _).trans (hb1.mono (by simp)))
    clear hb1
    go_wp2_with fail
    go_ret2
    exact ⟨rfl, HB1.out.alloc HB1.out.size _⟩
/-- eight digits of a day that exists -/
def readB (l : List UInt8) : Bool := bif decide (l.length = 8) then vldB (numI (l.take 4)) (numI ((l.drop 4).take 2)) (numI ((l.drop 6).take 2)) else false
theorem read_is (s : ByteArray) : ∃ a b c : Int, (bif decide (s.size = 8) then dateL (s.data.toList.take 4) ((s.data.toList.drop 4).take 2) ((s.data.toList.drop 6).take 2) else dateV false 0 0 0 4) = .tuple #[.agg #[.int .i64 a, .int .i64 b, .int .i64 c], .int .i64 (cd (readB s.data.toList) 4)] := by
  have hl : s.data.toList.length = s.size := by simp
  unfold readB
  rw [hl]
  cases decide (s.size = 8)
  · exact ⟨0, 0, 0, rfl⟩
  · exact ⟨_, _, _, rfl⟩
set_option maxHeartbeats 1000000 in
theorem kind1_any (vt vn vs : Value) (s : ByteArray) (w : World) :
    Calls Tryz.prog 107 #[.agg #[vt, vn, vs], .string s] w fun e w' => e = .returned (.bool (readB s.data.toList)) ∧ Below w.heap.size w w' := by
  obtain ⟨a, b, c, hr⟩ := read_is s
  have HR := Lib.hid hr; clear hr
  go_enter Tryz.func107, Tryz.ntmps107
  go_wp2_with fail
  refine (read_any s _).mono ?_
  rw [HR.out]
  obtain ⟨v, hv⟩ : ∃ v, readB s.data.toList = v := ⟨_, rfl⟩
  rw [hv]
  have HV := Lib.hid hv; clear hv HR
  rintro e w1 ⟨rfl, hb1⟩
  have HB1 := Lib.hid (((Below.refl w.heap.size w).alloc (Nat.le_refl _) _).trans (hb1.mono (by simp)))
  clear hb1
  cases v
  all_goals
    simp only [cd_false, cd_true]
    go_wp2_with fail
    go_ret
    exact ⟨ret_bool (by rw [HV.out]; try rfl), HB1.out.alloc HB1.out.size _⟩
set_option maxHeartbeats 1000000 in
theorem kind2_any (vt vn vs : Value) (s : ByteArray) (w : World) (hs : s.size ≤ 9223372036854775000) :
    Calls Tryz.prog 110 #[.agg #[vt, vn, vs], .string s] w fun e w' => e = .returned (pairV (codeN s.data.toList)) ∧ Below w.heap.size w w' := by
  go_enter Tryz.func110, Tryz.ntmps110
  go_wp2_with fail
  refine (code_any s _ hs).mono ?_
  unfold pairV
  rintro e w1 ⟨rfl, hb1⟩
  have HB1 := Lib.hid (((Below.refl w.heap.size w).alloc (Nat.le_refl _) _).trans (hb1.mono (by simp)))
  clear hb1
  go_wp2_with fail
  go_ret2
  exact ⟨rfl, HB1.out⟩
set_option maxHeartbeats 1000000 in
theorem kind3_any (vt vn vs : Value) (s : ByteArray) (w : World) (hs : s.size ≤ 9223372036854775000) :
    Calls Tryz.prog 112 #[.agg #[vt, vn, vs], .string s] w fun e w' => e = .returned (.bool (isOwn (codeN s.data.toList) s.data.toList)) ∧ Below w.heap.size w w' := by
  go_enter Tryz.func112, Tryz.ntmps112
  go_wp2_with fail
  refine (normed_any s _ hs).mono ?_
  rintro e w1 ⟨rfl, hb1⟩
  have HB1 := Lib.hid (((Below.refl w.heap.size w).alloc (Nat.le_refl _) _).trans (hb1.mono (by simp)))
  clear hb1
  go_wp2_with fail
  go_ret
  exact ⟨rfl, HB1.out⟩
end Go.Proofs.YtfgoiojmbphmnaaGreatDoor
end
section
/- schema.Check. -/
set_option linter.unusedSimpArgs false
set_option linter.unusedVariables false
set_option maxRecDepth 100000
namespace Go.Proofs.YtfgoiojmbphmnaaGreatDoor
open Go.RowKit Cal
attribute [local go_sem] toList_mk mk_size
abbrev F2 := List UInt8 × Int
def encF (x : F2) : List Value := [strV x.1, .int .i64 x.2]
structure SchemaL where
  fields : List F2
  rules : RulesL
def SchemaAt (w : World) (S : Nat → Prop) (vf vt vn vs : Value) (s : SchemaL) : Prop := Vec w S 2 encF vf s.fields ∧ RulesAt w S vt vn vs s.rules
theorem SchemaAt.below {w w' : World} {S : Nat → Prop} {vf vt vn vs : Value} {s : SchemaL} (h : SchemaAt w S vf vt vn vs s) (hb : Below w.heap.size w w') : SchemaAt w' S vf vt vn vs s := ⟨h.1.below hb, h.2.below hb⟩
theorem SchemaAt.any {w : World} {S : Nat → Prop} {vf vt vn vs : Value} {s : SchemaL} (h : SchemaAt w S vf vt vn vs s) : SchemaAt w Any1 vf vt vn vs s := ⟨h.1.any, h.2.any⟩
theorem Vec.take {α : Type} {w : World} {S : Nat → Prop} {k : Nat} {enc : α → List Value} {a : Option Addr} {n cap : Nat} {L : List α} (h : Vec w S k enc (.slice a n cap) L) (i : Nat) (hi : i ≤ L.length) : Vec w S k enc (.slice a i cap) (L.take i) := by
  obtain ⟨a', cap', h1, h2, h3⟩ := h
  cases h1
  refine ⟨a, cap, by rw [List.length_take, Nat.min_eq_left hi], by rw [List.length_take]; omega, fun h0 => ?_⟩
  rw [List.length_take] at h0
  obtain ⟨b, off, h4, h5, h5', h6⟩ := h3 (by omega)
  refine ⟨b, off, h4, h5, h5', fun j x hj => h6 j x ?_⟩
  rw [List.getElem?_take] at hj
  split at hj
  · exact hj
  · cases hj
theorem cells4 {w : World} {b : Nat} {x y z u : Value} {t : TypeId} {fr : Nat × Nat} (h : w.heap[b]? = some (.cells #[x, y, z, u] t fr)) :
    w.cell? ⟨b, 0, none⟩ = some x ∧ w.cell? ⟨b, 1, none⟩ = some y ∧ w.cell? ⟨b, 2, none⟩ = some z ∧ w.cell? ⟨b, 3, none⟩ = some u := by
  refine ⟨?_, ?_, ?_, ?_⟩ <;> (rw [cell_of_row _ _ _ _ _ _ h]; rfl)
theorem pred_field (nm : List UInt8) (B : Nat) (w : World) (hB : B < w.heap.size) (hcell : w.cell? ⟨B, 0, none⟩ = some (strV nm)) :
    PredBelow Tryz.prog 51 #[.pointer (some ⟨B, 0, none⟩)] (fun x => .agg (encF x).toArray) (fun x => x.1 == nm) w := fun W x hb => by
  have hc : W.cell? ⟨B, 0, none⟩ = some (strV nm) := (hb.cell (p := ⟨B, 0, none⟩) hB).trans hcell
  have hBW : B < W.heap.size := Nat.lt_of_lt_of_le hB hb.size
  have hne : B ≠ W.heap.size := by omega
  have HBb := Lib.hid hb; clear hb hcell
  obtain ⟨xn, xk⟩ := x
  show Calls Tryz.prog 51 #[.agg #[strV xn, .int .i64 xk], .pointer (some ⟨B, 0, none⟩)] W _
  go_enter Tryz.func51, Tryz.ntmps51
  go_wp2
  go_ret
  exact ⟨rfl, HBb.out.alloc HBb.out.size _⟩
set_option maxHeartbeats 400000 in
theorem idxF_nil (a : Option Addr) (c : Nat) (f : Value) (w : World) :
    Calls Tryz.prog 81 #[.slice a 0 c, f] w fun e w' => e = .returned (.int .i64 (-1)) ∧ w = w' := by
  go_enter Tryz.func81, Tryz.ntmps81
  go_wp2
  refine wp_loop_rounds 1 ?_; rw [rounds_succ]
  go_wp2
  go_ret
  exact ⟨rfl, rfl⟩
set_option maxHeartbeats 400000 in
theorem contF_nil (a : Option Addr) (c : Nat) (f : Value) (w : World) :
    Calls Tryz.prog 50 #[.slice a 0 c, f] w fun e w' => e = .returned (.bool false) ∧ w = w' := by
  go_enter Tryz.func50, Tryz.ntmps50
  go_wp2_with fail
  refine (idxF_nil a c _ _).mono ?_
  rintro e w1 ⟨rfl, rfl⟩
  go_wp2_with fail
  go_ret
  exact ⟨rfl, rfl⟩
theorem contF_any (p : F2 → Bool) (g : Nat) (lb : Array Value) (eg : ∀ args w, (callFunc g args).run Tryz.prog w = .ok (.enter g args) w) (S : Nat → Prop) (v : Value) (L : List F2) (w : World) (h : Vec w S 2 encF v L) (hn : L.length ≤ 1000000) (hp : PredBelow Tryz.prog g lb (fun x => .agg (encF x).toArray) p w) :
    Calls Tryz.prog 50 #[v, .func (.func g) #[] lb] w fun e w' => e = .returned (.bool (L.any p)) ∧ Below w.heap.size w w' := by
  obtain ⟨a, cap, rfl, hcap, h0⟩ := h
  by_cases hz : L = []
  · subst hz
    exact (contF_nil a cap _ w).mono fun e w' ⟨he, hw⟩ => ⟨he, by rw [← hw]; exact Below.refl _ _⟩
  · obtain ⟨b, off, rfl, _, hb, hc⟩ := h0 (List.length_pos_iff.2 hz)
    have hcon := AnyQ.slices_ContainsFunc Tryz.laysCF 2 Tryz.isAgg42 Tryz.sizeOf42 encF (fun _ => rfl) p g lb eg b off L.length cap L w hp (Nat.le_refl _) (by omega) hb (fun j hj i u hi => by
        have e : L[j]? = some L[j]! := by rw [List.getElem?_eq_getElem hj, getElem!_pos L j hj]
        exact hc j _ e i u hi)
    rw [List.take_of_length_le (Nat.le_refl _)] at hcon
    exact hcon
def fieldAtB (F : List F2) (j : Nat) : Bool := wordB (F.getD j default).1 && !((F.take j).any fun x => x.1 == (F.getD j default).1) && decide (1 ≤ (F.getD j default).2) && decide ((F.getD j default).2 ≤ 4)
def fieldsB (F : List F2) : Bool := (List.range F.length).all (fieldAtB F)
def checkS (s : SchemaL) : Int := if s.fields.length < 1 ∨ 5 < s.fields.length then 6 else if fieldsB s.fields = true then checkR s.rules else 6
set_option maxHeartbeats 4000000 in
theorem scheck_any (S : Nat → Prop) (vf vt vn vs : Value) (s : SchemaL) (w : World) (h : SchemaAt w S vf vt vn vs s) :
    Calls Tryz.prog 28 #[.agg #[vf, vt, vn, vs]] w fun e w' => e = .returned (.int .i64 (checkS s)) ∧ Below w.heap.size w w' := by
  obtain ⟨F, r⟩ := s
  obtain ⟨h1, h2⟩ := h
  dsimp only at h1 h2
  obtain ⟨af, cf, rfl⟩ := h1.slice
  have H1 := Lib.hid h1.any; have H2 := Lib.hid h2.any
  clear h1 h2
  have hfin : ∀ n : Int, checkS ⟨F, r⟩ = n → Ending.returned (.int .i64 n) = .returned (.int .i64 (checkS ⟨F, r⟩)) := fun n h => by rw [h]
  have HF := Lib.hid hfin; clear hfin
  by_cases g1 : F.length < 1
  · have d1 : decide ((F.length : Int) < 1) = true := by simp; omega
    go_enter Tryz.func28, Tryz.ntmps28
    go_wp2_with fail
    go_ret
    exact ⟨HF.out 6 (by unfold checkS; rw [if_pos (.inl g1)]), (Below.refl _ _).alloc (Nat.le_refl _) _⟩
  · have d1 : decide ((F.length : Int) < 1) = false := by simp; omega
    by_cases g2 : 5 < F.length
    · have d2 : decide ((5 : Int) < F.length) = true := by simp; omega
      go_enter Tryz.func28, Tryz.ntmps28
      go_wp2_with fail
      go_ret
      exact ⟨HF.out 6 (by unfold checkS; rw [if_pos (.inr g2)]), (Below.refl _ _).alloc (Nat.le_refl _) _⟩
    · have d2 : decide ((5 : Int) < F.length) = false := by simp; omega
      have HN := Lib.hid (show ¬ (F.length < 1 ∨ 5 < F.length) by omega)
      obtain ⟨b, off, rfl, _, hb, hc⟩ := vec_cell2 H1.out (by omega)
      have HC := Lib.hid hc; clear hc
      go_enter Tryz.func28, Tryz.ntmps28
      go_wp2_with fail
      clear d1 d2
      go_loopw [19] (fun i wr => ∃ k : Nat, k ≤ F.length ∧ i = .int .i64 k ∧ wr.heap[w.heap.size]? = some (.cells #[.slice (some ⟨b, off, none⟩) F.length cf, vt, vn, vs] 33 (0, 0)) ∧ Below w.heap.size w wr ∧ ∀ j, j < k → fieldAtB F j = true) (fun i _ => F.length - (intOf i).toNat)
      case atStart => exact ⟨0, by omega, rfl, blk_new rfl, (Below.refl _ _).alloc (Nat.le_refl _) _, fun j hj => by omega⟩
      case round =>
        obtain ⟨k, hk, rfl, hX, hbw, ha⟩ := hrel
        have HA := Lib.hid ha; clear ha
        obtain ⟨p0, p1, p2, p3⟩ := cells4 hX
        have zX := lt_of_blk hX
        have HX := Lib.hid hX; clear hX
        have HW := Lib.hid hbw
        by_cases hlt : k < F.length
        · have hq : decide ((k : Int) < F.length) = true := by simp; omega
          have hi : (k : Int) < (F.length : Int) := by omega
          have hcap := H1.out.len.2
          obtain ⟨x, hx⟩ : ∃ x, F.getD k default = x := ⟨_, rfl⟩
          have hc := HC.out k hlt
          rw [hx] at hc
          have c0 : wr.cell? ⟨b, off + k * 2, none⟩ = some (strV x.1) := (hbw.cell (p := ⟨b, off + k * 2, none⟩) hb).trans (hc 0 _ rfl)
          have c1 : wr.cell? ⟨b, off + k * 2 + 1, none⟩ = some (.int .i64 x.2) := (hbw.cell (p := ⟨b, off + k * 2 + 1, none⟩) hb).trans (hc 1 _ rfl)
          have hfa : fieldAtB F k = (wordB x.1 && !((F.take k).any fun y => y.1 == x.1) && decide (1 ≤ x.2) && decide (x.2 ≤ 4)) := by simp only [fieldAtB]; rw [hx]
          have HFa := Lib.hid hfa
          obtain ⟨nm, kd⟩ := x
          dsimp only at c0 c1 HFa
          clear hx hc hbw hfa
          go_wp2_with fail
          have eg : ∀ args w, (callFunc 51 args).run Tryz.prog w = .ok (.enter 51 args) w := enters_of Tryz.func51 (by kernel_rfl) rfl
          refine (contF_any (fun y => y.1 == nm) 51 #[.pointer (some ⟨wr.heap.size, 0, none⟩)] eg Any1 _ (F.take k) _ ((H1.out.take k (by omega)).below (HW.out.alloc HW.out.size _)) (by have := List.length_take_le k F; omega) (pred_field nm wr.heap.size _ (by simp) (by simp))).mono ?_
          obtain ⟨u, hu⟩ : ∃ u, (F.take k).any (fun y => y.1 == nm) = u := ⟨_, rfl⟩
          rw [hu] at HFa ⊢
          clear eg hu
          rintro e w2 ⟨rfl, hb2⟩
          have hX2 : w2.heap[w.heap.size]? = some (.cells #[.slice (some ⟨b, off, none⟩) F.length cf, vt, vn, vs] 33 (0, 0)) := blk_below hb2 (by simp; omega) (blk_old HX.out)
          have hY2 : w2.heap[wr.heap.size]? = some (.cells #[strV nm, .int .i64 kd] 42 (0, 0)) := blk_below hb2 (by simp) (blk_new rfl)
          have HW2 := Lib.hid ((HW.out.alloc HW.out.size (.cells #[strV nm, .int .i64 kd] 42)).trans (hb2.mono (by have := HW.out.size; simp; omega)))
          have q0 : w2.cell? ⟨wr.heap.size, 0, none⟩ = some (strV nm) := by rw [cell_of_row _ _ _ _ _ _ hY2]; rfl
          have q1 : w2.cell? ⟨wr.heap.size, 1, none⟩ = some (.int .i64 kd) := by rw [cell_of_row _ _ _ _ _ _ hY2]; rfl
          have zX2 := lt_of_blk hX2; have zY2 := lt_of_blk hY2
          have HX2 := Lib.hid hX2; have HY2 := Lib.hid hY2
          clear hb2 hX2 hY2 p0 p1 p2 p3 HX HW c0 c1
          go_wp2_with fail
          refine (word_is nm _).mono ?_
          obtain ⟨wb, hwb⟩ : ∃ wb, wordB nm = wb := ⟨_, rfl⟩
          rw [hwb] at HFa ⊢
          clear hwb
          rintro e w3 ⟨rfl, hb3⟩
          have q0 : w3.cell? ⟨wr.heap.size, 0, none⟩ = some (strV nm) := (hb3.cell (p := ⟨wr.heap.size, 0, none⟩) zY2).trans q0
          have q1 : w3.cell? ⟨wr.heap.size, 1, none⟩ = some (.int .i64 kd) := (hb3.cell (p := ⟨wr.heap.size, 1, none⟩) zY2).trans q1
          have HX3 := Lib.hid (blk_below hb3 zX2 HX2.out)
          have HW3 := Lib.hid (HW2.out.trans (hb3.mono HW2.out.size))
          clear hb3 HX2 HW2 HY2
          cases wb
          · have HFa := Lib.hid (show fieldAtB F k = false by rw [HFa.out]; rfl)
            go_wp2_with fail
            go_ret
            exact ⟨HF.out 6 (by unfold checkS; rw [if_neg HN.out, if_neg (by rw [fieldsB, all_false hlt HFa.out]; simp)]), HW3.out⟩
          · cases u
            · by_cases k1 : 1 ≤ kd
              · by_cases k4 : kd ≤ 4
                · have HFa := Lib.hid (show fieldAtB F k = true by rw [HFa.out]; simp [k1, k4])
                  go_wp2_with fail
                  go_roundw
                  case rel => exact ⟨k + 1, by omega, by go_num, HX3.out, HW3.out, fun j hj => by
                    by_cases e : j = k
                    · subst e; exact HFa.out
                    · exact HA.out j (by omega)⟩
                  case measure => simp [intOf]; omega
                · have HFa := Lib.hid (show fieldAtB F k = false by rw [HFa.out]; simp [k4])
                  have k5 : 4 < kd := by omega
                  go_wp2_with fail
                  go_ret
                  exact ⟨HF.out 6 (by unfold checkS; rw [if_neg HN.out, if_neg (by rw [fieldsB, all_false hlt HFa.out]; simp)]), HW3.out⟩
              · have HFa := Lib.hid (show fieldAtB F k = false by rw [HFa.out]; simp [k1])
                have k5 : kd < 1 := by omega
                go_wp2_with fail
                go_ret
                exact ⟨HF.out 6 (by unfold checkS; rw [if_neg HN.out, if_neg (by rw [fieldsB, all_false hlt HFa.out]; simp)]), HW3.out⟩
            · have HFa := Lib.hid (show fieldAtB F k = false by rw [HFa.out]; simp)
              go_wp2_with fail
              go_ret
              exact ⟨HF.out 6 (by unfold checkS; rw [if_neg HN.out, if_neg (by rw [fieldsB, all_false hlt HFa.out]; simp)]), HW3.out⟩
        · have hq : decide ((k : Int) < F.length) = false := by simp; omega
          clear hbw
          go_wp2_with fail
          refine (rcheck_any Any1 vt vn vs r _ (H2.out.below HW.out)).mono ?_
          obtain ⟨c, hc⟩ : ∃ c, checkR r = c := ⟨_, rfl⟩
          rw [hc]
          have HCc := Lib.hid hc; clear hc
          rintro e w3 ⟨rfl, hb3⟩
          have HW3 := Lib.hid (HW.out.trans (hb3.mono HW.out.size))
          clear hb3
          go_wp2_with fail
          go_ret
          exact ⟨HF.out c (by unfold checkS; rw [if_neg HN.out, if_pos (by rw [fieldsB]; exact all_true fun j hj => HA.out j (by have hj' : j < F.length := hj; omega))]; exact HCc.out), HW3.out⟩
end Go.Proofs.YtfgoiojmbphmnaaGreatDoor
end
section
/- schema: find. -/
set_option linter.unusedSimpArgs false
set_option linter.unusedVariables false
set_option maxRecDepth 100000
namespace Go.Proofs.YtfgoiojmbphmnaaGreatDoor
open Go.RowKit Cal
attribute [local go_sem] toList_mk mk_size
/-- what is done with the values of kind k -/
def kindAt (k : Int) : Array Value := if k = 1 then kind1 else if k = 2 then kind2 else if k = 3 then kind3 else if k = 4 then kind4 else kind0
/-- the kind of a field, and the error -/
def findN (s : SchemaL) (f : Int) : Int × Int := if checkS s = 0 then (if 0 ≤ f ∧ f < s.fields.length then ((s.fields.getD f.toNat default).2, 0) else (0, 2)) else (0, checkS s)
def findV (p : Int × Int) : Value := .tuple #[.agg (kindAt p.1), .int .i64 p.2]
theorem check_fields {s : SchemaL} (h : checkS s = 0) : (1 ≤ s.fields.length ∧ s.fields.length ≤ 5) ∧ fieldsB s.fields = true ∧ checkR s.rules = 0 := by
  unfold checkS at h
  split at h
  · omega
  · split at h
    · rename_i h1 h2; exact ⟨by omega, h2, h⟩
    · omega
theorem field_kind {F : List F2} (h : fieldsB F = true) (j : Nat) (hj : j < F.length) : 1 ≤ (F.getD j default).2 ∧ (F.getD j default).2 ≤ 4 := by
  have := List.all_eq_true.1 h j (List.mem_range.2 hj)
  unfold fieldAtB at this
  simp only [Bool.and_eq_true, decide_eq_true_iff] at this
  exact ⟨this.1.2, this.2⟩
theorem heap_setRow {w : World} {g : Nat} {old cs : Array Value} {t : TypeId} {fr : Nat × Nat} (h : w.heap[g]? = some (.cells old t fr)) : (w.setRow g cs).heap[g]? = some (.cells cs t fr) := by
  have hlt := lt_of_blk h
  have h' : w.heap[g] = .cells old t fr := by simpa [Array.getElem?_eq_getElem hlt] using h
  show (w.heap.modify g _)[g]? = _
  rw [Array.getElem?_eq_getElem (by simpa using hlt), Array.getElem_modify_self, h']
theorem below_setRow {B g : Nat} {a w : World} {cs : Array Value} (h : Below B a w) (hg : B ≤ g) : Below B a (w.setRow g cs) := by
  refine ⟨h.os, h.tape, h.output, by simpa [World.setRow] using h.size, fun k hk => ?_⟩
  show (w.heap.modify g _)[k]? = _
  rw [Array.getElem?_modify, if_neg (by omega)]
  exact h.block k hk
set_option maxHeartbeats 1000000 in
theorem find_bad (S : Nat → Prop) (vf vt vn vs : Value) (s : SchemaL) (f : Int) (w : World) (h : SchemaAt w S vf vt vn vs s) (hc : checkS s ≠ 0) :
    Calls Tryz.prog 44 #[.agg #[vf, vt, vn, vs], .int .i64 f] w fun e w' => e = .returned (findV (findN s f)) ∧ Below w.heap.size w w' := by
  have HS := Lib.hid h.any
  have HF := Lib.hid (show findN s f = (0, checkS s) by unfold findN; rw [if_neg hc])
  have hne : (checkS s != 0) = true := by simpa using hc
  clear h hc
  go_enter Tryz.func44, Tryz.ntmps44
  go_wp2_with fail
  refine (scheck_any Any1 vf vt vn vs s _ (HS.out.below (((Below.refl _ _).alloc (Nat.le_refl _) _).alloc (by simp) _))).mono ?_
  obtain ⟨c, hcc⟩ : ∃ c, checkS s = c := ⟨_, rfl⟩
  rw [hcc] at hne HF ⊢
  clear hcc
  rintro e w1 ⟨rfl, hb1⟩
  have X1 : w1.heap[w.heap.size + 1]? = some (.cells kind0 79 (0, 0)) := blk_below hb1 (by simp) (heap_alloc2_new _ _ _)
  have HB1 := Lib.hid ((((Below.refl w.heap.size w).alloc (Nat.le_refl _) (.cells #[vf, vt, vn, vs] 33)).alloc (by simp) (.cells kind0 79)).trans (hb1.mono (by simp; omega)))
  have HX1 := Lib.hid X1
  have z1 := lt_of_blk X1
  clear hb1 X1
  go_wp2_with (refine wpList_store_row rfl 79 (.tmp 4) (.tmp 11) rfl (w.heap.size + 1) kind0 rfl rfl 79 kind0 HX1.out (by kernel_rfl) (by kernel_rfl) (by kernel_rfl) ?_)
  exact bodyPost_row2 rfl rfl (heap_setRow HX1.out) Tryz.underlying79 rfl (by kernel_rfl) ⟨by rw [HF.out]; rfl, below_setRow HB1.out (by omega)⟩
set_option maxHeartbeats 1000000 in
theorem find_out (S : Nat → Prop) (vf vt vn vs : Value) (s : SchemaL) (f : Int) (w : World) (h : SchemaAt w S vf vt vn vs s) (hc : checkS s = 0) (hf : f < 0 ∨ (s.fields.length : Int) ≤ f) :
    Calls Tryz.prog 44 #[.agg #[vf, vt, vn, vs], .int .i64 f] w fun e w' => e = .returned (findV (findN s f)) ∧ Below w.heap.size w w' := by
  obtain ⟨af, cf, rfl⟩ := h.1.slice
  have HS := Lib.hid h.any
  have HF := Lib.hid (show findN s f = (0, 2) by unfold findN; rw [if_pos hc, if_neg (by omega)])
  have HC := Lib.hid hc
  clear h hc
  have hf' : f < 0 ∨ (0 ≤ f ∧ (s.fields.length : Int) ≤ f) := by omega
  clear hf
  rcases hf' with hf | ⟨hf0, hf⟩
  all_goals
    go_enter Tryz.func44, Tryz.ntmps44
    go_wp2_with fail
    refine (scheck_any Any1 _ vt vn vs s _ (HS.out.below (((Below.refl _ _).alloc (Nat.le_refl _) _).alloc (by simp) _))).mono ?_
    rw [HC.out]
    rintro e w1 ⟨rfl, hb1⟩
    have X0 : w1.heap[w.heap.size]? = some (.cells #[.slice af s.fields.length cf, vt, vn, vs] 33 (0, 0)) := blk_below hb1 (by simp; omega) (heap_alloc2_old _ _ _)
    have X1 : w1.heap[w.heap.size + 1]? = some (.cells kind0 79 (0, 0)) := blk_below hb1 (by simp) (heap_alloc2_new _ _ _)
    have HB1 := Lib.hid ((((Below.refl w.heap.size w).alloc (Nat.le_refl _) (.cells #[.slice af s.fields.length cf, vt, vn, vs] 33)).alloc (by simp) (.cells kind0 79)).trans (hb1.mono (by simp; omega)))
    have HX1 := Lib.hid X1
    have z1 := lt_of_blk X1; have z0 := lt_of_blk X0
    obtain ⟨p0, p1, p2, p3⟩ := cells4 X0
    clear hb1 X1 X0
    go_wp2_with (refine wpList_store_row rfl 79 (.tmp 4) (.tmp 22) rfl (w.heap.size + 1) kind0 rfl rfl 79 kind0 HX1.out (by kernel_rfl) (by kernel_rfl) (by kernel_rfl) ?_)
    exact bodyPost_row2 rfl rfl (heap_setRow HX1.out) Tryz.underlying79 rfl (by kernel_rfl) ⟨by rw [HF.out]; rfl, below_setRow HB1.out (by omega)⟩
theorem setRow_other {w : World} {g k : Nat} {cs : Array Value} (h : k ≠ g) : (w.setRow g cs).heap[k]? = w.heap[k]? := by
  show (w.heap.modify g _)[k]? = _
  rw [Array.getElem?_modify, if_neg (fun e => h e.symm)]
theorem index_kind (kd : Int) (h1 : 1 ≤ kd) (h4 : kd ≤ 4) : ∀ w, (Instr.index 102 (.agg kindsV) (.int .i64 kd)).run Tryz.prog w = .ok (.agg (kindAt kd)) w := by
  obtain rfl | rfl | rfl | rfl : kd = 1 ∨ kd = 2 ∨ kd = 3 ∨ kd = 4 := by omega
  · exact fun w => by kernel_rfl
  · exact fun w => by kernel_rfl
  · exact fun w => by kernel_rfl
  · exact fun w => by kernel_rfl
theorem kindAt_one (kd : Int) : (kindAt kd).all (·.oneCell') = true ∧ (kindAt kd).size = 4 := by
  unfold kindAt
  repeat' split
  all_goals exact ⟨by kernel_rfl, by kernel_rfl⟩
set_option maxHeartbeats 4000000 in
theorem find_in' (S : Nat → Prop) (vf vt vn vs : Value) (s : SchemaL) (f : Nat) (w : World) (h : SchemaAt w S vf vt vn vs s) (hc : checkS s = 0) (hf : f < s.fields.length) :
    Calls Tryz.prog 44 #[.agg #[vf, vt, vn, vs], .int .i64 f] w fun e w' => e = .returned (findV (findN s f)) ∧ Below w.heap.size w w' := by
  obtain ⟨af, cf, rfl⟩ := h.1.slice
  obtain ⟨⟨g1, g2⟩, g3, g4⟩ := check_fields hc
  obtain ⟨b, off, rfl, _, hb, hcc⟩ := vec_cell2 h.1 (by omega)
  have hc1 := hcc f hf 1 _ rfl
  obtain ⟨k1, k4⟩ := field_kind g3 f hf
  have HF' := Lib.hid (show findN s f = ((s.fields.getD f default).2, 0) by unfold findN; rw [if_pos hc, if_pos (by omega)]; simp)
  obtain ⟨kd, hkd⟩ : ∃ kd, (s.fields.getD f default).2 = kd := ⟨_, rfl⟩
  rw [hkd] at HF' hc1 k1 k4
  have HF := HF'
  have HS := Lib.hid h.any
  have HC := Lib.hid hc
  have hix := index_kind kd k1 k4
  obtain ⟨ko, ks⟩ := kindAt_one kd
  have KO := Lib.hid ko; have KS := Lib.hid ks
  have HIX := Lib.hid hix
  have HC1 := Lib.hid hc1
  clear h hc g3 g4 hcc hkd HF' ko ks hix hc1
  have hlt' : (f : Int) < (s.fields.length : Int) := by omega
  go_enter Tryz.func44, Tryz.ntmps44
  go_wp2_with fail
  refine (scheck_any Any1 _ vt vn vs s _ (HS.out.below (((Below.refl _ _).alloc (Nat.le_refl _) _).alloc (by simp) _))).mono ?_
  rw [HC.out]
  rintro e w1 ⟨rfl, hb1⟩
  have X0 : w1.heap[w.heap.size]? = some (.cells #[.slice (some ⟨b, off, none⟩) s.fields.length cf, vt, vn, vs] 33 (0, 0)) := blk_below hb1 (by simp; omega) (heap_alloc2_old _ _ _)
  have X1 : w1.heap[w.heap.size + 1]? = some (.cells kind0 79 (0, 0)) := blk_below hb1 (by simp) (heap_alloc2_new _ _ _)
  have HB1 := Lib.hid ((((Below.refl w.heap.size w).alloc (Nat.le_refl _) (.cells #[.slice (some ⟨b, off, none⟩) s.fields.length cf, vt, vn, vs] 33)).alloc (by simp) (.cells kind0 79)).trans (hb1.mono (by simp; omega)))
  have c1 : w1.cell? ⟨b, off + f * 2 + 1, none⟩ = some (.int .i64 kd) := (HB1.out.cell (p := ⟨b, off + f * 2 + 1, none⟩) hb).trans HC1.out
  have HX1 := Lib.hid X1
  have z1 := lt_of_blk X1; have z0 := lt_of_blk X0
  have zb : b < w1.heap.size := Nat.lt_of_lt_of_le hb HB1.out.size
  obtain ⟨p0, p1, p2, p3⟩ := cells4 X0
  clear hb1 X1 X0
  go_wp2_with fail
  refine wp_region_noPanic ?_
  refine wp_region_held_drew (S := (fun w' => w'.cell? ⟨w.heap.size, 0, none⟩ = some (.slice (some ⟨b, off, none⟩) s.fields.length cf) ∧ w'.cell? ⟨b, off + f * 2 + 1, none⟩ = some (.int .i64 kd))) (by kernel_rfl) (⟨p0, c1⟩) (fun hHeld => ?_)
  refine wpAnyH_take (i := 1) (v := ?_) rfl (by kernel_rfl) (by kernel_rfl) (by kernel_rfl) (fun _ _ _ h => h) (Or.inl ⟨by rfl, ?_⟩) (by assumption) ?_
  rotate_left 1
  · (intro wS hSw; (try dsimp only at hSw); go_simp; try with_reducible rfl)
  try simp only [List.getElem_toArray, List.getElem_cons_zero, List.getElem_cons_succ, Act.put, List.setIfInBounds_toArray, List.set_cons_zero, List.set_cons_succ]
  refine wpAnyH_take (i := 2) (v := ?_) rfl (by kernel_rfl) (by kernel_rfl) (by kernel_rfl) (fun _ _ _ h => h) (Or.inl ⟨by rfl, ?_⟩) (by assumption) ?_
  rotate_left 1
  · (intro wS hSw; (try dsimp only at hSw); go_simp; try with_reducible rfl)
  try simp only [List.getElem_toArray, List.getElem_cons_zero, List.getElem_cons_succ, Act.put, List.setIfInBounds_toArray, List.set_cons_zero, List.set_cons_succ]
  refine wpAnyH_take (i := 3) (v := ?_) rfl (by kernel_rfl) (by kernel_rfl) (by kernel_rfl) (fun _ _ _ h => h) (Or.inl ⟨by rfl, ?_⟩) (by assumption) ?_
  rotate_left 1
  · (intro wS hSw; (try dsimp only at hSw); go_simp; try with_reducible rfl)
  try simp only [List.getElem_toArray, List.getElem_cons_zero, List.getElem_cons_succ, Act.put, List.setIfInBounds_toArray, List.set_cons_zero, List.set_cons_succ]
  refine wpAnyH_take (i := 4) (v := ?_) rfl (by kernel_rfl) (by kernel_rfl) (by kernel_rfl) (fun _ _ _ h => h) (Or.inl ⟨by rfl, ?_⟩) (by assumption) ?_
  rotate_left 1
  · (intro wS hSw; (try dsimp only at hSw); go_simp; try with_reducible rfl)
  try simp only [List.getElem_toArray, List.getElem_cons_zero, List.getElem_cons_succ, Act.put, List.setIfInBounds_toArray, List.set_cons_zero, List.set_cons_succ]
  refine wpAnyH_take (i := 5) (v := ?_) rfl (by kernel_rfl) (by kernel_rfl) (by kernel_rfl) (fun _ _ _ h => h) (Or.inl ⟨by rfl, ?_⟩) (by assumption) ?_
  rotate_left 1
  · (intro wS hSw; (try dsimp only at hSw); go_simp; try with_reducible rfl)
  try simp only [List.getElem_toArray, List.getElem_cons_zero, List.getElem_cons_succ, Act.put, List.setIfInBounds_toArray, List.set_cons_zero, List.set_cons_succ]
  refine wpAnyH_take (i := 6) (v := ?_) rfl (by kernel_rfl) (by kernel_rfl) (by kernel_rfl) (fun _ _ _ h => h) (Or.inl ⟨by rfl, ?_⟩) (by assumption) ?_
  rotate_left 1
  · (intro wS hSw; (try dsimp only at hSw); go_simp; try with_reducible rfl)
  try simp only [List.getElem_toArray, List.getElem_cons_zero, List.getElem_cons_succ, Act.put, List.setIfInBounds_toArray, List.set_cons_zero, List.set_cons_succ]
  refine wpAnyH_ready (rs := [0]) (by kernel_rfl) (by simp) ?_
  refine AllReadyH.cons rfl (fun K hK => ?_) AllReadyH.nil
  go_simp
  refine (kinds_any _).mono ?_; rintro e w2 ⟨rfl, hb2⟩; have p0a := (hb2.cell (p := ⟨w.heap.size, 0, none⟩) z0).trans p0; have c1a := (hb2.cell (p := ⟨b, off + f * 2 + 1, none⟩) zb).trans c1; have HB2 := Lib.hid (HB1.out.drew.trans (hb2.mono HB1.out.size)); have HX2 := Lib.hid (blk_below hb2 z1 HX1.out)
  refine hK.out _ _ (⟨p0a, c1a⟩) (fun hHeld => ?_)
  clear hK K
  try simp only [List.getElem_toArray, List.getElem_cons_zero, List.getElem_cons_succ, Act.put, List.setIfInBounds_toArray, List.set_cons_zero, List.set_cons_succ]
  have hix := HIX.out
  refine wpAnyH_take (i := 7) (v := ?_) rfl (by kernel_rfl) (by kernel_rfl) (by kernel_rfl) (fun _ _ _ h => h) (Or.inl ⟨by rfl, ?_⟩) (by assumption) ?_
  rotate_left 1
  · (intro wS hSw; (try dsimp only at hSw); go_simp; try with_reducible rfl)
  try simp only [List.getElem_toArray, List.getElem_cons_zero, List.getElem_cons_succ, Act.put, List.setIfInBounds_toArray, List.set_cons_zero, List.set_cons_succ]
  refine wpAnyH_ready (rs := [8]) (by kernel_rfl) (by simp) ?_
  refine AllReadyH.cons rfl (fun K hK => ?_) AllReadyH.nil
  refine wp_store_row 79 (.tmp 4) (.tmp 30) rfl (w.heap.size + 1) (kindAt kd) rfl rfl 79 kind0 HX2.out (by rw [KS.out]; kernel_rfl) (by rw [KS.out]; rfl) KO.out ?_
  have p0b : (w2.setRow (w.heap.size + 1) (kindAt kd)).cell? ⟨w.heap.size, 0, none⟩ = some (.slice (some ⟨b, off, none⟩) s.fields.length cf) := (World.cell?_of_block (w := w2) (a := ⟨w.heap.size, 0, none⟩) (setRow_other (show w.heap.size ≠ w.heap.size + 1 by omega))).trans p0a
  have c1b : (w2.setRow (w.heap.size + 1) (kindAt kd)).cell? ⟨b, off + f * 2 + 1, none⟩ = some (.int .i64 kd) := (World.cell?_of_block (w := w2) (a := ⟨b, off + f * 2 + 1, none⟩) (setRow_other (show b ≠ w.heap.size + 1 by omega))).trans c1a
  refine hK.out _ _ ⟨p0b, c1b⟩ (fun hHeld => ?_)
  clear hK K
  try simp only [List.getElem_toArray, List.getElem_cons_zero, List.getElem_cons_succ, Act.put, List.setIfInBounds_toArray, List.set_cons_zero, List.set_cons_succ]
  refine wpAnyH_take (i := 9) (v := ?_) rfl (by kernel_rfl) (by kernel_rfl) (by kernel_rfl) (fun _ _ _ h => h) (Or.inl ⟨by rfl, ?_⟩) (by assumption) ?_
  rotate_left 1
  · (intro wS hSw; (try dsimp only at hSw); go_simp; try with_reducible rfl)
  try simp only [List.getElem_toArray, List.getElem_cons_zero, List.getElem_cons_succ, Act.put, List.setIfInBounds_toArray, List.set_cons_zero, List.set_cons_succ]
  refine wpAnyH_done (by kernel_rfl) ?_ _
  refine NoPanic.normal ?_
  go_wp2_with fail
  exact bodyPost_row2 rfl rfl (heap_setRow HX2.out) Tryz.underlying79 rfl (by rw [KS.out]; kernel_rfl) ⟨by rw [HF.out]; rfl, below_setRow HB2.out (by omega)⟩
theorem find_s (S : Nat → Prop) (vf vt vn vs : Value) (s : SchemaL) (f : Int) (w : World) (h : SchemaAt w S vf vt vn vs s) :
    Calls Tryz.prog 44 #[.agg #[vf, vt, vn, vs], .int .i64 f] w fun e w' => e = .returned (findV (findN s f)) ∧ Below w.heap.size w w' := by
  by_cases hc : checkS s = 0
  · by_cases hf : 0 ≤ f ∧ f < s.fields.length
    · obtain ⟨n, rfl⟩ := Int.eq_ofNat_of_zero_le hf.1
      exact find_in' S vf vt vn vs s n w h hc (by omega)
    · exact find_out S vf vt vn vs s f w h hc (by omega)
  · exact find_bad S vf vt vn vs s f w h hc
end Go.Proofs.YtfgoiojmbphmnaaGreatDoor
end
section
/- schema: Normalise, Normal. -/
set_option linter.unusedSimpArgs false
set_option linter.unusedVariables false
set_option maxRecDepth 100000
namespace Go.Proofs.YtfgoiojmbphmnaaGreatDoor
open Go.RowKit Cal
attribute [local go_sem] toList_mk mk_size
def normK (k : Int) (r : RulesL) (l : List UInt8) : List UInt8 × Int := if k = 1 then nameN r l else if k = 2 then dayN l else if k = 3 then codeN l else addrN r l
/-- the normal form of a raw value, and the error -/
def valueN (s : SchemaL) (f : Int) (l : List UInt8) : List UInt8 × Int := if (findN s f).2 = 0 then (if l = [] then ([], 0) else normK (findN s f).1 s.rules l) else ([], (findN s f).2)
def ownK (k : Int) (r : RulesL) (l : List UInt8) : Bool := if k = 1 then isOwn (nameN r l) l else if k = 2 then readB l else if k = 3 then isOwn (codeN l) l else isOwn (addrN r l) l
/-- is a value in normal form -/
def normalB (s : SchemaL) (f : Int) (l : List UInt8) : Bool := if (findN s f).2 = 0 then (if l = [] then true else ownK (findN s f).1 s.rules l) else false
theorem findN_kind {s : SchemaL} {f : Int} (h : (findN s f).2 = 0) : (findN s f).1 = 1 ∨ (findN s f).1 = 2 ∨ (findN s f).1 = 3 ∨ (findN s f).1 = 4 := by
  by_cases hc : checkS s = 0
  · unfold findN at h ⊢
    rw [if_pos hc] at h ⊢
    by_cases hf : 0 ≤ f ∧ f < s.fields.length
    · rw [if_pos hf]
      have := field_kind (check_fields hc).2.1 f.toNat (by omega)
      dsimp only
      omega
    · rw [if_neg hf] at h
      simp at h
  · unfold findN at h
    rw [if_neg hc] at h
    exact absurd h hc
set_option maxHeartbeats 4000000 in
theorem value_any (S : Nat → Prop) (vf vt vn vs : Value) (s : SchemaL) (f : Int) (x : ByteArray) (w : World) (h : SchemaAt w S vf vt vn vs s) (hx : x.size ≤ 9223372036854775000) :
    Calls Tryz.prog 13 #[.agg #[vf, vt, vn, vs], .int .i64 f, .string x] w fun e w' => e = .returned (pairV (valueN s f x.data.toList)) ∧ Below w.heap.size w w' := by
  have HS := Lib.hid h.any
  have HL := Lib.hid (Lib.toList_data x)
  have hfin : ∀ p, valueN s f x.data.toList = p → Ending.returned (pairV p) = .returned (pairV (valueN s f x.data.toList)) := fun p h => by rw [h]
  have HF := Lib.hid hfin
  clear h hfin
  have K := find_s Any1 vf vt vn vs s f (w.alloc (.cells #[vf, vt, vn, vs] 33)) (HS.out.below ((Below.refl _ _).alloc (Nat.le_refl _) _))
  have hkk := findN_kind (s := s) (f := f)
  have hval : valueN s f x.data.toList = if (findN s f).2 = 0 then (if x.data.toList = [] then ([], 0) else normK (findN s f).1 s.rules x.data.toList) else ([], (findN s f).2) := rfl
  obtain ⟨⟨kd, er⟩, hp⟩ : ∃ p, findN s f = p := ⟨_, rfl⟩
  rw [hp] at K hkk hval
  dsimp only at hkk hval
  change Calls _ _ _ _ fun e w' => e = .returned (.tuple #[.agg (kindAt kd), .int .i64 er]) ∧ _ at K
  have HK := Lib.hid K
  have HVal := Lib.hid hval
  obtain ⟨ko, ks⟩ := kindAt_one kd
  have KO := Lib.hid ko; have KS := Lib.hid ks
  clear K hp hval ko ks
  by_cases he : er = 0
  · subst he
    have hkd := hkk rfl
    clear hkk
    by_cases hx0 : x.data.toList = []
    · have e1 : x.toList = [] := by rw [HL.out, hx0]
      have HE := Lib.hid (show valueN s f x.data.toList = ([], 0) by rw [HVal.out, if_pos rfl, if_pos hx0])
      clear hx0 hkd
      go_enter Tryz.func13, Tryz.ntmps13
      go_wp2_with fail
      refine HK.out.mono ?_
      rintro e w1 ⟨rfl, hb1⟩
      have HB1 := Lib.hid (((Below.refl w.heap.size w).alloc (Nat.le_refl _) (.cells #[vf, vt, vn, vs] 33)).trans (hb1.mono (by simp)))
      have HX1 := Lib.hid (blk_below (b := w.heap.size) (o := .cells #[vf, vt, vn, vs] 33 (0, 0)) hb1 (by simp) (blk_new rfl))
      clear hb1 HK
      go_wp2_with (refine wpList_store_row rfl 79 (.tmp 8) (.tmp 14) rfl w1.heap.size (kindAt kd) rfl rfl 79 kind0 (heap_alloc_new w1 _) (by rw [KS.out]; kernel_rfl) (by rw [KS.out]; rfl) KO.out ?_; rw [World.setRow_alloc_new])
      go_ret2
      exact ⟨HF.out _ HE.out, HB1.out.alloc HB1.out.size _⟩
    · have e1 : (x.toList == []) = false := by rw [HL.out]; simpa using hx0
      have e2 : x.toList.isEmpty = false := by rw [HL.out]; simpa using hx0
      have HE := Lib.hid (show valueN s f x.data.toList = normK kd s.rules x.data.toList by rw [HVal.out, if_pos rfl, if_neg hx0])
      clear hx0
      rcases hkd with rfl | rfl | rfl | rfl
      · have HE2 := Lib.hid (show valueN s f x.data.toList = nameN s.rules x.data.toList from HE.out)
        go_enter Tryz.func13, Tryz.ntmps13
        go_wp2_with fail
        refine HK.out.mono ?_
        rintro e w1 ⟨rfl, hb1⟩
        have HB1 := Lib.hid (((Below.refl w.heap.size w).alloc (Nat.le_refl _) (.cells #[vf, vt, vn, vs] 33)).trans (hb1.mono (by simp)))
        have HX1 := Lib.hid (blk_below (b := w.heap.size) (o := .cells #[vf, vt, vn, vs] 33 (0, 0)) hb1 (by simp) (blk_new rfl))
        clear hb1 HK
        have cf : (w1.alloc (.cells (kindAt 1) 79)).cell? ⟨w1.heap.size, 1, none⟩ = some (fnV 103) := by rw [cell_of_row _ _ _ _ _ _ (heap_alloc_new w1 _)]; rfl
        have z0 := lt_of_blk HX1.out
        obtain ⟨p0, p1, p2, p3⟩ := cells4 HX1.out
        go_wp2_with (refine wpList_store_row rfl 79 (.tmp 8) (.tmp 14) rfl w1.heap.size (kindAt 1) rfl rfl 79 kind0 (heap_alloc_new w1 _) (by rw [KS.out]; kernel_rfl) (by rw [KS.out]; rfl) KO.out ?_; rw [World.setRow_alloc_new])
        have HB2 := HB1.out.alloc HB1.out.size (.cells (kindAt 1) 79)
        have HB2' := Lib.hid HB2
        refine (norm_any Any1 vt vn vs s.rules x _ (HS.out.2.below HB2) hx).mono ?_
        clear HB2
        rw [← HE2.out]
        obtain ⟨⟨pl, pe⟩, hpp⟩ : ∃ p, valueN s f x.data.toList = p := ⟨_, rfl⟩
        rw [hpp]
        have HPP := Lib.hid hpp
        unfold pairV
        rintro e w3 ⟨rfl, hb3⟩
        have HB3 := Lib.hid (HB2'.out.trans (hb3.mono HB2'.out.size))
        clear hb3 hpp HE HE2 cf p0 p1 p2 p3
        go_wp2_with fail
        go_ret2
        exact ⟨HF.out _ HPP.out, HB3.out⟩
      · have HE2 := Lib.hid (show valueN s f x.data.toList = dayN x.data.toList from HE.out)
        go_enter Tryz.func13, Tryz.ntmps13
        go_wp2_with fail
        refine HK.out.mono ?_
        rintro e w1 ⟨rfl, hb1⟩
        have HB1 := Lib.hid (((Below.refl w.heap.size w).alloc (Nat.le_refl _) (.cells #[vf, vt, vn, vs] 33)).trans (hb1.mono (by simp)))
        have HX1 := Lib.hid (blk_below (b := w.heap.size) (o := .cells #[vf, vt, vn, vs] 33 (0, 0)) hb1 (by simp) (blk_new rfl))
        clear hb1 HK
        have cf : (w1.alloc (.cells (kindAt 2) 79)).cell? ⟨w1.heap.size, 1, none⟩ = some (fnV 106) := by rw [cell_of_row _ _ _ _ _ _ (heap_alloc_new w1 _)]; rfl
        have z0 := lt_of_blk HX1.out
        obtain ⟨p0, p1, p2, p3⟩ := cells4 HX1.out
        go_wp2_with (refine wpList_store_row rfl 79 (.tmp 8) (.tmp 14) rfl w1.heap.size (kindAt 2) rfl rfl 79 kind0 (heap_alloc_new w1 _) (by rw [KS.out]; kernel_rfl) (by rw [KS.out]; rfl) KO.out ?_; rw [World.setRow_alloc_new])
        have HB2 := HB1.out.alloc HB1.out.size (.cells (kindAt 2) 79)
        have HB2' := Lib.hid HB2
        refine (day_any vt vn vs x _).mono ?_
        clear HB2
        rw [← HE2.out]
        obtain ⟨⟨pl, pe⟩, hpp⟩ : ∃ p, valueN s f x.data.toList = p := ⟨_, rfl⟩
        rw [hpp]
        have HPP := Lib.hid hpp
        unfold pairV
        rintro e w3 ⟨rfl, hb3⟩
        have HB3 := Lib.hid (HB2'.out.trans (hb3.mono HB2'.out.size))
        clear hb3 hpp HE HE2 cf p0 p1 p2 p3
        go_wp2_with fail
        go_ret2
        exact ⟨HF.out _ HPP.out, HB3.out⟩
      · have HE2 := Lib.hid (show valueN s f x.data.toList = codeN x.data.toList from HE.out)
        go_enter Tryz.func13, Tryz.ntmps13
        go_wp2_with fail
        refine HK.out.mono ?_
        rintro e w1 ⟨rfl, hb1⟩
        have HB1 := Lib.hid (((Below.refl w.heap.size w).alloc (Nat.le_refl _) (.cells #[vf, vt, vn, vs] 33)).trans (hb1.mono (by simp)))
        have HX1 := Lib.hid (blk_below (b := w.heap.size) (o := .cells #[vf, vt, vn, vs] 33 (0, 0)) hb1 (by simp) (blk_new rfl))
        clear hb1 HK
        have cf : (w1.alloc (.cells (kindAt 3) 79)).cell? ⟨w1.heap.size, 1, none⟩ = some (fnV 110) := by rw [cell_of_row _ _ _ _ _ _ (heap_alloc_new w1 _)]; rfl
        have z0 := lt_of_blk HX1.out
        obtain ⟨p0, p1, p2, p3⟩ := cells4 HX1.out
        go_wp2_with (refine wpList_store_row rfl 79 (.tmp 8) (.tmp 14) rfl w1.heap.size (kindAt 3) rfl rfl 79 kind0 (heap_alloc_new w1 _) (by rw [KS.out]; kernel_rfl) (by rw [KS.out]; rfl) KO.out ?_; rw [World.setRow_alloc_new])
        have HB2 := HB1.out.alloc HB1.out.size (.cells (kindAt 3) 79)
        have HB2' := Lib.hid HB2
        refine (kind2_any vt vn vs x _ hx).mono ?_
        clear HB2
        rw [← HE2.out]
        obtain ⟨⟨pl, pe⟩, hpp⟩ : ∃ p, valueN s f x.data.toList = p := ⟨_, rfl⟩
        rw [hpp]
        have HPP := Lib.hid hpp
        unfold pairV
        rintro e w3 ⟨rfl, hb3⟩
        have HB3 := Lib.hid (HB2'.out.trans (hb3.mono HB2'.out.size))
        clear hb3 hpp HE HE2 cf p0 p1 p2 p3
        go_wp2_with fail
        go_ret2
        exact ⟨HF.out _ HPP.out, HB3.out⟩
      · have HE2 := Lib.hid (show valueN s f x.data.toList = addrN s.rules x.data.toList from HE.out)
        go_enter Tryz.func13, Tryz.ntmps13
        go_wp2_with fail
        refine HK.out.mono ?_
        rintro e w1 ⟨rfl, hb1⟩
        have HB1 := Lib.hid (((Below.refl w.heap.size w).alloc (Nat.le_refl _) (.cells #[vf, vt, vn, vs] 33)).trans (hb1.mono (by simp)))
        have HX1 := Lib.hid (blk_below (b := w.heap.size) (o := .cells #[vf, vt, vn, vs] 33 (0, 0)) hb1 (by simp) (blk_new rfl))
        clear hb1 HK
        have cf : (w1.alloc (.cells (kindAt 4) 79)).cell? ⟨w1.heap.size, 1, none⟩ = some (fnV 115) := by rw [cell_of_row _ _ _ _ _ _ (heap_alloc_new w1 _)]; rfl
        have z0 := lt_of_blk HX1.out
        obtain ⟨p0, p1, p2, p3⟩ := cells4 HX1.out
        go_wp2_with (refine wpList_store_row rfl 79 (.tmp 8) (.tmp 14) rfl w1.heap.size (kindAt 4) rfl rfl 79 kind0 (heap_alloc_new w1 _) (by rw [KS.out]; kernel_rfl) (by rw [KS.out]; rfl) KO.out ?_; rw [World.setRow_alloc_new])
        have HB2 := HB1.out.alloc HB1.out.size (.cells (kindAt 4) 79)
        have HB2' := Lib.hid HB2
        refine (addr_any Any1 vt vn vs s.rules x _ (HS.out.2.below HB2) hx).mono ?_
        clear HB2
        rw [← HE2.out]
        obtain ⟨⟨pl, pe⟩, hpp⟩ : ∃ p, valueN s f x.data.toList = p := ⟨_, rfl⟩
        rw [hpp]
        have HPP := Lib.hid hpp
        unfold pairV
        rintro e w3 ⟨rfl, hb3⟩
        have HB3 := Lib.hid (HB2'.out.trans (hb3.mono HB2'.out.size))
        clear hb3 hpp HE HE2 cf p0 p1 p2 p3
        go_wp2_with fail
        go_ret2
        exact ⟨HF.out _ HPP.out, HB3.out⟩
  · have hne : (er != 0) = true := by simpa using he
    have HE := Lib.hid (show valueN s f x.data.toList = ([], er) by rw [HVal.out, if_neg he])
    clear he hkk
    go_enter Tryz.func13, Tryz.ntmps13
    go_wp2_with fail
    refine HK.out.mono ?_
    rintro e w1 ⟨rfl, hb1⟩
    have HB1 := Lib.hid (((Below.refl w.heap.size w).alloc (Nat.le_refl _) (.cells #[vf, vt, vn, vs] 33)).trans (hb1.mono (by simp)))
    have HX1 := Lib.hid (blk_below (b := w.heap.size) (o := .cells #[vf, vt, vn, vs] 33 (0, 0)) hb1 (by simp) (blk_new rfl))
    clear hb1 HK
    go_wp2_with (refine wpList_store_row rfl 79 (.tmp 8) (.tmp 14) rfl w1.heap.size (kindAt kd) rfl rfl 79 kind0 (heap_alloc_new w1 _) (by rw [KS.out]; kernel_rfl) (by rw [KS.out]; rfl) KO.out ?_; rw [World.setRow_alloc_new])
    go_ret2
    exact ⟨HF.out _ HE.out, HB1.out.alloc HB1.out.size _⟩
end Go.Proofs.YtfgoiojmbphmnaaGreatDoor
end
section
/- schema: Normal. -/
set_option linter.unusedSimpArgs false
set_option linter.unusedVariables false
set_option maxRecDepth 100000
namespace Go.Proofs.YtfgoiojmbphmnaaGreatDoor
open Go.RowKit Cal
attribute [local go_sem] toList_mk mk_size
set_option maxHeartbeats 4000000 in
theorem normal_s (S : Nat → Prop) (vf vt vn vs : Value) (s : SchemaL) (f : Int) (x : ByteArray) (w : World) (h : SchemaAt w S vf vt vn vs s) (hx : x.size ≤ 9223372036854775000) :
    Calls Tryz.prog 17 #[.agg #[vf, vt, vn, vs], .int .i64 f, .string x] w fun e w' => e = .returned (.bool (normalB s f x.data.toList)) ∧ Below w.heap.size w w' := by
  have HS := Lib.hid h.any
  have HL := Lib.hid (Lib.toList_data x)
  have hfin : ∀ p, normalB s f x.data.toList = p → Ending.returned (.bool p) = .returned (.bool (normalB s f x.data.toList)) := fun p h => by rw [h]
  have HF := Lib.hid hfin
  clear h hfin
  have K := find_s Any1 vf vt vn vs s f (w.alloc (.cells #[vf, vt, vn, vs] 33)) (HS.out.below ((Below.refl _ _).alloc (Nat.le_refl _) _))
  have hkk := findN_kind (s := s) (f := f)
  have hval : normalB s f x.data.toList = if (findN s f).2 = 0 then (if x.data.toList = [] then true else ownK (findN s f).1 s.rules x.data.toList) else false := rfl
  obtain ⟨⟨kd, er⟩, hp⟩ : ∃ p, findN s f = p := ⟨_, rfl⟩
  rw [hp] at K hkk hval
  dsimp only at hkk hval
  change Calls _ _ _ _ fun e w' => e = .returned (.tuple #[.agg (kindAt kd), .int .i64 er]) ∧ _ at K
  have HK := Lib.hid K
  have HVal := Lib.hid hval
  obtain ⟨ko, ks⟩ := kindAt_one kd
  have KO := Lib.hid ko; have KS := Lib.hid ks
  clear K hp hval ko ks
  by_cases he : er = 0
  · subst he
    have hkd := hkk rfl
    clear hkk
    by_cases hx0 : x.data.toList = []
    · have e1 : x.toList = [] := by rw [HL.out, hx0]
      have HE := Lib.hid (show normalB s f x.data.toList = true by rw [HVal.out, if_pos rfl, if_pos hx0])
      clear hx0 hkd
      go_enter Tryz.func17, Tryz.ntmps17
      go_wp2_with fail
      refine HK.out.mono ?_
      rintro e w1 ⟨rfl, hb1⟩
      have HB1 := Lib.hid (((Below.refl w.heap.size w).alloc (Nat.le_refl _) (.cells #[vf, vt, vn, vs] 33)).trans (hb1.mono (by simp)))
      have HX1 := Lib.hid (blk_below (b := w.heap.size) (o := .cells #[vf, vt, vn, vs] 33 (0, 0)) hb1 (by simp) (blk_new rfl))
      clear hb1 HK
      go_wp2_with (refine wpList_store_row rfl 79 (.tmp 7) (.tmp 13) rfl w1.heap.size (kindAt kd) rfl rfl 79 kind0 (heap_alloc_new w1 _) (by rw [KS.out]; kernel_rfl) (by rw [KS.out]; rfl) KO.out ?_; rw [World.setRow_alloc_new])
      go_ret
      exact ⟨HF.out _ HE.out, HB1.out.alloc HB1.out.size _⟩
    · have e1 : (x.toList == []) = false := by rw [HL.out]; simpa using hx0
      have e2 : x.toList.isEmpty = false := by rw [HL.out]; simpa using hx0
      have HE := Lib.hid (show normalB s f x.data.toList = ownK kd s.rules x.data.toList by rw [HVal.out, if_pos rfl, if_neg hx0])
      clear hx0
      rcases hkd with rfl | rfl | rfl | rfl
      · have HE2 := Lib.hid (show normalB s f x.data.toList = isOwn (nameN s.rules x.data.toList) x.data.toList from HE.out)
        go_enter Tryz.func17, Tryz.ntmps17
        go_wp2_with fail
        refine HK.out.mono ?_
        rintro e w1 ⟨rfl, hb1⟩
        have HB1 := Lib.hid (((Below.refl w.heap.size w).alloc (Nat.le_refl _) (.cells #[vf, vt, vn, vs] 33)).trans (hb1.mono (by simp)))
        have HX1 := Lib.hid (blk_below (b := w.heap.size) (o := .cells #[vf, vt, vn, vs] 33 (0, 0)) hb1 (by simp) (blk_new rfl))
        clear hb1 HK
        have cf : (w1.alloc (.cells (kindAt 1) 79)).cell? ⟨w1.heap.size, 2, none⟩ = some (fnV 104) := by rw [cell_of_row _ _ _ _ _ _ (heap_alloc_new w1 _)]; rfl
        have z0 := lt_of_blk HX1.out
        obtain ⟨p0, p1, p2, p3⟩ := cells4 HX1.out
        go_wp2_with (refine wpList_store_row rfl 79 (.tmp 7) (.tmp 13) rfl w1.heap.size (kindAt 1) rfl rfl 79 kind0 (heap_alloc_new w1 _) (by rw [KS.out]; kernel_rfl) (by rw [KS.out]; rfl) KO.out ?_; rw [World.setRow_alloc_new])
        have HB2 := HB1.out.alloc HB1.out.size (.cells (kindAt 1) 79)
        have HB2' := Lib.hid HB2
        refine (normal_any Any1 vt vn vs s.rules x _ (HS.out.2.below HB2) hx).mono ?_
        clear HB2
        rw [← HE2.out]
        obtain ⟨pb, hpp⟩ : ∃ p, normalB s f x.data.toList = p := ⟨_, rfl⟩
        rw [hpp]
        have HPP := Lib.hid hpp
        rintro e w3 ⟨rfl, hb3⟩
        have HB3 := Lib.hid (HB2'.out.trans (hb3.mono HB2'.out.size))
        clear hb3 hpp HE HE2 cf p0 p1 p2 p3
        go_wp2_with fail
        go_ret
        exact ⟨HF.out _ HPP.out, HB3.out⟩
      · have HE2 := Lib.hid (show normalB s f x.data.toList = readB x.data.toList from HE.out)
        go_enter Tryz.func17, Tryz.ntmps17
        go_wp2_with fail
        refine HK.out.mono ?_
        rintro e w1 ⟨rfl, hb1⟩
        have HB1 := Lib.hid (((Below.refl w.heap.size w).alloc (Nat.le_refl _) (.cells #[vf, vt, vn, vs] 33)).trans (hb1.mono (by simp)))
        have HX1 := Lib.hid (blk_below (b := w.heap.size) (o := .cells #[vf, vt, vn, vs] 33 (0, 0)) hb1 (by simp) (blk_new rfl))
        clear hb1 HK
        have cf : (w1.alloc (.cells (kindAt 2) 79)).cell? ⟨w1.heap.size, 2, none⟩ = some (fnV 107) := by rw [cell_of_row _ _ _ _ _ _ (heap_alloc_new w1 _)]; rfl
        have z0 := lt_of_blk HX1.out
        obtain ⟨p0, p1, p2, p3⟩ := cells4 HX1.out
        go_wp2_with (refine wpList_store_row rfl 79 (.tmp 7) (.tmp 13) rfl w1.heap.size (kindAt 2) rfl rfl 79 kind0 (heap_alloc_new w1 _) (by rw [KS.out]; kernel_rfl) (by rw [KS.out]; rfl) KO.out ?_; rw [World.setRow_alloc_new])
        have HB2 := HB1.out.alloc HB1.out.size (.cells (kindAt 2) 79)
        have HB2' := Lib.hid HB2
        refine (kind1_any vt vn vs x _).mono ?_
        clear HB2
        rw [← HE2.out]
        obtain ⟨pb, hpp⟩ : ∃ p, normalB s f x.data.toList = p := ⟨_, rfl⟩
        rw [hpp]
        have HPP := Lib.hid hpp
        rintro e w3 ⟨rfl, hb3⟩
        have HB3 := Lib.hid (HB2'.out.trans (hb3.mono HB2'.out.size))
        clear hb3 hpp HE HE2 cf p0 p1 p2 p3
        go_wp2_with fail
        go_ret
        exact ⟨HF.out _ HPP.out, HB3.out⟩
      · have HE2 := Lib.hid (show normalB s f x.data.toList = isOwn (codeN x.data.toList) x.data.toList from HE.out)
        go_enter Tryz.func17, Tryz.ntmps17
        go_wp2_with fail
        refine HK.out.mono ?_
        rintro e w1 ⟨rfl, hb1⟩
        have HB1 := Lib.hid (((Below.refl w.heap.size w).alloc (Nat.le_refl _) (.cells #[vf, vt, vn, vs] 33)).trans (hb1.mono (by simp)))
        have HX1 := Lib.hid (blk_below (b := w.heap.size) (o := .cells #[vf, vt, vn, vs] 33 (0, 0)) hb1 (by simp) (blk_new rfl))
        clear hb1 HK
        have cf : (w1.alloc (.cells (kindAt 3) 79)).cell? ⟨w1.heap.size, 2, none⟩ = some (fnV 112) := by rw [cell_of_row _ _ _ _ _ _ (heap_alloc_new w1 _)]; rfl
        have z0 := lt_of_blk HX1.out
        obtain ⟨p0, p1, p2, p3⟩ := cells4 HX1.out
        go_wp2_with (refine wpList_store_row rfl 79 (.tmp 7) (.tmp 13) rfl w1.heap.size (kindAt 3) rfl rfl 79 kind0 (heap_alloc_new w1 _) (by rw [KS.out]; kernel_rfl) (by rw [KS.out]; rfl) KO.out ?_; rw [World.setRow_alloc_new])
        have HB2 := HB1.out.alloc HB1.out.size (.cells (kindAt 3) 79)
        have HB2' := Lib.hid HB2
        refine (kind3_any vt vn vs x _ hx).mono ?_
        clear HB2
        rw [← HE2.out]
        obtain ⟨pb, hpp⟩ : ∃ p, normalB s f x.data.toList = p := ⟨_, rfl⟩
        rw [hpp]
        have HPP := Lib.hid hpp
        rintro e w3 ⟨rfl, hb3⟩
        have HB3 := Lib.hid (HB2'.out.trans (hb3.mono HB2'.out.size))
        clear hb3 hpp HE HE2 cf p0 p1 p2 p3
        go_wp2_with fail
        go_ret
        exact ⟨HF.out _ HPP.out, HB3.out⟩
      · have HE2 := Lib.hid (show normalB s f x.data.toList = isOwn (addrN s.rules x.data.toList) x.data.toList from HE.out)
        go_enter Tryz.func17, Tryz.ntmps17
        go_wp2_with fail
        refine HK.out.mono ?_
        rintro e w1 ⟨rfl, hb1⟩
        have HB1 := Lib.hid (((Below.refl w.heap.size w).alloc (Nat.le_refl _) (.cells #[vf, vt, vn, vs] 33)).trans (hb1.mono (by simp)))
        have HX1 := Lib.hid (blk_below (b := w.heap.size) (o := .cells #[vf, vt, vn, vs] 33 (0, 0)) hb1 (by simp) (blk_new rfl))
        clear hb1 HK
        have cf : (w1.alloc (.cells (kindAt 4) 79)).cell? ⟨w1.heap.size, 2, none⟩ = some (fnV 116) := by rw [cell_of_row _ _ _ _ _ _ (heap_alloc_new w1 _)]; rfl
        have z0 := lt_of_blk HX1.out
        obtain ⟨p0, p1, p2, p3⟩ := cells4 HX1.out
        go_wp2_with (refine wpList_store_row rfl 79 (.tmp 7) (.tmp 13) rfl w1.heap.size (kindAt 4) rfl rfl 79 kind0 (heap_alloc_new w1 _) (by rw [KS.out]; kernel_rfl) (by rw [KS.out]; rfl) KO.out ?_; rw [World.setRow_alloc_new])
        have HB2 := HB1.out.alloc HB1.out.size (.cells (kindAt 4) 79)
        have HB2' := Lib.hid HB2
        refine (anormal_any Any1 vt vn vs s.rules x _ (HS.out.2.below HB2) hx).mono ?_
        clear HB2
        rw [← HE2.out]
        obtain ⟨pb, hpp⟩ : ∃ p, normalB s f x.data.toList = p := ⟨_, rfl⟩
        rw [hpp]
        have HPP := Lib.hid hpp
        rintro e w3 ⟨rfl, hb3⟩
        have HB3 := Lib.hid (HB2'.out.trans (hb3.mono HB2'.out.size))
        clear hb3 hpp HE HE2 cf p0 p1 p2 p3
        go_wp2_with fail
        go_ret
        exact ⟨HF.out _ HPP.out, HB3.out⟩
  · have hne : (er == 0) = false := by simpa using he
    have HE := Lib.hid (show normalB s f x.data.toList = false by rw [HVal.out, if_neg he])
    clear he hkk
    go_enter Tryz.func17, Tryz.ntmps17
    go_wp2_with fail
    refine HK.out.mono ?_
    rintro e w1 ⟨rfl, hb1⟩
    have HB1 := Lib.hid (((Below.refl w.heap.size w).alloc (Nat.le_refl _) (.cells #[vf, vt, vn, vs] 33)).trans (hb1.mono (by simp)))
    have HX1 := Lib.hid (blk_below (b := w.heap.size) (o := .cells #[vf, vt, vn, vs] 33 (0, 0)) hb1 (by simp) (blk_new rfl))
    clear hb1 HK
    go_wp2_with (refine wpList_store_row rfl 79 (.tmp 7) (.tmp 13) rfl w1.heap.size (kindAt kd) rfl rfl 79 kind0 (heap_alloc_new w1 _) (by rw [KS.out]; kernel_rfl) (by rw [KS.out]; rfl) KO.out ?_; rw [World.setRow_alloc_new])
    go_ret
    exact ⟨HF.out _ HE.out, HB1.out.alloc HB1.out.size _⟩
end Go.Proofs.YtfgoiojmbphmnaaGreatDoor
end
section
/- schema: a line of the text of a schema. -/
set_option linter.unusedSimpArgs false
set_option linter.unusedVariables false
set_option maxRecDepth 100000
namespace Go.Proofs.YtfgoiojmbphmnaaGreatDoor
open Go.RowKit Cal
attribute [local go_sem] toList_mk mk_size
def ren167 : Go.Shelf.Ren := ⟨fun | 167 => 68 | n => Tryz.lays156_ren.f n, Tryz.lays156_ren.t, Tryz.lays156_ren.g⟩
theorem lays167' : Go.Proofs.Lays.n167 Tryz.prog ren167 := { Tryz.lays156 with
  f167 := Tryz.func68.trans (congrArg some (by kernel_rfl))
  f240 := Tryz.func101.trans (congrArg some (by kernel_rfl))
  f276 := Tryz.func132.trans (congrArg some (by kernel_rfl))
  t5 := Tryz.underlying5
  a5 := Tryz.isAgg5
  z5 := Tryz.sizeOf5
  v5 := Tryz.zeroValue5 }
theorem extra167 : Builder.Extra Tryz.prog ren167 := {
  sizeBuilder := by kernel_rfl
  liesBuilder := by kernel_rfl
  t5 := Tryz.underlying5
  a5 := Tryz.isAgg5
  z5 := Tryz.sizeOf5
  v5 := Tryz.zeroValue5
  infoByte := by kernel_rfl
  cellsByte := by kernel_rfl
  sizeByte := by kernel_rfl
  neB5 := by decide }
theorem wbyte_k (B b : Nat) (bs : List Value) (c : Int) (w : World) (h : Lib.IsBuilderF 94 5 B b bs w) (hlen : bs.length + 1 ≤ 140737488355328) (hBw : B ≤ w.heap.size) :
    Calls Tryz.prog 68 #[.pointer (some ⟨b, 0, none⟩), .int .u8 c] w fun e w' => e = .returned .nilIface ∧ (Lib.BuilderAtF 94 5 B b (.pointer (some ⟨b, 0, none⟩)) (bs ++ [.int .u8 c]) w' ∧ Below B w w' ∧ Lib.OthersKept 5 (some b) w w') :=
  Any.Builder_WriteByte_k lays167' extra167 B b bs c w h hlen hBw
theorem wstr_k (B b : Nat) (bs : List Value) (s : ByteArray) (w : World) (h : Lib.IsBuilderF 94 5 B b bs w) (hlen : bs.length + s.size ≤ 140737488355328) (hBw : B ≤ w.heap.size) :
    Calls Tryz.prog 66 #[.pointer (some ⟨b, 0, none⟩), .string s] w fun e w' => e = .returned (.tuple #[.int .i64 s.size, .nilIface]) ∧ (Lib.BuilderAtF 94 5 B b (.pointer (some ⟨b, 0, none⟩)) (bs ++ Lib.strCells s) w' ∧ Below B w w' ∧ Lib.OthersKept 5 (some b) w w') :=
  Any.Builder_WriteString_k { Tryz.lays156 with } Tryz.Builder_Extra_156 B b bs s w h hlen hBw
theorem bstr_k (B b : Nat) (l : List UInt8) (w : World) (h : Lib.IsBuilderF 94 5 B b (Lib.byteCells l) w) (hBw : B ≤ w.heap.size) :
    Calls Tryz.prog 70 #[.pointer (some ⟨b, 0, none⟩)] w fun e w' => e = .returned (.string ⟨l.toArray⟩) ∧ Below B w w' :=
  (Any.Builder_String_any_k Tryz.lays169 Tryz.Builder_Extra_169 B b l w h hBw).mono fun e w' h => ⟨h.1, h.2.2.1⟩
/-- the builder holds these bytes -/
def HoldsB (B b : Nat) (l : List UInt8) (w : World) : Prop := Lib.IsBuilderF 94 5 B b (Lib.byteCells l) w ∧ B ≤ w.heap.size
theorem own_belowF {w w' : World} {B e size n : Nat} {v : Value} {xs : List Value} (h : w.ownsRowF B e size v n xs) (hb : Below w.heap.size w w') : w'.ownsRowF B e size v n xs := by
  refine ⟨h.1, ?_⟩
  rcases h.2 with h0 | ⟨g, cap, cur, fz, hv, hg, hh, rest⟩
  · exact .inl h0
  · exact .inr ⟨g, cap, cur, fz, hv, hg, (hb.block g (lt_of_blk hh)).trans hh, rest⟩
theorem HoldsB.below {B b : Nat} {l : List UInt8} {w w' : World} (h : HoldsB B b l w) (hb : Below w.heap.size w w') : HoldsB B b l w' := by
  have key : ∀ p, Lib.BuilderAtF 94 5 B b p (Lib.byteCells l) w → Lib.BuilderAtF 94 5 B b p (Lib.byteCells l) w' := by
    rintro p ⟨h1, v, h2, h3, h4⟩
    exact ⟨h1, v, blk_below hb (lt_of_blk h2) h2, own_belowF h3 hb, h4⟩
  exact ⟨h.1.imp (key _) (key _), Nat.le_trans h.2 hb.size⟩
theorem kept_below {e : TypeId} {b : Option Nat} {w w' : World} (hb : Below w.heap.size w w') : Lib.OthersKept e b w w' := fun k o h _ _ => blk_below hb (lt_of_blk h) h
/-- what a line leaves -/
def LinePost (B b : Nat) (l : List UInt8) (w : World) (e : Ending) (w' : World) : Prop := e = .returned (.tuple #[]) ∧ HoldsB B b l w' ∧ Below B w w' ∧ Lib.OthersKept 5 (some b) w w'
set_option maxHeartbeats 1000000 in
theorem line_any (B b : Nat) (acc : List UInt8) (v : Value) (L : List (List UInt8)) (w : World) (hB : HoldsB B b acc w) (hV : Vec w Any1 1 encS v L) (hn : L.length ≤ 1000) (hj : (joinL L).length ≤ 1000000) (ha : acc.length ≤ 1000000000) :
    Calls Tryz.prog 65 #[v, .pointer (some ⟨b, 0, none⟩)] w (LinePost B b (acc ++ (joinL L ++ [10])) w) := by
  have HH := Lib.hid hB; have HVv := Lib.hid hV
  clear hB hV
  go_enter Tryz.func65, Tryz.ntmps65
  go_wp2_with fail
  refine (join_any Any1 v L _ HVv.out (by omega) (by omega)).mono ?_
  rintro e w1 ⟨rfl, hb1⟩
  obtain ⟨J, hJ⟩ : ∃ J, joinL L = J := ⟨_, rfl⟩
  rw [hJ] at hj ⊢
  have HJ := Lib.hid hJ
  have H1 := Lib.hid (HH.out.below hb1)
  have HW1 := Lib.hid (hb1.mono HH.out.2)
  have HK1 := Lib.hid (kept_below (e := 5) (b := some b) hb1)
  clear hb1 hJ HH
  go_wp2_with fail
  refine (wstr_k B b (Lib.byteCells acc) ⟨J.toArray⟩ _ H1.out.1 (by rw [Lib.byteCells_length, mk_size]; omega) H1.out.2).mono ?_
  rintro e w2 ⟨rfl, h2, hb2, hk2⟩
  rw [show Lib.strCells ⟨J.toArray⟩ = Lib.byteCells J from rfl, ← Lib.byteCells_append] at h2
  have hz2 : B ≤ w2.heap.size := Nat.le_trans H1.out.2 hb2.size
  have H2 := Lib.hid h2
  have HW2 := Lib.hid (HW1.out.trans hb2)
  have HK2 := Lib.hid (HK1.out.trans hk2)
  clear h2 hb2 hk2 HW1 H1 HK1
  go_wp2_with fail
  refine (wbyte_k B b (Lib.byteCells (acc ++ J)) 10 _ (.inr H2.out) (by rw [Lib.byteCells_length, List.length_append]; omega) hz2).mono ?_
  rintro e w3 ⟨rfl, h3, hb3, hk3⟩
  have H3 := Lib.hid h3
  have HW3 := Lib.hid (HW2.out.trans hb3)
  have HK3 := Lib.hid (HK2.out.trans hk3)
  have hz3 : B ≤ w3.heap.size := Nat.le_trans hz2 hb3.size
  clear h3 hb3 HW2 H2 hk3 HK2
  go_wp2_with fail
  go_end0
  exact ⟨rfl, by rw [HJ.out, ← List.append_assoc]; exact ⟨.inr (by rw [Lib.byteCells_append]; exact H3.out), hz3⟩, HW3.out, HK3.out⟩
end Go.Proofs.YtfgoiojmbphmnaaGreatDoor
end
section
/- schema.Text. -/
set_option linter.unusedSimpArgs false
set_option linter.unusedVariables false
set_option maxRecDepth 100000
namespace Go.Proofs.YtfgoiojmbphmnaaGreatDoor
open Go.RowKit Cal
attribute [local go_sem] toList_mk mk_size
/-- the word of a kind -/
def kindW (k : Int) : List UInt8 := if k = 1 then [110, 97, 109, 101] else if k = 2 then [100, 97, 116, 101] else if k = 3 then [99, 111, 100, 101] else if k = 4 then [97, 100, 100, 114, 101, 115, 115] else []
theorem kindW_len (k : Int) : (kindW k).length ≤ 7 := by
  unfold kindW; repeat' split
  all_goals simp
def fieldLine (x : F2) : List UInt8 := joinL [[102, 105, 101, 108, 100], x.1, kindW x.2] ++ [10]
def titleLine (t : List UInt8) : List UInt8 := joinL [[116, 105, 116, 108, 101], t] ++ [10]
def nickLine (p : P2) : List UInt8 := joinL [[110, 105, 99, 107, 110, 97, 109, 101], p.1, p.2] ++ [10]
def streetLine (p : P2) : List UInt8 := joinL [[115, 116, 114, 101, 101, 116], p.1, p.2] ++ [10]
def textL (s : SchemaL) : List UInt8 := s.fields.flatMap fieldLine ++ (s.rules.titles.flatMap titleLine ++ (s.rules.nicks.flatMap nickLine ++ s.rules.streets.flatMap streetLine))
theorem join3_len (a b c : List UInt8) : (joinL [a, b, c]).length = a.length + b.length + c.length + 2 := by simp [joinL]; omega
theorem join2_len (a b : List UInt8) : (joinL [a, b]).length = a.length + b.length + 1 := by simp [joinL]; omega
theorem flat_bound {α : Type} {g : α → List UInt8} {m : Nat} : ∀ (L : List α), (∀ x ∈ L, (g x).length ≤ m) → (L.flatMap g).length ≤ L.length * m := by
  intro L
  induction L with
  | nil => intro _; simp
  | cons x L ih =>
    intro h
    have h1 := ih fun y hy => h y (List.mem_cons_of_mem _ hy)
    have h2 := h x List.mem_cons_self
    rw [List.flatMap_cons, List.length_append, List.length_cons, Nat.succ_mul]; omega
theorem wordB_len {t : List UInt8} (h : wordB t = true) : t.length ≤ 12 := by
  unfold wordB at h
  cases h1 : t.isEmpty <;> simp [h1] at h
  exact h.1
theorem getD_mem {α : Type} [Inhabited α] {L : List α} {p : α → Prop} (h : ∀ j, j < L.length → p (L.getD j default)) : ∀ x ∈ L, p x := by
  intro x hx
  obtain ⟨j, hj, rfl⟩ := List.mem_iff_getElem.1 hx
  have := h j hj
  rwa [List.getD, List.getElem?_eq_getElem hj] at this
/-- the lengths of all texts of a valid schema -/
theorem check_lens {s : SchemaL} (h : checkS s = 0) : (∀ x ∈ s.fields, x.1.length ≤ 12) ∧ (∀ t ∈ s.rules.titles, t.length ≤ 64) ∧ (∀ p ∈ s.rules.nicks, p.1.length ≤ 64 ∧ p.2.length ≤ 64) ∧ (∀ p ∈ s.rules.streets, p.1.length ≤ 64 ∧ p.2.length ≤ 64) := by
  obtain ⟨_, h2, h3⟩ := check_fields h
  obtain ⟨_, t1, t2, t3, _⟩ := check_zero h3
  have pr : ∀ L : List P2, pairsB L = true → ∀ p ∈ L, p.1.length ≤ 64 ∧ p.2.length ≤ 64 := fun L hL => getD_mem fun j hj => by
    have := pairs_at hL j hj
    unfold pairAtB at this
    simp only [Bool.and_eq_true] at this
    exact ⟨token_len this.1.1.1, token_len this.1.1.2⟩
  refine ⟨getD_mem fun j hj => ?_, ?_, pr _ t2, pr _ t3⟩
  · have := List.all_eq_true.1 h2 j (List.mem_range.2 hj)
    unfold fieldAtB at this
    simp only [Bool.and_eq_true] at this
    exact wordB_len this.1.1.1
  · refine getD_mem fun j hj => ?_
    have := List.all_eq_true.1 t1 j (List.mem_range.2 hj)
    unfold titleAt at this
    simp only [Bool.and_eq_true] at this
    exact token_len this.1
theorem field_kindW (kd : Int) (h1 : 1 ≤ kd) (h4 : kd ≤ 4) : ∀ w, (Instr.field 79 (.agg (kindAt kd)) 0).run Tryz.prog w = .ok (strV (kindW kd)) w := by
  obtain rfl | rfl | rfl | rfl : kd = 1 ∨ kd = 2 ∨ kd = 3 ∨ kd = 4 := by omega
  · exact fun w => by kernel_rfl
  · exact fun w => by kernel_rfl
  · exact fun w => by kernel_rfl
  · exact fun w => by kernel_rfl
theorem vec_block {w : World} {A : Nat} {L : List (List UInt8)} (h : w.heap[A]? = some (.cells (L.flatMap encS).toArray 9 (0, 0))) (n : Nat) (hn : n = L.length) : Vec w Any1 1 encS (.slice (some ⟨A, 0, none⟩) n n) L := by
  subst hn; exact RowB.vec h _ (Nat.le_refl _)
theorem flat_take {α : Type} (g : α → List UInt8) (L : List α) (k : Nat) : ((L.take k).flatMap g).length ≤ (L.flatMap g).length := by
  conv => rhs; rw [← List.take_append_drop k L]
  rw [List.flatMap_append, List.length_append]; omega
theorem take_snocA {α : Type} [Inhabited α] (T : List α) (k : Nat) (h : k < T.length) : T.take (k + 1) = T.take k ++ [T.getD k default] := by
  rw [List.take_succ_eq_append_getElem h, List.getD, List.getElem?_eq_getElem h]; rfl
theorem kept_block {b k : Nat} {w w' : World} (hk : Lib.OthersKept 5 (some b) w w') {cs : Array Value} {t : TypeId} {fr : Nat × Nat} (h : w.heap[k]? = some (.cells cs t fr)) (hne : k ≠ b) (hT : t ≠ 5) : w'.heap[k]? = some (.cells cs t fr) :=
  hk k _ h (fun e => hne (by injection e)) (fun c fz e => by injection e with e1 e2; exact hT e2)
theorem HoldsB.lt {B b : Nat} {l : List UInt8} {w : World} (h : HoldsB B b l w) : b < w.heap.size := by
  rcases h.1 with ⟨_, v, h2, _⟩ | ⟨_, v, h2, _⟩ <;> exact lt_of_blk h2
/-- what the loops of Text hold: the text so far; the blocks of w1 as they were -/
def TextAt (w1 : World) (l : List UInt8) (wr : World) : Prop := HoldsB w1.heap.size w1.heap.size l wr ∧ Below w1.heap.size w1 wr
theorem TextAt.below {w1 wr w' : World} {l : List UInt8} (h : TextAt w1 l wr) (hb : Below wr.heap.size wr w') : TextAt w1 l w' := ⟨h.1.below hb, h.2.trans (hb.mono h.2.size)⟩
set_option maxHeartbeats 8000000 in
theorem text_yes (S : Nat → Prop) (vf vt vn vs : Value) (s : SchemaL) (w : World) (h : SchemaAt w S vf vt vn vs s) (hc : checkS s = 0) :
    Calls Tryz.prog 34 #[.agg #[vf, vt, vn, vs]] w fun e w' => e = .returned (pairV (textL s, 0)) ∧ Below w.heap.size w w' := by
  obtain ⟨g1, g2, g3⟩ := check_fields hc
  obtain ⟨⟨n1, n2, n3⟩, _⟩ := check_zero g3
  obtain ⟨l1, l2, l3, l4⟩ := check_lens hc
  have B1 := flat_bound (g := fieldLine) (m := 40) s.fields (fun x hx => by have := l1 x hx; have := kindW_len x.2; unfold fieldLine; rw [List.length_append, join3_len]; simp; omega)
  have B2 := flat_bound (g := titleLine) (m := 80) s.rules.titles (fun x hx => by have := l2 x hx; unfold titleLine; rw [List.length_append, join2_len]; simp; omega)
  have B3 := flat_bound (g := nickLine) (m := 160) s.rules.nicks (fun x hx => by have := l3 x hx; unfold nickLine; rw [List.length_append, join3_len]; simp; omega)
  have B4 := flat_bound (g := streetLine) (m := 160) s.rules.streets (fun x hx => by have := l4 x hx; unfold streetLine; rw [List.length_append, join3_len]; simp; omega)
  obtain ⟨F, ⟨T, N, R⟩⟩ := s
  dsimp only at *
  obtain ⟨af, cf, rfl⟩ := h.1.slice
  obtain ⟨at1, ct, rfl⟩ := h.2.1.slice
  obtain ⟨an, cn, rfl⟩ := h.2.2.1.slice
  obtain ⟨as', cs, rfl⟩ := h.2.2.2.slice
  have HS := Lib.hid h.any
  have HC := Lib.hid hc
  have L1 := Lib.hid l1; have L2 := Lib.hid l2; have L3 := Lib.hid l3; have L4 := Lib.hid l4
  have HFk := Lib.hid g2
  clear h hc g2 g3 l1 l2 l3 l4
  dsimp only at *
  go_enter Tryz.func34, Tryz.ntmps34
  go_wp2_with fail
  refine (scheck_any Any1 _ _ _ _ _ _ (HS.out.below ((Below.refl _ _).alloc (Nat.le_refl _) _))).mono ?_
  rw [HC.out]
  rintro e w1 ⟨rfl, hb1⟩
  have X1 := blk_below (b := w.heap.size) (o := .cells #[.slice af F.length cf, .slice at1 T.length ct, .slice an N.length cn, .slice as' R.length cs] 33 (0, 0)) hb1 (by simp) (blk_new rfl)
  have HX1 := Lib.hid X1
  have z1 := lt_of_blk X1
  obtain ⟨p0, p1, p2, p3⟩ := cells4 X1
  have HB1 := Lib.hid (((Below.refl w.heap.size w).alloc (Nat.le_refl _) (.cells #[.slice af F.length cf, .slice at1 T.length ct, .slice an N.length cn, .slice as' R.length cs] 33)).trans (hb1.mono (by simp)))
  clear hb1 X1
  go_wp2_with fail
  go_loopw [24] (fun i wr => ∃ k : Nat, k ≤ F.length ∧ i = .int .i64 k ∧ TextAt w1 ((F.take k).flatMap fieldLine) wr) (fun i _ => F.length - (intOf i).toNat)
  case atStart => exact ⟨0, by omega, rfl, ⟨.inl ⟨Nat.le_refl _, _, blk_new rfl, ⟨rfl, .inl ⟨rfl, rfl⟩⟩, by simp [Value.ownBlock]⟩, by simp⟩, (Below.refl _ _).alloc (Nat.le_refl _) _⟩
  case round =>
    obtain ⟨k, hk, rfl, ho⟩ := hrel
    have HO := Lib.hid ho
    by_cases hlt : k < F.length
    · have hq : decide ((k : Int) < F.length) = true := by simp; omega
      have hi : (k : Int) < (F.length : Int) := by omega
      obtain ⟨b, off, e1, _, hb, hcc⟩ := vec_cell2 (HS.out.1.below HB1.out) (show 0 < F.length by omega)
      subst e1
      have hc := hcc k hlt
      have htk := take_snocA F k hlt
      obtain ⟨kk1, kk4⟩ := field_kind HFk.out k hlt
      have hml := L1.out (F.getD k default) (by rw [List.getD, List.getElem?_eq_getElem hlt]; exact List.getElem_mem hlt)
      obtain ⟨⟨nm, kd⟩, hx⟩ : ∃ x, F.getD k default = x := ⟨_, rfl⟩
      rw [hx] at hc htk hml kk1 kk4
      dsimp only at kk1 kk4 hml
      have c0 : wr.cell? ⟨b, off + k * 2, none⟩ = some (strV nm) := (ho.2.cell (p := ⟨b, off + k * 2, none⟩) hb).trans (hc 0 _ rfl)
      have c1 : wr.cell? ⟨b, off + k * 2 + 1, none⟩ = some (.int .i64 kd) := (ho.2.cell (p := ⟨b, off + k * 2 + 1, none⟩) hb).trans (hc 1 _ rfl)
      have hlt1 := ho.1.lt
      have HT := Lib.hid htk
      have HIX := Lib.hid (index_kind kd kk1 kk4)
      clear hx hc hcc htk ho
      go_wp2_with fail
      refine wp_world (fun wS hS => ?_)
      have bS : Below wr.heap.size wr wS := by rw [hS]; exact (Below.refl _ _).alloc (Nat.le_refl _) _
      have q0 : wS.cell? ⟨wr.heap.size, 0, none⟩ = some (strV nm) := by rw [hS]; simp
      have q1 : wS.cell? ⟨wr.heap.size, 1, none⟩ = some (.int .i64 kd) := by rw [hS]; simp
      have zS : wr.heap.size < wS.heap.size := by rw [hS]; simp
      have hY : wS.heap[wr.heap.size]? = some (.cells #[strV nm, .int .i64 kd] 42 (0, 0)) := by rw [hS]; exact blk_new rfl
      have HY := Lib.hid hY
      have HOS := Lib.hid (show TextAt w1 ((F.take k).flatMap fieldLine) wS from ⟨HO.out.1.below bS, HO.out.2.trans (bS.mono HO.out.2.size)⟩)
      clear hS bS c0 c1 hY HO p0 p1 p2 p3
      have hne4 : wr.heap.size ≠ w1.heap.size := by have := hlt1; omega
      have hacc : ((F.take k).flatMap fieldLine).length ≤ 1000000000 := by have := flat_take fieldLine F k; omega
      refine wp_region_noPanic ?_
      refine wp_region_held_drew (S := (fun w' => w'.cell? ⟨wr.heap.size, 0, none⟩ = some (strV nm) ∧ w'.cell? ⟨wr.heap.size, 1, none⟩ = some (.int .i64 kd))) (by kernel_rfl) (⟨q0, q1⟩) (fun hHeld => ?_)
      refine wpAnyH_take (i := 0) (v := ?_) rfl (by kernel_rfl) (by kernel_rfl) (by kernel_rfl) (fun _ _ _ h => h) (Or.inl ⟨by rfl, ?_⟩) (by assumption) ?_
      rotate_left 1
      · (intro wS hSw; (try dsimp only at hSw); go_simp; try with_reducible rfl)
      try simp only [List.getElem_toArray, List.getElem_cons_zero, List.getElem_cons_succ, Act.put, List.setIfInBounds_toArray, List.set_cons_zero, List.set_cons_succ]
      refine wpAnyH_take (i := 1) (v := ?_) rfl (by kernel_rfl) (by kernel_rfl) (by kernel_rfl) (fun _ _ _ h => h) (Or.inl ⟨by rfl, ?_⟩) (by assumption) ?_
      rotate_left 1
      · (intro wS hSw; (try dsimp only at hSw); go_simp; try with_reducible rfl)
      try simp only [List.getElem_toArray, List.getElem_cons_zero, List.getElem_cons_succ, Act.put, List.setIfInBounds_toArray, List.set_cons_zero, List.set_cons_succ]
      refine wpAnyH_take (i := 2) (v := ?_) rfl (by kernel_rfl) (by kernel_rfl) (by kernel_rfl) (fun _ _ _ h => h) (Or.inl ⟨by rfl, ?_⟩) (by assumption) ?_
      rotate_left 1
      · (intro wS hSw; (try dsimp only at hSw); go_simp; try with_reducible rfl)
      try simp only [List.getElem_toArray, List.getElem_cons_zero, List.getElem_cons_succ, Act.put, List.setIfInBounds_toArray, List.set_cons_zero, List.set_cons_succ]
      refine wpAnyH_take (i := 4) (v := ?_) rfl (by kernel_rfl) (by kernel_rfl) (by kernel_rfl) (fun _ _ _ h => h) (Or.inl ⟨by rfl, ?_⟩) (by assumption) ?_
      rotate_left 1
      · (intro wS hSw; (try dsimp only at hSw); go_simp; try with_reducible rfl)
      try simp only [List.getElem_toArray, List.getElem_cons_zero, List.getElem_cons_succ, Act.put, List.setIfInBounds_toArray, List.set_cons_zero, List.set_cons_succ]
      refine wpAnyH_take (i := 5) (v := ?_) rfl (by kernel_rfl) (by kernel_rfl) (by kernel_rfl) (fun _ _ _ h => h) (Or.inl ⟨by rfl, ?_⟩) (by assumption) ?_
      rotate_left 1
      · (intro wS hSw; (try dsimp only at hSw); go_simp; try with_reducible rfl)
      try simp only [List.getElem_toArray, List.getElem_cons_zero, List.getElem_cons_succ, Act.put, List.setIfInBounds_toArray, List.set_cons_zero, List.set_cons_succ]
      refine wpAnyH_ready (rs := [3]) (by kernel_rfl) (by simp) ?_
      refine AllReadyH.cons rfl (fun K hK => ?_) AllReadyH.nil
      go_simp
      refine (kinds_any _).mono ?_; rintro e w2 ⟨rfl, hb2⟩; have q0a := (hb2.cell (p := ⟨wr.heap.size, 0, none⟩) zS).trans q0; have q1a := (hb2.cell (p := ⟨wr.heap.size, 1, none⟩) zS).trans q1; have HO2 := Lib.hid (show TextAt w1 ((F.take k).flatMap fieldLine) w2 from ⟨(HOS.out.1.below (w' := wS.drew) (Below.refl _ _).drew).below hb2, (HOS.out.2.drew).trans (hb2.mono HOS.out.2.size)⟩); have HY2 := Lib.hid (blk_below hb2 zS HY.out)
      refine hK.out _ _ (⟨q0a, q1a⟩) (fun hHeld => ?_)
      clear hK K
      try simp only [List.getElem_toArray, List.getElem_cons_zero, List.getElem_cons_succ, Act.put, List.setIfInBounds_toArray, List.set_cons_zero, List.set_cons_succ]
      have hix := HIX.out
      refine wpAnyH_take (i := 6) (v := ?_) rfl (by kernel_rfl) (by kernel_rfl) (by kernel_rfl) (fun _ _ _ h => h) (Or.inl ⟨by rfl, ?_⟩) (by assumption) ?_
      rotate_left 1
      · (intro wS hSw; (try dsimp only at hSw); go_simp; try with_reducible rfl)
      try simp only [List.getElem_toArray, List.getElem_cons_zero, List.getElem_cons_succ, Act.put, List.setIfInBounds_toArray, List.set_cons_zero, List.set_cons_succ]
      clear hix
      have hfd := field_kindW kd kk1 kk4
      refine wpAnyH_take (i := 7) (v := ?_) rfl (by kernel_rfl) (by kernel_rfl) (by kernel_rfl) (fun _ _ _ h => h) (Or.inl ⟨by rfl, ?_⟩) (by assumption) ?_
      rotate_left 1
      · (intro wS hSw; (try dsimp only at hSw); go_simp; try with_reducible rfl)
      try simp only [List.getElem_toArray, List.getElem_cons_zero, List.getElem_cons_succ, Act.put, List.setIfInBounds_toArray, List.set_cons_zero, List.set_cons_succ]
      clear hfd
      refine wpAnyH_ready (rs := [8]) (by kernel_rfl) (by simp) ?_
      refine AllReadyH.cons rfl (fun K hK => ?_) AllReadyH.nil
      go_simp
      have hV3 := vec_block (w := w2.alloc (.cells #[strV [102, 105, 101, 108, 100], strV nm, strV (kindW kd)] 9)) (A := w2.heap.size) (L := [[102, 105, 101, 108, 100], nm, kindW kd]) (blk_new rfl) 3 rfl; have HV3 := Lib.hid hV3; have HO3 := Lib.hid (show TextAt w1 ((F.take k).flatMap fieldLine) (w2.alloc (.cells #[strV [102, 105, 101, 108, 100], strV nm, strV (kindW kd)] 9)) from ⟨HO2.out.1.below ((Below.refl _ _).alloc (Nat.le_refl _) _), HO2.out.2.alloc HO2.out.2.size _⟩); have q0b := (((Below.refl w2.heap.size w2).alloc (Nat.le_refl _) (.cells #[strV [102, 105, 101, 108, 100], strV nm, strV (kindW kd)] 9)).cell (p := ⟨wr.heap.size, 0, none⟩) (lt_of_blk HY2.out)).trans q0a; have q1b := (((Below.refl w2.heap.size w2).alloc (Nat.le_refl _) (.cells #[strV [102, 105, 101, 108, 100], strV nm, strV (kindW kd)] 9)).cell (p := ⟨wr.heap.size, 1, none⟩) (lt_of_blk HY2.out)).trans q1a
      refine hK.out _ _ (⟨q0b, q1b⟩) (fun hHeld => ?_)
      clear hK K
      try simp only [List.getElem_toArray, List.getElem_cons_zero, List.getElem_cons_succ, Act.put, List.setIfInBounds_toArray, List.set_cons_zero, List.set_cons_succ]
      refine wpAnyH_ready (rs := [9]) (by kernel_rfl) (by simp) ?_
      refine AllReadyH.cons rfl (fun K hK => ?_) AllReadyH.nil
      go_simp
      refine (line_any w1.heap.size w1.heap.size ((F.take k).flatMap fieldLine) _ [[102, 105, 101, 108, 100], nm, kindW kd] _ HO3.out.1 HV3.out (by simp) (by rw [join3_len]; have := kindW_len kd; simp; omega) hacc).mono ?_; rintro e w4 ⟨rfl, h4, hb4, hk4⟩; have hY4 := kept_block hk4 (blk_old HY2.out) hne4 (by decide); have q0c : w4.cell? ⟨wr.heap.size, 0, none⟩ = some (strV nm) := (cell_of_row _ _ _ _ _ _ hY4).trans rfl; have q1c : w4.cell? ⟨wr.heap.size, 1, none⟩ = some (.int .i64 kd) := (cell_of_row _ _ _ _ _ _ hY4).trans rfl; have HO4 := Lib.hid (show TextAt w1 ((F.take (k + 1)).flatMap fieldLine) w4 from ⟨by rw [HT.out, List.flatMap_append]; simpa [fieldLine] using h4, HO3.out.2.trans hb4⟩)
      refine hK.out _ _ (⟨q0c, q1c⟩) (fun hHeld => ?_)
      clear hK K
      try simp only [List.getElem_toArray, List.getElem_cons_zero, List.getElem_cons_succ, Act.put, List.setIfInBounds_toArray, List.set_cons_zero, List.set_cons_succ]
      refine wpAnyH_done (by kernel_rfl) ?_ _
      refine NoPanic.normal ?_
      go_wp2_with fail
      go_roundw
      case rel => exact ⟨k + 1, by omega, by go_num, HO4.out⟩
      case measure => simp [intOf]; omega
    · have hq : decide ((k : Int) < F.length) = false := by simp; omega
      rw [List.take_of_length_le (by omega)] at ho
      have hX := blk_below ho.2 z1 HX1.out
      obtain ⟨p0, p1, p2, p3⟩ := cells4 hX
      obtain ⟨a1, ha1⟩ : ∃ a, F.flatMap fieldLine = a := ⟨_, rfl⟩
      have ba1 : a1.length ≤ 200 := by rw [← ha1]; omega
      rw [ha1] at ho
      have Ha1 := Lib.hid ha1
      have HO := Lib.hid ho
      obtain ⟨wu, rfl⟩ : ∃ wu : World, wu = wr := ⟨_, rfl⟩
      clear ho hX ha1
      go_wp2_with fail
      clear p0 p1 p2 p3 hq
      go_loopw [43] (fun i wr => ∃ k : Nat, k ≤ T.length ∧ i = .int .i64 k ∧ TextAt w1 (a1 ++ (T.take k).flatMap titleLine) wr) (fun i _ => T.length - (intOf i).toNat)
      case atStart => exact ⟨0, by omega, rfl, by simpa using HO.out⟩
      case round =>
        clear HO
        obtain ⟨k, hk, rfl, ho⟩ := hrel
        have HO := Lib.hid ho
        by_cases hlt : k < T.length
        · have hq : decide ((k : Int) < T.length) = true := by simp; omega
          have hi : (k : Int) < (T.length : Int) := by omega
          obtain ⟨b, off, e1, _, hb, hcc⟩ := vec_cell1 (HS.out.2.1.below HB1.out) (show 0 < T.length by omega)
          subst e1
          have htk := take_snocT T k hlt
          have hml := L2.out (T.getD k []) (by rw [List.getD, List.getElem?_eq_getElem hlt]; exact List.getElem_mem hlt)
          have hc := hcc k hlt
          obtain ⟨x, hx⟩ : ∃ x, T.getD k [] = x := ⟨_, rfl⟩
          rw [hx] at hc htk hml
          have c0 : wr.cell? ⟨b, off + k, none⟩ = some (strV x) := (ho.2.cell (p := ⟨b, off + k, none⟩) hb).trans hc
          have HT := Lib.hid htk
          have hacc : (a1 ++ (T.take k).flatMap titleLine).length ≤ 1000000000 := by have := flat_take titleLine T k; rw [List.length_append]; omega
          clear hx hc hcc htk ho
          go_wp2_with fail
          have bA : Below wr.heap.size wr (wr.alloc (.cells #[strV [116, 105, 116, 108, 101], strV x] 9)) := (Below.refl _ _).alloc (Nat.le_refl _) _
          refine (line_any w1.heap.size w1.heap.size (a1 ++ (T.take k).flatMap titleLine) _ [[116, 105, 116, 108, 101], x] _ (HO.out.below bA).1 (vec_block (L := [[116, 105, 116, 108, 101], x]) (blk_new rfl) 2 rfl) (by simp) (by rw [join2_len]; simp; omega) hacc).mono ?_
          rintro e w4 ⟨rfl, h4, hb4, hk4⟩
          have HO4 := Lib.hid (show TextAt w1 (a1 ++ (T.take (k + 1)).flatMap titleLine) w4 from ⟨by rw [HT.out, List.flatMap_append, ← List.append_assoc]; simpa [titleLine] using h4, (HO.out.below bA).2.trans hb4⟩)
          clear h4 hb4 hk4 bA
          go_wp2_with fail
          go_roundw
          case rel => exact ⟨k + 1, by omega, by go_num, HO4.out⟩
          case measure => simp [intOf]; omega
        · have hq : decide ((k : Int) < T.length) = false := by simp; omega
          rw [List.take_of_length_le (by omega)] at ho
          have hX := blk_below ho.2 z1 HX1.out
          obtain ⟨p0, p1, p2, p3⟩ := cells4 hX
          obtain ⟨a2, ha2⟩ : ∃ a, a1 ++ T.flatMap titleLine = a := ⟨_, rfl⟩
          have ba2 : a2.length ≤ 3000 := by rw [← ha2]; rw [List.length_append]; omega
          rw [ha2] at ho
          have Ha2 := Lib.hid ha2
          have HO := Lib.hid ho
          obtain ⟨wu, rfl⟩ : ∃ wu : World, wu = wr := ⟨_, rfl⟩
          clear ho hX ha2
          go_wp2_with fail
          clear p0 p1 p2 p3 hq
          go_loopw [56] (fun i wr => ∃ k : Nat, k ≤ N.length ∧ i = .int .i64 k ∧ TextAt w1 (a2 ++ (N.take k).flatMap nickLine) wr) (fun i _ => N.length - (intOf i).toNat)
          case atStart => exact ⟨0, by omega, rfl, by simpa using HO.out⟩
          case round =>
            clear HO
            obtain ⟨k, hk, rfl, ho⟩ := hrel
            have HO := Lib.hid ho
            by_cases hlt : k < N.length
            · have hq : decide ((k : Int) < N.length) = true := by simp; omega
              have hi : (k : Int) < (N.length : Int) := by omega
              obtain ⟨b, off, e1, _, hb, hcc⟩ := vec_cell2 (HS.out.2.2.1.below HB1.out) (show 0 < N.length by omega)
              subst e1
              have htk := take_snocA N k hlt
              have hml := L3.out (N.getD k default) (by rw [List.getD, List.getElem?_eq_getElem hlt]; exact List.getElem_mem hlt)
              have hc := hcc k hlt
              obtain ⟨⟨xf, xt⟩, hx⟩ : ∃ x, N.getD k default = x := ⟨_, rfl⟩
              rw [hx] at hc htk hml
              obtain ⟨hm1, hm2⟩ := hml
              dsimp only at hm1 hm2
              have c0 : wr.cell? ⟨b, off + k * 2, none⟩ = some (strV xf) := (ho.2.cell (p := ⟨b, off + k * 2, none⟩) hb).trans (hc 0 _ rfl)
              have c1 : wr.cell? ⟨b, off + k * 2 + 1, none⟩ = some (strV xt) := (ho.2.cell (p := ⟨b, off + k * 2 + 1, none⟩) hb).trans (hc 1 _ rfl)
              have HT := Lib.hid htk
              have hacc : (a2 ++ (N.take k).flatMap nickLine).length ≤ 1000000000 := by have := flat_take nickLine N k; rw [List.length_append]; omega
              clear hx hc hcc htk ho
              go_wp2_with fail
              have bA : Below wr.heap.size wr ((wr.alloc (.cells #[strV xf, strV xt] 83)).alloc (.cells #[strV [110, 105, 99, 107, 110, 97, 109, 101], strV xf, strV xt] 9)) := ((Below.refl _ _).alloc (Nat.le_refl _) _).alloc (by simp) _
              refine (line_any w1.heap.size w1.heap.size (a2 ++ (N.take k).flatMap nickLine) _ [[110, 105, 99, 107, 110, 97, 109, 101], xf, xt] _ (HO.out.below bA).1 (vec_block (L := [[110, 105, 99, 107, 110, 97, 109, 101], xf, xt]) (blk_new (by simp)) 3 rfl) (by simp) (by rw [join3_len]; simp; omega) hacc).mono ?_
              rintro e w4 ⟨rfl, h4, hb4, hk4⟩
              have HO4 := Lib.hid (show TextAt w1 (a2 ++ (N.take (k + 1)).flatMap nickLine) w4 from ⟨by rw [HT.out, List.flatMap_append, ← List.append_assoc]; simpa [nickLine] using h4, (HO.out.below bA).2.trans hb4⟩)
              clear h4 hb4 hk4 bA
              go_wp2_with fail
              go_roundw
              case rel => exact ⟨k + 1, by omega, by go_num, HO4.out⟩
              case measure => simp [intOf]; omega
            · have hq : decide ((k : Int) < N.length) = false := by simp; omega
              rw [List.take_of_length_le (by omega)] at ho
              have hX := blk_below ho.2 z1 HX1.out
              obtain ⟨p0, p1, p2, p3⟩ := cells4 hX
              obtain ⟨a3, ha3⟩ : ∃ a, a2 ++ N.flatMap nickLine = a := ⟨_, rfl⟩
              have ba3 : a3.length ≤ 10000 := by rw [← ha3]; rw [List.length_append]; omega
              rw [ha3] at ho
              have Ha3 := Lib.hid ha3
              have HO := Lib.hid ho
              obtain ⟨wu, rfl⟩ : ∃ wu : World, wu = wr := ⟨_, rfl⟩
              clear ho hX ha3
              go_wp2_with fail
              clear p0 p1 p2 p3 hq
              go_loopw [72] (fun i wr => ∃ k : Nat, k ≤ R.length ∧ i = .int .i64 k ∧ TextAt w1 (a3 ++ (R.take k).flatMap streetLine) wr) (fun i _ => R.length - (intOf i).toNat)
              case atStart => exact ⟨0, by omega, rfl, by simpa using HO.out⟩
              case round =>
                clear HO
                obtain ⟨k, hk, rfl, ho⟩ := hrel
                have HO := Lib.hid ho
                by_cases hlt : k < R.length
                · have hq : decide ((k : Int) < R.length) = true := by simp; omega
                  have hi : (k : Int) < (R.length : Int) := by omega
                  obtain ⟨b, off, e1, _, hb, hcc⟩ := vec_cell2 (HS.out.2.2.2.below HB1.out) (show 0 < R.length by omega)
                  subst e1
                  have htk := take_snocA R k hlt
                  have hml := L4.out (R.getD k default) (by rw [List.getD, List.getElem?_eq_getElem hlt]; exact List.getElem_mem hlt)
                  have hc := hcc k hlt
                  obtain ⟨⟨xf, xt⟩, hx⟩ : ∃ x, R.getD k default = x := ⟨_, rfl⟩
                  rw [hx] at hc htk hml
                  obtain ⟨hm1, hm2⟩ := hml
                  dsimp only at hm1 hm2
                  have c0 : wr.cell? ⟨b, off + k * 2, none⟩ = some (strV xf) := (ho.2.cell (p := ⟨b, off + k * 2, none⟩) hb).trans (hc 0 _ rfl)
                  have c1 : wr.cell? ⟨b, off + k * 2 + 1, none⟩ = some (strV xt) := (ho.2.cell (p := ⟨b, off + k * 2 + 1, none⟩) hb).trans (hc 1 _ rfl)
                  have HT := Lib.hid htk
                  have hacc : (a3 ++ (R.take k).flatMap streetLine).length ≤ 1000000000 := by have := flat_take streetLine R k; rw [List.length_append]; omega
                  clear hx hc hcc htk ho
                  go_wp2_with fail
                  have bA : Below wr.heap.size wr ((wr.alloc (.cells #[strV xf, strV xt] 83)).alloc (.cells #[strV [115, 116, 114, 101, 101, 116], strV xf, strV xt] 9)) := ((Below.refl _ _).alloc (Nat.le_refl _) _).alloc (by simp) _
                  refine (line_any w1.heap.size w1.heap.size (a3 ++ (R.take k).flatMap streetLine) _ [[115, 116, 114, 101, 101, 116], xf, xt] _ (HO.out.below bA).1 (vec_block (L := [[115, 116, 114, 101, 101, 116], xf, xt]) (blk_new (by simp)) 3 rfl) (by simp) (by rw [join3_len]; simp; omega) hacc).mono ?_
                  rintro e w4 ⟨rfl, h4, hb4, hk4⟩
                  have HO4 := Lib.hid (show TextAt w1 (a3 ++ (R.take (k + 1)).flatMap streetLine) w4 from ⟨by rw [HT.out, List.flatMap_append, ← List.append_assoc]; simpa [streetLine] using h4, (HO.out.below bA).2.trans hb4⟩)
                  clear h4 hb4 hk4 bA
                  go_wp2_with fail
                  go_roundw
                  case rel => exact ⟨k + 1, by omega, by go_num, HO4.out⟩
                  case measure => simp [intOf]; omega
                · have hq : decide ((k : Int) < R.length) = false := by simp; omega
                  rw [List.take_of_length_le (by omega)] at ho
                  have hall : a3 ++ R.flatMap streetLine = textL ⟨F, T, N, R⟩ := by
                    rw [← Ha3.out, ← Ha2.out, ← Ha1.out]; simp [textL, List.append_assoc]
                  rw [hall] at ho
                  have HAll := Lib.hid ho
                  clear ho hall HO
                  go_wp2_with fail
                  refine (bstr_k w1.heap.size w1.heap.size _ _ HAll.out.1.1 HAll.out.1.2).mono ?_
                  rintro e w5 ⟨rfl, hb5⟩
                  have HW5 := Lib.hid (HB1.out.trans ((HAll.out.2.trans hb5).mono HB1.out.size))
                  clear hb5
                  go_wp2_with fail
                  go_ret2
                  exact ⟨rfl, HW5.out⟩
end Go.Proofs.YtfgoiojmbphmnaaGreatDoor
end
