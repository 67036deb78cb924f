/- Parts of one proof: SchF, SchG, SchH, SchI, SchJ, SchK, SchL, SchM, SchN, MakeA, MakeB, MakeS, MakeT, Dress, DeckPlain, MakeU, MakeV, MakeX, MakeY. -/
import Derived.Test.YtfgoiojmbphmnaaGreatDoorPartSchemaExact2
import Derived.Deep.Light
import Derived.Deep.DeepCutAuto
section
/- schema: Normal. -/
set_option linter.unusedSimpArgs false
set_option linter.unusedVariables false
set_option maxRecDepth 100000
namespace Go.Proofs.YtfgoiojmbphmnaaGreatDoor
open Go.RowKit Cal
attribute [local go_sem] toList_mk mk_size
set_option maxHeartbeats 4000000 in
theorem normal_s (S : Nat → Prop) (vf vt vn vs : Value) (s : SchemaL) (f : Int) (x : ByteArray) (w : World) (h : SchemaAt w S vf vt vn vs s) (hx : x.size ≤ 9223372036854775000) :
    Calls Tryz.prog 17 #[.agg #[vf, vt, vn, vs], .int .i64 f, .string x] w fun e w' => e = .returned (.bool (normalB s f x.data.toList)) ∧ Below w.heap.size w w' := by
  have HS := Lib.hid h.any
  have HL := Lib.hid (Lib.toList_data x)
  have hfin : ∀ p, normalB s f x.data.toList = p → Ending.returned (.bool p) = .returned (.bool (normalB s f x.data.toList)) := fun p h => by rw [h]
  have HF := Lib.hid hfin
  clear h hfin
  have K := find_s Any1 vf vt vn vs s f (w.alloc (.cells #[vf, vt, vn, vs] 33)) (HS.out.below ((Below.refl _ _).alloc (Nat.le_refl _) _))
  have hkk := findN_kind (s := s) (f := f)
  have hval : normalB s f x.data.toList = if (findN s f).2 = 0 then (if x.data.toList = [] then true else ownK (findN s f).1 s.rules x.data.toList) else false := rfl
  obtain ⟨⟨kd, er⟩, hp⟩ : ∃ p, findN s f = p := ⟨_, rfl⟩
  rw [hp] at K hkk hval
  dsimp only at hkk hval
  change Calls _ _ _ _ fun e w' => e = .returned (.tuple #[.agg (kindAt kd), .int .i64 er]) ∧ _ at K
  have HK := Lib.hid K
  have HVal := Lib.hid hval
  obtain ⟨ko, ks⟩ := kindAt_one kd
  have KO := Lib.hid ko; have KS := Lib.hid ks
  clear K hp hval ko ks
  by_cases he : er = 0
  · subst he
    have hkd := hkk rfl
    clear hkk
    by_cases hx0 : x.data.toList = []
    · have e1 : x.toList = [] := by rw [HL.out, hx0]
      have HE := Lib.hid (show normalB s f x.data.toList = true by rw [HVal.out, if_pos rfl, if_pos hx0])
      clear hx0 hkd
      go_enter Tryz.func17, Tryz.ntmps17
      go_wp2_with fail
      refine HK.out.mono ?_
      rintro e w1 ⟨rfl, hb1⟩
      have HB1 := Lib.hid (((Below.refl w.heap.size w).alloc (Nat.le_refl _) (.cells #[vf, vt, vn, vs] 33)).trans (hb1.mono (by simp)))
      have HX1 := Lib.hid (blk_below (b := w.heap.size) (o := .cells #[vf, vt, vn, vs] 33 (0, 0)) hb1 (by simp) (blk_new rfl))
      clear hb1 HK
      go_wp2_with (refine wpList_store_row rfl 79 (.tmp 7) (.tmp 13) rfl w1.heap.size (kindAt kd) rfl rfl 79 kind0 (heap_alloc_new w1 _) (by rw [KS.out]; kernel_rfl) (by rw [KS.out]; rfl) KO.out ?_; rw [World.setRow_alloc_new])
      go_ret
      exact ⟨HF.out _ HE.out, HB1.out.alloc HB1.out.size _⟩
    · have e1 : (x.toList == []) = false := by rw [HL.out]; simpa using hx0
      have e2 : x.toList.isEmpty = false := by rw [HL.out]; simpa using hx0
      have HE := Lib.hid (show normalB s f x.data.toList = ownK kd s.rules x.data.toList by rw [HVal.out, if_pos rfl, if_neg hx0])
      clear hx0
      rcases hkd with rfl | rfl | rfl | rfl
      · have HE2 := Lib.hid (show normalB s f x.data.toList = isOwn (nameN s.rules x.data.toList) x.data.toList from HE.out)
        go_enter Tryz.func17, Tryz.ntmps17
        go_wp2_with fail
        refine HK.out.mono ?_
        rintro e w1 ⟨rfl, hb1⟩
        have HB1 := Lib.hid (((Below.refl w.heap.size w).alloc (Nat.le_refl _) (.cells #[vf, vt, vn, vs] 33)).trans (hb1.mono (by simp)))
        have HX1 := Lib.hid (blk_below (b := w.heap.size) (o := .cells #[vf, vt, vn, vs] 33 (0, 0)) hb1 (by simp) (blk_new rfl))
        clear hb1 HK
        have cf : (w1.alloc (.cells (kindAt 1) 79)).cell? ⟨w1.heap.size, 2, none⟩ = some (fnV 104) := by rw [cell_of_row _ _ _ _ _ _ (heap_alloc_new w1 _)]; rfl
        have z0 := lt_of_blk HX1.out
        obtain ⟨p0, p1, p2, p3⟩ := cells4 HX1.out
        go_wp2_with (refine wpList_store_row rfl 79 (.tmp 7) (.tmp 13) rfl w1.heap.size (kindAt 1) rfl rfl 79 kind0 (heap_alloc_new w1 _) (by rw [KS.out]; kernel_rfl) (by rw [KS.out]; rfl) KO.out ?_; rw [World.setRow_alloc_new])
        have HB2 := HB1.out.alloc HB1.out.size (.cells (kindAt 1) 79)
        have HB2' := Lib.hid HB2
        refine (normal_any Any1 vt vn vs s.rules x _ (HS.out.2.below HB2) hx).mono ?_
        clear HB2
        rw [← HE2.out]
        obtain ⟨pb, hpp⟩ : ∃ p, normalB s f x.data.toList = p := ⟨_, rfl⟩
        rw [hpp]
        have HPP := Lib.hid hpp
        rintro e w3 ⟨rfl, hb3⟩
        have HB3 := Lib.hid (HB2'.out.trans (hb3.mono HB2'.out.size))
        clear hb3 hpp HE HE2 cf p0 p1 p2 p3
        go_wp2_with fail
        go_ret
        exact ⟨HF.out _ HPP.out, HB3.out⟩
      · have HE2 := Lib.hid (show normalB s f x.data.toList = readB x.data.toList from HE.out)
        go_enter Tryz.func17, Tryz.ntmps17
        go_wp2_with fail
        refine HK.out.mono ?_
        rintro e w1 ⟨rfl, hb1⟩
        have HB1 := Lib.hid (((Below.refl w.heap.size w).alloc (Nat.le_refl _) (.cells #[vf, vt, vn, vs] 33)).trans (hb1.mono (by simp)))
        have HX1 := Lib.hid (blk_below (b := w.heap.size) (o := .cells #[vf, vt, vn, vs] 33 (0, 0)) hb1 (by simp) (blk_new rfl))
        clear hb1 HK
        have cf : (w1.alloc (.cells (kindAt 2) 79)).cell? ⟨w1.heap.size, 2, none⟩ = some (fnV 107) := by rw [cell_of_row _ _ _ _ _ _ (heap_alloc_new w1 _)]; rfl
        have z0 := lt_of_blk HX1.out
        obtain ⟨p0, p1, p2, p3⟩ := cells4 HX1.out
        go_wp2_with (refine wpList_store_row rfl 79 (.tmp 7) (.tmp 13) rfl w1.heap.size (kindAt 2) rfl rfl 79 kind0 (heap_alloc_new w1 _) (by rw [KS.out]; kernel_rfl) (by rw [KS.out]; rfl) KO.out ?_; rw [World.setRow_alloc_new])
        have HB2 := HB1.out.alloc HB1.out.size (.cells (kindAt 2) 79)
        have HB2' := Lib.hid HB2
        refine (kind1_any vt vn vs x _).mono ?_
        clear HB2
        rw [← HE2.out]
        obtain ⟨pb, hpp⟩ : ∃ p, normalB s f x.data.toList = p := ⟨_, rfl⟩
        rw [hpp]
        have HPP := Lib.hid hpp
        rintro e w3 ⟨rfl, hb3⟩
        have HB3 := Lib.hid (HB2'.out.trans (hb3.mono HB2'.out.size))
        clear hb3 hpp HE HE2 cf p0 p1 p2 p3
        go_wp2_with fail
        go_ret
        exact ⟨HF.out _ HPP.out, HB3.out⟩
      · have HE2 := Lib.hid (show normalB s f x.data.toList = isOwn (codeN x.data.toList) x.data.toList from HE.out)
        go_enter Tryz.func17, Tryz.ntmps17
        go_wp2_with fail
        refine HK.out.mono ?_
        rintro e w1 ⟨rfl, hb1⟩
        have HB1 := Lib.hid (((Below.refl w.heap.size w).alloc (Nat.le_refl _) (.cells #[vf, vt, vn, vs] 33)).trans (hb1.mono (by simp)))
        have HX1 := Lib.hid (blk_below (b := w.heap.size) (o := .cells #[vf, vt, vn, vs] 33 (0, 0)) hb1 (by simp) (blk_new rfl))
        clear hb1 HK
        have cf : (w1.alloc (.cells (kindAt 3) 79)).cell? ⟨w1.heap.size, 2, none⟩ = some (fnV 112) := by rw [cell_of_row _ _ _ _ _ _ (heap_alloc_new w1 _)]; rfl
        have z0 := lt_of_blk HX1.out
        obtain ⟨p0, p1, p2, p3⟩ := cells4 HX1.out
        go_wp2_with (refine wpList_store_row rfl 79 (.tmp 7) (.tmp 13) rfl w1.heap.size (kindAt 3) rfl rfl 79 kind0 (heap_alloc_new w1 _) (by rw [KS.out]; kernel_rfl) (by rw [KS.out]; rfl) KO.out ?_; rw [World.setRow_alloc_new])
        have HB2 := HB1.out.alloc HB1.out.size (.cells (kindAt 3) 79)
        have HB2' := Lib.hid HB2
        refine (kind3_any vt vn vs x _ hx).mono ?_
        clear HB2
        rw [← HE2.out]
        obtain ⟨pb, hpp⟩ : ∃ p, normalB s f x.data.toList = p := ⟨_, rfl⟩
        rw [hpp]
        have HPP := Lib.hid hpp
        rintro e w3 ⟨rfl, hb3⟩
        have HB3 := Lib.hid (HB2'.out.trans (hb3.mono HB2'.out.size))
        clear hb3 hpp HE HE2 cf p0 p1 p2 p3
        go_wp2_with fail
        go_ret
        exact ⟨HF.out _ HPP.out, HB3.out⟩
      · have HE2 := Lib.hid (show normalB s f x.data.toList = isOwn (addrN s.rules x.data.toList) x.data.toList from HE.out)
        go_enter Tryz.func17, Tryz.ntmps17
        go_wp2_with fail
        refine HK.out.mono ?_
        rintro e w1 ⟨rfl, hb1⟩
        have HB1 := Lib.hid (((Below.refl w.heap.size w).alloc (Nat.le_refl _) (.cells #[vf, vt, vn, vs] 33)).trans (hb1.mono (by simp)))
        have HX1 := Lib.hid (blk_below (b := w.heap.size) (o := .cells #[vf, vt, vn, vs] 33 (0, 0)) hb1 (by simp) (blk_new rfl))
        clear hb1 HK
        have cf : (w1.alloc (.cells (kindAt 4) 79)).cell? ⟨w1.heap.size, 2, none⟩ = some (fnV 116) := by rw [cell_of_row _ _ _ _ _ _ (heap_alloc_new w1 _)]; rfl
        have z0 := lt_of_blk HX1.out
        obtain ⟨p0, p1, p2, p3⟩ := cells4 HX1.out
        go_wp2_with (refine wpList_store_row rfl 79 (.tmp 7) (.tmp 13) rfl w1.heap.size (kindAt 4) rfl rfl 79 kind0 (heap_alloc_new w1 _) (by rw [KS.out]; kernel_rfl) (by rw [KS.out]; rfl) KO.out ?_; rw [World.setRow_alloc_new])
        have HB2 := HB1.out.alloc HB1.out.size (.cells (kindAt 4) 79)
        have HB2' := Lib.hid HB2
        refine (anormal_any Any1 vt vn vs s.rules x _ (HS.out.2.below HB2) hx).mono ?_
        clear HB2
        rw [← HE2.out]
        obtain ⟨pb, hpp⟩ : ∃ p, normalB s f x.data.toList = p := ⟨_, rfl⟩
        rw [hpp]
        have HPP := Lib.hid hpp
        rintro e w3 ⟨rfl, hb3⟩
        have HB3 := Lib.hid (HB2'.out.trans (hb3.mono HB2'.out.size))
        clear hb3 hpp HE HE2 cf p0 p1 p2 p3
        go_wp2_with fail
        go_ret
        exact ⟨HF.out _ HPP.out, HB3.out⟩
  · have hne : (er == 0) = false := by simpa using he
    have HE := Lib.hid (show normalB s f x.data.toList = false by rw [HVal.out, if_neg he])
    clear he hkk
    go_enter Tryz.func17, Tryz.ntmps17
    go_wp2_with fail
    refine HK.out.mono ?_
    rintro e w1 ⟨rfl, hb1⟩
    have HB1 := Lib.hid (((Below.refl w.heap.size w).alloc (Nat.le_refl _) (.cells #[vf, vt, vn, vs] 33)).trans (hb1.mono (by simp)))
    have HX1 := Lib.hid (blk_below (b := w.heap.size) (o := .cells #[vf, vt, vn, vs] 33 (0, 0)) hb1 (by simp) (blk_new rfl))
    clear hb1 HK
    go_wp2_with (refine wpList_store_row rfl 79 (.tmp 7) (.tmp 13) rfl w1.heap.size (kindAt kd) rfl rfl 79 kind0 (heap_alloc_new w1 _) (by rw [KS.out]; kernel_rfl) (by rw [KS.out]; rfl) KO.out ?_; rw [World.setRow_alloc_new])
    go_ret
    exact ⟨HF.out _ HE.out, HB1.out.alloc HB1.out.size _⟩
end Go.Proofs.YtfgoiojmbphmnaaGreatDoor
end
section
/- schema: a line of the text of a schema. -/
set_option linter.unusedSimpArgs false
set_option linter.unusedVariables false
set_option maxRecDepth 100000
namespace Go.Proofs.YtfgoiojmbphmnaaGreatDoor
open Go.RowKit Cal
attribute [local go_sem] toList_mk mk_size
def ren167 : Go.Shelf.Ren := ⟨fun | 167 => 68 | n => Tryz.lays156_ren.f n, Tryz.lays156_ren.t, Tryz.lays156_ren.g⟩
theorem lays167' : Go.Proofs.Lays.n167 Tryz.prog ren167 := { Tryz.lays156 with
  f167 := Tryz.func68.trans (congrArg some (by kernel_rfl))
  f240 := Tryz.func101.trans (congrArg some (by kernel_rfl))
  f276 := Tryz.func132.trans (congrArg some (by kernel_rfl))
  t5 := Tryz.underlying5
  a5 := Tryz.isAgg5
  z5 := Tryz.sizeOf5
  v5 := Tryz.zeroValue5 }
theorem extra167 : Builder.Extra Tryz.prog ren167 := {
  sizeBuilder := by kernel_rfl
  liesBuilder := by kernel_rfl
  t5 := Tryz.underlying5
  a5 := Tryz.isAgg5
  z5 := Tryz.sizeOf5
  v5 := Tryz.zeroValue5
  infoByte := by kernel_rfl
  cellsByte := by kernel_rfl
  sizeByte := by kernel_rfl
  neB5 := by decide }
theorem wbyte_k (B b : Nat) (bs : List Value) (c : Int) (w : World) (h : Lib.IsBuilderF 94 5 B b bs w) (hlen : bs.length + 1 ≤ 140737488355328) (hBw : B ≤ w.heap.size) :
    Calls Tryz.prog 68 #[.pointer (some ⟨b, 0, none⟩), .int .u8 c] w fun e w' => e = .returned .nilIface ∧ (Lib.BuilderAtF 94 5 B b (.pointer (some ⟨b, 0, none⟩)) (bs ++ [.int .u8 c]) w' ∧ Below B w w' ∧ Lib.OthersKept 5 (some b) w w') :=
  Any.Builder_WriteByte_k lays167' extra167 B b bs c w h hlen hBw
theorem wstr_k (B b : Nat) (bs : List Value) (s : ByteArray) (w : World) (h : Lib.IsBuilderF 94 5 B b bs w) (hlen : bs.length + s.size ≤ 140737488355328) (hBw : B ≤ w.heap.size) :
    Calls Tryz.prog 66 #[.pointer (some ⟨b, 0, none⟩), .string s] w fun e w' => e = .returned (.tuple #[.int .i64 s.size, .nilIface]) ∧ (Lib.BuilderAtF 94 5 B b (.pointer (some ⟨b, 0, none⟩)) (bs ++ Lib.strCells s) w' ∧ Below B w w' ∧ Lib.OthersKept 5 (some b) w w') :=
  Any.Builder_WriteString_k { Tryz.lays156 with } Tryz.Builder_Extra_156 B b bs s w h hlen hBw
theorem bstr_k (B b : Nat) (l : List UInt8) (w : World) (h : Lib.IsBuilderF 94 5 B b (Lib.byteCells l) w) (hBw : B ≤ w.heap.size) :
    Calls Tryz.prog 70 #[.pointer (some ⟨b, 0, none⟩)] w fun e w' => e = .returned (.string ⟨l.toArray⟩) ∧ Below B w w' :=
  (Any.Builder_String_any_k Tryz.lays169 Tryz.Builder_Extra_169 B b l w h hBw).mono fun e w' h => ⟨h.1, h.2.2.1⟩
/-- the builder holds these bytes -/
def HoldsB (B b : Nat) (l : List UInt8) (w : World) : Prop := Lib.IsBuilderF 94 5 B b (Lib.byteCells l) w ∧ B ≤ w.heap.size
theorem own_belowF {w w' : World} {B e size n : Nat} {v : Value} {xs : List Value} (h : w.ownsRowF B e size v n xs) (hb : Below w.heap.size w w') : w'.ownsRowF B e size v n xs := by
  refine ⟨h.1, ?_⟩
  rcases h.2 with h0 | ⟨g, cap, cur, fz, hv, hg, hh, rest⟩
  · exact .inl h0
  · exact .inr ⟨g, cap, cur, fz, hv, hg, (hb.block g (lt_of_blk hh)).trans hh, rest⟩
theorem HoldsB.below {B b : Nat} {l : List UInt8} {w w' : World} (h : HoldsB B b l w) (hb : Below w.heap.size w w') : HoldsB B b l w' := by
  have key : ∀ p, Lib.BuilderAtF 94 5 B b p (Lib.byteCells l) w → Lib.BuilderAtF 94 5 B b p (Lib.byteCells l) w' := by
    rintro p ⟨h1, v, h2, h3, h4⟩
    exact ⟨h1, v, blk_below hb (lt_of_blk h2) h2, own_belowF h3 hb, h4⟩
  exact ⟨h.1.imp (key _) (key _), Nat.le_trans h.2 hb.size⟩
theorem kept_below {e : TypeId} {b : Option Nat} {w w' : World} (hb : Below w.heap.size w w') : Lib.OthersKept e b w w' := fun k o h _ _ => blk_below hb (lt_of_blk h) h
/-- what a line leaves -/
def LinePost (B b : Nat) (l : List UInt8) (w : World) (e : Ending) (w' : World) : Prop := e = .returned (.tuple #[]) ∧ HoldsB B b l w' ∧ Below B w w' ∧ Lib.OthersKept 5 (some b) w w'
set_option maxHeartbeats 1000000 in
theorem line_any (B b : Nat) (acc : List UInt8) (v : Value) (L : List (List UInt8)) (w : World) (hB : HoldsB B b acc w) (hV : Vec w Any1 1 encS v L) (hn : L.length ≤ 1000) (hj : (joinL L).length ≤ 1000000) (ha : acc.length ≤ 1000000000) :
    Calls Tryz.prog 65 #[v, .pointer (some ⟨b, 0, none⟩)] w (LinePost B b (acc ++ (joinL L ++ [10])) w) := by
  have HH := Lib.hid hB; have HVv := Lib.hid hV
  clear hB hV
  go_enter Tryz.func65, Tryz.ntmps65
  go_wp2_with fail
  refine (join_any Any1 v L _ HVv.out (by omega) (by omega)).mono ?_
  rintro e w1 ⟨rfl, hb1⟩
  obtain ⟨J, hJ⟩ : ∃ J, joinL L = J := ⟨_, rfl⟩
  rw [hJ] at hj ⊢
  have HJ := Lib.hid hJ
  have H1 := Lib.hid (HH.out.below hb1)
  have HW1 := Lib.hid (hb1.mono HH.out.2)
  have HK1 := Lib.hid (kept_below (e := 5) (b := some b) hb1)
  clear hb1 hJ HH
  go_wp2_with fail
  refine (wstr_k B b (Lib.byteCells acc) ⟨J.toArray⟩ _ H1.out.1 (by rw [Lib.byteCells_length, mk_size]; omega) H1.out.2).mono ?_
  rintro e w2 ⟨rfl, h2, hb2, hk2⟩
  rw [show Lib.strCells ⟨J.toArray⟩ = Lib.byteCells J from rfl, ← Lib.byteCells_append] at h2
  have hz2 : B ≤ w2.heap.size := Nat.le_trans H1.out.2 hb2.size
  have H2 := Lib.hid h2
  have HW2 := Lib.hid (HW1.out.trans hb2)
  have HK2 := Lib.hid (HK1.out.trans hk2)
  clear h2 hb2 hk2 HW1 H1 HK1
  go_wp2_with fail
  refine (wbyte_k B b (Lib.byteCells (acc ++ J)) 10 _ (.inr H2.out) (by rw [Lib.byteCells_length, List.length_append]; omega) hz2).mono ?_
  rintro e w3 ⟨rfl, h3, hb3, hk3⟩
  have H3 := Lib.hid h3
  have HW3 := Lib.hid (HW2.out.trans hb3)
  have HK3 := Lib.hid (HK2.out.trans hk3)
  have hz3 : B ≤ w3.heap.size := Nat.le_trans hz2 hb3.size
  clear h3 hb3 HW2 H2 hk3 HK2
  go_wp2_with fail
  go_end0
  exact ⟨rfl, by rw [HJ.out, ← List.append_assoc]; exact ⟨.inr (by rw [Lib.byteCells_append]; exact H3.out), hz3⟩, HW3.out, HK3.out⟩
end Go.Proofs.YtfgoiojmbphmnaaGreatDoor
end
section
/- schema.Text. -/
set_option linter.unusedSimpArgs false
set_option linter.unusedVariables false
set_option maxRecDepth 100000
namespace Go.Proofs.YtfgoiojmbphmnaaGreatDoor
open Go.RowKit Cal
attribute [local go_sem] toList_mk mk_size
/-- the word of a kind -/
def kindW (k : Int) : List UInt8 := if k = 1 then [110, 97, 109, 101] else if k = 2 then [100, 97, 116, 101] else if k = 3 then [99, 111, 100, 101] else if k = 4 then [97, 100, 100, 114, 101, 115, 115] else []
theorem kindW_len (k : Int) : (kindW k).length ≤ 7 := by
  unfold kindW; repeat' split
  all_goals simp
def fieldLine (x : F2) : List UInt8 := joinL [[102, 105, 101, 108, 100], x.1, kindW x.2] ++ [10]
def titleLine (t : List UInt8) : List UInt8 := joinL [[116, 105, 116, 108, 101], t] ++ [10]
def nickLine (p : P2) : List UInt8 := joinL [[110, 105, 99, 107, 110, 97, 109, 101], p.1, p.2] ++ [10]
def streetLine (p : P2) : List UInt8 := joinL [[115, 116, 114, 101, 101, 116], p.1, p.2] ++ [10]
def textL (s : SchemaL) : List UInt8 := s.fields.flatMap fieldLine ++ (s.rules.titles.flatMap titleLine ++ (s.rules.nicks.flatMap nickLine ++ s.rules.streets.flatMap streetLine))
theorem join3_len (a b c : List UInt8) : (joinL [a, b, c]).length = a.length + b.length + c.length + 2 := by simp [joinL]; omega
theorem join2_len (a b : List UInt8) : (joinL [a, b]).length = a.length + b.length + 1 := by simp [joinL]; omega
theorem flat_bound {α : Type} {g : α → List UInt8} {m : Nat} : ∀ (L : List α), (∀ x ∈ L, (g x).length ≤ m) → (L.flatMap g).length ≤ L.length * m := by
  intro L
  induction L with
  | nil => intro _; simp
  | cons x L ih =>
    intro h
    have h1 := ih fun y hy => h y (List.mem_cons_of_mem _ hy)
    have h2 := h x List.mem_cons_self
    rw [List.flatMap_cons, List.length_append, List.length_cons, Nat.succ_mul]; omega
theorem wordB_len {t : List UInt8} (h : wordB t = true) : t.length ≤ 12 := by
  unfold wordB at h
  cases h1 : t.isEmpty <;> simp [h1] at h
  exact h.1
theorem getD_mem {α : Type} [Inhabited α] {L : List α} {p : α → Prop} (h : ∀ j, j < L.length → p (L.getD j default)) : ∀ x ∈ L, p x := by
  intro x hx
  obtain ⟨j, hj, rfl⟩ := List.mem_iff_getElem.1 hx
  have := h j hj
  rwa [List.getD, List.getElem?_eq_getElem hj] at this
/-- the lengths of all texts of a valid schema -/
theorem check_lens {s : SchemaL} (h : checkS s = 0) : (∀ x ∈ s.fields, x.1.length ≤ 12) ∧ (∀ t ∈ s.rules.titles, t.length ≤ 64) ∧ (∀ p ∈ s.rules.nicks, p.1.length ≤ 64 ∧ p.2.length ≤ 64) ∧ (∀ p ∈ s.rules.streets, p.1.length ≤ 64 ∧ p.2.length ≤ 64) := by
  obtain ⟨_, h2, h3⟩ := check_fields h
  obtain ⟨_, t1, t2, t3, _⟩ := check_zero h3
  have pr : ∀ L : List P2, pairsB L = true → ∀ p ∈ L, p.1.length ≤ 64 ∧ p.2.length ≤ 64 := fun L hL => getD_mem fun j hj => by
    have := pairs_at hL j hj
    unfold pairAtB at this
    simp only [Bool.and_eq_true] at this
    exact ⟨token_len this.1.1.1, token_len this.1.1.2⟩
  refine ⟨getD_mem fun j hj => ?_, ?_, pr _ t2, pr _ t3⟩
  · have := List.all_eq_true.1 h2 j (List.mem_range.2 hj)
    unfold fieldAtB at this
    simp only [Bool.and_eq_true] at this
    exact wordB_len this.1.1.1
  · refine getD_mem fun j hj => ?_
    have := List.all_eq_true.1 t1 j (List.mem_range.2 hj)
    unfold titleAt at this
    simp only [Bool.and_eq_true] at this
    exact token_len this.1
theorem field_kindW (kd : Int) (h1 : 1 ≤ kd) (h4 : kd ≤ 4) : ∀ w, (Instr.field 79 (.agg (kindAt kd)) 0).run Tryz.prog w = .ok (strV (kindW kd)) w := by
  obtain rfl | rfl | rfl | rfl : kd = 1 ∨ kd = 2 ∨ kd = 3 ∨ kd = 4 := by omega
  · exact fun w => by kernel_rfl
  · exact fun w => by kernel_rfl
  · exact fun w => by kernel_rfl
  · exact fun w => by kernel_rfl
theorem vec_block {w : World} {A : Nat} {L : List (List UInt8)} (h : w.heap[A]? = some (.cells (L.flatMap encS).toArray 9 (0, 0))) (n : Nat) (hn : n = L.length) : Vec w Any1 1 encS (.slice (some ⟨A, 0, none⟩) n n) L := by
  subst hn; exact RowB.vec h _ (Nat.le_refl _)
theorem flat_take {α : Type} (g : α → List UInt8) (L : List α) (k : Nat) : ((L.take k).flatMap g).length ≤ (L.flatMap g).length := by
  conv => rhs; rw [← List.take_append_drop k L]
  rw [List.flatMap_append, List.length_append]; omega
theorem take_snocA {α : Type} [Inhabited α] (T : List α) (k : Nat) (h : k < T.length) : T.take (k + 1) = T.take k ++ [T.getD k default] := by
  rw [List.take_succ_eq_append_getElem h, List.getD, List.getElem?_eq_getElem h]; rfl
theorem kept_block {b k : Nat} {w w' : World} (hk : Lib.OthersKept 5 (some b) w w') {cs : Array Value} {t : TypeId} {fr : Nat × Nat} (h : w.heap[k]? = some (.cells cs t fr)) (hne : k ≠ b) (hT : t ≠ 5) : w'.heap[k]? = some (.cells cs t fr) :=
  hk k _ h (fun e => hne (by injection e)) (fun c fz e => by injection e with e1 e2; exact hT e2)
theorem HoldsB.lt {B b : Nat} {l : List UInt8} {w : World} (h : HoldsB B b l w) : b < w.heap.size := by
  rcases h.1 with ⟨_, v, h2, _⟩ | ⟨_, v, h2, _⟩ <;> exact lt_of_blk h2
/-- what the loops of Text hold: the text so far; the blocks of w1 as they were -/
def TextAt (w1 : World) (l : List UInt8) (wr : World) : Prop := HoldsB w1.heap.size w1.heap.size l wr ∧ Below w1.heap.size w1 wr
theorem TextAt.below {w1 wr w' : World} {l : List UInt8} (h : TextAt w1 l wr) (hb : Below wr.heap.size wr w') : TextAt w1 l w' := ⟨h.1.below hb, h.2.trans (hb.mono h.2.size)⟩
set_option maxHeartbeats 8000000 in
theorem text_yes (S : Nat → Prop) (vf vt vn vs : Value) (s : SchemaL) (w : World) (h : SchemaAt w S vf vt vn vs s) (hc : checkS s = 0) :
    Calls Tryz.prog 34 #[.agg #[vf, vt, vn, vs]] w fun e w' => e = .returned (pairV (textL s, 0)) ∧ Below w.heap.size w w' := by
  obtain ⟨g1, g2, g3⟩ := check_fields hc
  obtain ⟨⟨n1, n2, n3⟩, _⟩ := check_zero g3
  obtain ⟨l1, l2, l3, l4⟩ := check_lens hc
  have B1 := flat_bound (g := fieldLine) (m := 40) s.fields (fun x hx => by have := l1 x hx; have := kindW_len x.2; unfold fieldLine; rw [List.length_append, join3_len]; simp; omega)
  have B2 := flat_bound (g := titleLine) (m := 80) s.rules.titles (fun x hx => by have := l2 x hx; unfold titleLine; rw [List.length_append, join2_len]; simp; omega)
  have B3 := flat_bound (g := nickLine) (m := 160) s.rules.nicks (fun x hx => by have := l3 x hx; unfold nickLine; rw [List.length_append, join3_len]; simp; omega)
  have B4 := flat_bound (g := streetLine) (m := 160) s.rules.streets (fun x hx => by have := l4 x hx; unfold streetLine; rw [List.length_append, join3_len]; simp; omega)
  obtain ⟨F, ⟨T, N, R⟩⟩ := s
  dsimp only at *
  obtain ⟨af, cf, rfl⟩ := h.1.slice
  obtain ⟨at1, ct, rfl⟩ := h.2.1.slice
  obtain ⟨an, cn, rfl⟩ := h.2.2.1.slice
  obtain ⟨as', cs, rfl⟩ := h.2.2.2.slice
  have HS := Lib.hid h.any
  have HC := Lib.hid hc
  have L1 := Lib.hid l1; have L2 := Lib.hid l2; have L3 := Lib.hid l3; have L4 := Lib.hid l4
  have HFk := Lib.hid g2
  clear h hc g2 g3 l1 l2 l3 l4
  dsimp only at *
  go_enter Tryz.func34, Tryz.ntmps34
  go_wp2_with fail
  refine (scheck_any Any1 _ _ _ _ _ _ (HS.out.below ((Below.refl _ _).alloc (Nat.le_refl _) _))).mono ?_
  rw [HC.out]
  rintro e w1 ⟨rfl, hb1⟩
  have X1 := blk_below (b := w.heap.size) (o := .cells #[.slice af F.length cf, .slice at1 T.length ct, .slice an N.length cn, .slice as' R.length cs] 33 (0, 0)) hb1 (by simp) (blk_new rfl)
  have HX1 := Lib.hid X1
  have z1 := lt_of_blk X1
  obtain ⟨p0, p1, p2, p3⟩ := cells4 X1
  have HB1 := Lib.hid (((Below.refl w.heap.size w).alloc (Nat.le_refl _) (.cells #[.slice af F.length cf, .slice at1 T.length ct, .slice an N.length cn, .slice as' R.length cs] 33)).trans (hb1.mono (by simp)))
  clear hb1 X1
  go_wp2_with fail
  go_loopw [24] (fun i wr => ∃ k : Nat, k ≤ F.length ∧ i = .int .i64 k ∧ TextAt w1 ((F.take k).flatMap fieldLine) wr) (fun i _ => F.length - (intOf i).toNat)
  case atStart => exact ⟨0, by omega, rfl, ⟨.inl ⟨Nat.le_refl _, _, blk_new rfl, ⟨rfl, .inl ⟨rfl, rfl⟩⟩, by simp [Value.ownBlock]⟩, by simp⟩, (Below.refl _ _).alloc (Nat.le_refl _) _⟩
  case round =>
    obtain ⟨k, hk, rfl, ho⟩ := hrel
    have HO := Lib.hid ho
    by_cases hlt : k < F.length
    · have hq : decide ((k : Int) < F.length) = true := by simp; omega
      have hi : (k : Int) < (F.length : Int) := by omega
      obtain ⟨b, off, e1, _, hb, hcc⟩ := vec_cell2 (HS.out.1.below HB1.out) (show 0 < F.length by omega)
      subst e1
      have hc := hcc k hlt
      have htk := take_snocA F k hlt
      obtain ⟨kk1, kk4⟩ := field_kind HFk.out k hlt
      have hml := L1.out (F.getD k default) (by rw [List.getD, List.getElem?_eq_getElem hlt]; exact List.getElem_mem hlt)
      obtain ⟨⟨nm, kd⟩, hx⟩ : ∃ x, F.getD k default = x := ⟨_, rfl⟩
      rw [hx] at hc htk hml kk1 kk4
      dsimp only at kk1 kk4 hml
      have c0 : wr.cell? ⟨b, off + k * 2, none⟩ = some (strV nm) := (ho.2.cell (p := ⟨b, off + k * 2, none⟩) hb).trans (hc 0 _ rfl)
      have c1 : wr.cell? ⟨b, off + k * 2 + 1, none⟩ = some (.int .i64 kd) := (ho.2.cell (p := ⟨b, off + k * 2 + 1, none⟩) hb).trans (hc 1 _ rfl)
      have hlt1 := ho.1.lt
      have HT := Lib.hid htk
      have HIX := Lib.hid (index_kind kd kk1 kk4)
      clear hx hc hcc htk ho
      go_wp2_with fail
      refine wp_world (fun wS hS => ?_)
      have bS : Below wr.heap.size wr wS := by rw [hS]; exact (Below.refl _ _).alloc (Nat.le_refl _) _
      have q0 : wS.cell? ⟨wr.heap.size, 0, none⟩ = some (strV nm) := by rw [hS]; simp
      have q1 : wS.cell? ⟨wr.heap.size, 1, none⟩ = some (.int .i64 kd) := by rw [hS]; simp
      have zS : wr.heap.size < wS.heap.size := by rw [hS]; simp
      have hY : wS.heap[wr.heap.size]? = some (.cells #[strV nm, .int .i64 kd] 42 (0, 0)) := by rw [hS]; exact blk_new rfl
      have HY := Lib.hid hY
      have HOS := Lib.hid (show TextAt w1 ((F.take k).flatMap fieldLine) wS from ⟨HO.out.1.below bS, HO.out.2.trans (bS.mono HO.out.2.size)⟩)
      clear hS bS c0 c1 hY HO p0 p1 p2 p3
      have hne4 : wr.heap.size ≠ w1.heap.size := by have := hlt1; omega
      have hacc : ((F.take k).flatMap fieldLine).length ≤ 1000000000 := by have := flat_take fieldLine F k; omega
      refine wp_region_noPanic ?_
      refine wp_region_held_drew (S := (fun w' => w'.cell? ⟨wr.heap.size, 0, none⟩ = some (strV nm) ∧ w'.cell? ⟨wr.heap.size, 1, none⟩ = some (.int .i64 kd))) (by kernel_rfl) (⟨q0, q1⟩) (fun hHeld => ?_)
      refine wpAnyH_take (i := 0) (v := ?_) rfl (by kernel_rfl) (by kernel_rfl) (by kernel_rfl) (fun _ _ _ h => h) (Or.inl ⟨by rfl, ?_⟩) (by assumption) ?_
      rotate_left 1
      · (intro wS hSw; (try dsimp only at hSw); go_simp; try with_reducible rfl)
      try simp only [List.getElem_toArray, List.getElem_cons_zero, List.getElem_cons_succ, Act.put, List.setIfInBounds_toArray, List.set_cons_zero, List.set_cons_succ]
      refine wpAnyH_take (i := 1) (v := ?_) rfl (by kernel_rfl) (by kernel_rfl) (by kernel_rfl) (fun _ _ _ h => h) (Or.inl ⟨by rfl, ?_⟩) (by assumption) ?_
      rotate_left 1
      · (intro wS hSw; (try dsimp only at hSw); go_simp; try with_reducible rfl)
      try simp only [List.getElem_toArray, List.getElem_cons_zero, List.getElem_cons_succ, Act.put, List.setIfInBounds_toArray, List.set_cons_zero, List.set_cons_succ]
      refine wpAnyH_take (i := 2) (v := ?_) rfl (by kernel_rfl) (by kernel_rfl) (by kernel_rfl) (fun _ _ _ h => h) (Or.inl ⟨by rfl, ?_⟩) (by assumption) ?_
      rotate_left 1
      · (intro wS hSw; (try dsimp only at hSw); go_simp; try with_reducible rfl)
      try simp only [List.getElem_toArray, List.getElem_cons_zero, List.getElem_cons_succ, Act.put, List.setIfInBounds_toArray, List.set_cons_zero, List.set_cons_succ]
      refine wpAnyH_take (i := 4) (v := ?_) rfl (by kernel_rfl) (by kernel_rfl) (by kernel_rfl) (fun _ _ _ h => h) (Or.inl ⟨by rfl, ?_⟩) (by assumption) ?_
      rotate_left 1
      · (intro wS hSw; (try dsimp only at hSw); go_simp; try with_reducible rfl)
      try simp only [List.getElem_toArray, List.getElem_cons_zero, List.getElem_cons_succ, Act.put, List.setIfInBounds_toArray, List.set_cons_zero, List.set_cons_succ]
      refine wpAnyH_take (i := 5) (v := ?_) rfl (by kernel_rfl) (by kernel_rfl) (by kernel_rfl) (fun _ _ _ h => h) (Or.inl ⟨by rfl, ?_⟩) (by assumption) ?_
      rotate_left 1
      · (intro wS hSw; (try dsimp only at hSw); go_simp; try with_reducible rfl)
      try simp only [List.getElem_toArray, List.getElem_cons_zero, List.getElem_cons_succ, Act.put, List.setIfInBounds_toArray, List.set_cons_zero, List.set_cons_succ]
      refine wpAnyH_ready (rs := [3]) (by kernel_rfl) (by simp) ?_
      refine AllReadyH.cons rfl (fun K hK => ?_) AllReadyH.nil
      go_simp
      refine (kinds_any _).mono ?_; rintro e w2 ⟨rfl, hb2⟩; have q0a := (hb2.cell (p := ⟨wr.heap.size, 0, none⟩) zS).trans q0; have q1a := (hb2.cell (p := ⟨wr.heap.size, 1, none⟩) zS).trans q1; have HO2 := Lib.hid (show TextAt w1 ((F.take k).flatMap fieldLine) w2 from ⟨(HOS.out.1.below (w' := wS.drew) (Below.refl _ _).drew).below hb2, (HOS.out.2.drew).trans (hb2.mono HOS.out.2.size)⟩); have HY2 := Lib.hid (blk_below hb2 zS HY.out)
      refine hK.out _ _ (⟨q0a, q1a⟩) (fun hHeld => ?_)
      clear hK K
      try simp only [List.getElem_toArray, List.getElem_cons_zero, List.getElem_cons_succ, Act.put, List.setIfInBounds_toArray, List.set_cons_zero, List.set_cons_succ]
      have hix := HIX.out
      refine wpAnyH_take (i := 6) (v := ?_) rfl (by kernel_rfl) (by kernel_rfl) (by kernel_rfl) (fun _ _ _ h => h) (Or.inl ⟨by rfl, ?_⟩) (by assumption) ?_
      rotate_left 1
      · (intro wS hSw; (try dsimp only at hSw); go_simp; try with_reducible rfl)
      try simp only [List.getElem_toArray, List.getElem_cons_zero, List.getElem_cons_succ, Act.put, List.setIfInBounds_toArray, List.set_cons_zero, List.set_cons_succ]
      clear hix
      have hfd := field_kindW kd kk1 kk4
      refine wpAnyH_take (i := 7) (v := ?_) rfl (by kernel_rfl) (by kernel_rfl) (by kernel_rfl) (fun _ _ _ h => h) (Or.inl ⟨by rfl, ?_⟩) (by assumption) ?_
      rotate_left 1
      · (intro wS hSw; (try dsimp only at hSw); go_simp; try with_reducible rfl)
      try simp only [List.getElem_toArray, List.getElem_cons_zero, List.getElem_cons_succ, Act.put, List.setIfInBounds_toArray, List.set_cons_zero, List.set_cons_succ]
      clear hfd
      refine wpAnyH_ready (rs := [8]) (by kernel_rfl) (by simp) ?_
      refine AllReadyH.cons rfl (fun K hK => ?_) AllReadyH.nil
      go_simp
      have hV3 := vec_block (w := w2.alloc (.cells #[strV [102, 105, 101, 108, 100], strV nm, strV (kindW kd)] 9)) (A := w2.heap.size) (L := [[102, 105, 101, 108, 100], nm, kindW kd]) (blk_new rfl) 3 rfl; have HV3 := Lib.hid hV3; have HO3 := Lib.hid (show TextAt w1 ((F.take k).flatMap fieldLine) (w2.alloc (.cells #[strV [102, 105, 101, 108, 100], strV nm, strV (kindW kd)] 9)) from ⟨HO2.out.1.below ((Below.refl _ _).alloc (Nat.le_refl _) _), HO2.out.2.alloc HO2.out.2.size _⟩); have q0b := (((Below.refl w2.heap.size w2).alloc (Nat.le_refl _) (.cells #[strV [102, 105, 101, 108, 100], strV nm, strV (kindW kd)] 9)).cell (p := ⟨wr.heap.size, 0, none⟩) (lt_of_blk HY2.out)).trans q0a; have q1b := (((Below.refl w2.heap.size w2).alloc (Nat.le_refl _) (.cells #[strV [102, 105, 101, 108, 100], strV nm, strV (kindW kd)] 9)).cell (p := ⟨wr.heap.size, 1, none⟩) (lt_of_blk HY2.out)).trans q1a
      refine hK.out _ _ (⟨q0b, q1b⟩) (fun hHeld => ?_)
      clear hK K
      try simp only [List.getElem_toArray, List.getElem_cons_zero, List.getElem_cons_succ, Act.put, List.setIfInBounds_toArray, List.set_cons_zero, List.set_cons_succ]
      refine wpAnyH_ready (rs := [9]) (by kernel_rfl) (by simp) ?_
      refine AllReadyH.cons rfl (fun K hK => ?_) AllReadyH.nil
      go_simp
      refine (line_any w1.heap.size w1.heap.size ((F.take k).flatMap fieldLine) _ [[102, 105, 101, 108, 100], nm, kindW kd] _ HO3.out.1 HV3.out (by simp) (by rw [join3_len]; have := kindW_len kd; simp; omega) hacc).mono ?_; rintro e w4 ⟨rfl, h4, hb4, hk4⟩; have hY4 := kept_block hk4 (blk_old HY2.out) hne4 (by decide); have q0c : w4.cell? ⟨wr.heap.size, 0, none⟩ = some (strV nm) := (cell_of_row _ _ _ _ _ _ hY4).trans rfl; have q1c : w4.cell? ⟨wr.heap.size, 1, none⟩ = some (.int .i64 kd) := (cell_of_row _ _ _ _ _ _ hY4).trans rfl; have HO4 := Lib.hid (show TextAt w1 ((F.take (k + 1)).flatMap fieldLine) w4 from ⟨by rw [HT.out, List.flatMap_append]; simpa [fieldLine] using h4, HO3.out.2.trans hb4⟩)
      refine hK.out _ _ (⟨q0c, q1c⟩) (fun hHeld => ?_)
      clear hK K
      try simp only [List.getElem_toArray, List.getElem_cons_zero, List.getElem_cons_succ, Act.put, List.setIfInBounds_toArray, List.set_cons_zero, List.set_cons_succ]
      refine wpAnyH_done (by kernel_rfl) ?_ _
      refine NoPanic.normal ?_
      go_wp2_with fail
      go_roundw
      case rel => exact ⟨k + 1, by omega, by go_num, HO4.out⟩
      case measure => simp [intOf]; omega
    · have hq : decide ((k : Int) < F.length) = false := by simp; omega
      rw [List.take_of_length_le (by omega)] at ho
      have hX := blk_below ho.2 z1 HX1.out
      obtain ⟨p0, p1, p2, p3⟩ := cells4 hX
      obtain ⟨a1, ha1⟩ : ∃ a, F.flatMap fieldLine = a := ⟨_, rfl⟩
      have ba1 : a1.length ≤ 200 := by rw [← ha1]; omega
      rw [ha1] at ho
      have Ha1 := Lib.hid ha1
      have HO := Lib.hid ho
      obtain ⟨wu, rfl⟩ : ∃ wu : World, wu = wr := ⟨_, rfl⟩
      clear ho hX ha1
      go_wp2_with fail
      clear p0 p1 p2 p3 hq
      go_loopw [43] (fun i wr => ∃ k : Nat, k ≤ T.length ∧ i = .int .i64 k ∧ TextAt w1 (a1 ++ (T.take k).flatMap titleLine) wr) (fun i _ => T.length - (intOf i).toNat)
      case atStart => exact ⟨0, by omega, rfl, by simpa using HO.out⟩
      case round =>
        clear HO
        obtain ⟨k, hk, rfl, ho⟩ := hrel
        have HO := Lib.hid ho
        by_cases hlt : k < T.length
        · have hq : decide ((k : Int) < T.length) = true := by simp; omega
          have hi : (k : Int) < (T.length : Int) := by omega
          obtain ⟨b, off, e1, _, hb, hcc⟩ := vec_cell1 (HS.out.2.1.below HB1.out) (show 0 < T.length by omega)
          subst e1
          have htk := take_snocT T k hlt
          have hml := L2.out (T.getD k []) (by rw [List.getD, List.getElem?_eq_getElem hlt]; exact List.getElem_mem hlt)
          have hc := hcc k hlt
          obtain ⟨x, hx⟩ : ∃ x, T.getD k [] = x := ⟨_, rfl⟩
          rw [hx] at hc htk hml
          have c0 : wr.cell? ⟨b, off + k, none⟩ = some (strV x) := (ho.2.cell (p := ⟨b, off + k, none⟩) hb).trans hc
          have HT := Lib.hid htk
          have hacc : (a1 ++ (T.take k).flatMap titleLine).length ≤ 1000000000 := by have := flat_take titleLine T k; rw [List.length_append]; omega
          clear hx hc hcc htk ho
          go_wp2_with fail
          have bA : Below wr.heap.size wr (wr.alloc (.cells #[strV [116, 105, 116, 108, 101], strV x] 9)) := (Below.refl _ _).alloc (Nat.le_refl _) _
          refine (line_any w1.heap.size w1.heap.size (a1 ++ (T.take k).flatMap titleLine) _ [[116, 105, 116, 108, 101], x] _ (HO.out.below bA).1 (vec_block (L := [[116, 105, 116, 108, 101], x]) (blk_new rfl) 2 rfl) (by simp) (by rw [join2_len]; simp; omega) hacc).mono ?_
          rintro e w4 ⟨rfl, h4, hb4, hk4⟩
          have HO4 := Lib.hid (show TextAt w1 (a1 ++ (T.take (k + 1)).flatMap titleLine) w4 from ⟨by rw [HT.out, List.flatMap_append, ← List.append_assoc]; simpa [titleLine] using h4, (HO.out.below bA).2.trans hb4⟩)
          clear h4 hb4 hk4 bA
          go_wp2_with fail
          go_roundw
          case rel => exact ⟨k + 1, by omega, by go_num, HO4.out⟩
          case measure => simp [intOf]; omega
        · have hq : decide ((k : Int) < T.length) = false := by simp; omega
          rw [List.take_of_length_le (by omega)] at ho
          have hX := blk_below ho.2 z1 HX1.out
          obtain ⟨p0, p1, p2, p3⟩ := cells4 hX
          obtain ⟨a2, ha2⟩ : ∃ a, a1 ++ T.flatMap titleLine = a := ⟨_, rfl⟩
          have ba2 : a2.length ≤ 3000 := by rw [← ha2]; rw [List.length_append]; omega
          rw [ha2] at ho
          have Ha2 := Lib.hid ha2
          have HO := Lib.hid ho
          obtain ⟨wu, rfl⟩ : ∃ wu : World, wu = wr := ⟨_, rfl⟩
          clear ho hX ha2
          go_wp2_with fail
          clear p0 p1 p2 p3 hq
          go_loopw [56] (fun i wr => ∃ k : Nat, k ≤ N.length ∧ i = .int .i64 k ∧ TextAt w1 (a2 ++ (N.take k).flatMap nickLine) wr) (fun i _ => N.length - (intOf i).toNat)
          case atStart => exact ⟨0, by omega, rfl, by simpa using HO.out⟩
          case round =>
            clear HO
            obtain ⟨k, hk, rfl, ho⟩ := hrel
            have HO := Lib.hid ho
            by_cases hlt : k < N.length
            · have hq : decide ((k : Int) < N.length) = true := by simp; omega
              have hi : (k : Int) < (N.length : Int) := by omega
              obtain ⟨b, off, e1, _, hb, hcc⟩ := vec_cell2 (HS.out.2.2.1.below HB1.out) (show 0 < N.length by omega)
              subst e1
              have htk := take_snocA N k hlt
              have hml := L3.out (N.getD k default) (by rw [List.getD, List.getElem?_eq_getElem hlt]; exact List.getElem_mem hlt)
              have hc := hcc k hlt
              obtain ⟨⟨xf, xt⟩, hx⟩ : ∃ x, N.getD k default = x := ⟨_, rfl⟩
              rw [hx] at hc htk hml
              obtain ⟨hm1, hm2⟩ := hml
              dsimp only at hm1 hm2
              have c0 : wr.cell? ⟨b, off + k * 2, none⟩ = some (strV xf) := (ho.2.cell (p := ⟨b, off + k * 2, none⟩) hb).trans (hc 0 _ rfl)
              have c1 : wr.cell? ⟨b, off + k * 2 + 1, none⟩ = some (strV xt) := (ho.2.cell (p := ⟨b, off + k * 2 + 1, none⟩) hb).trans (hc 1 _ rfl)
              have HT := Lib.hid htk
              have hacc : (a2 ++ (N.take k).flatMap nickLine).length ≤ 1000000000 := by have := flat_take nickLine N k; rw [List.length_append]; omega
              clear hx hc hcc htk ho
              go_wp2_with fail
              have bA : Below wr.heap.size wr ((wr.alloc (.cells #[strV xf, strV xt] 83)).alloc (.cells #[strV [110, 105, 99, 107, 110, 97, 109, 101], strV xf, strV xt] 9)) := ((Below.refl _ _).alloc (Nat.le_refl _) _).alloc (by simp) _
              refine (line_any w1.heap.size w1.heap.size (a2 ++ (N.take k).flatMap nickLine) _ [[110, 105, 99, 107, 110, 97, 109, 101], xf, xt] _ (HO.out.below bA).1 (vec_block (L := [[110, 105, 99, 107, 110, 97, 109, 101], xf, xt]) (blk_new (by simp)) 3 rfl) (by simp) (by rw [join3_len]; simp; omega) hacc).mono ?_
              rintro e w4 ⟨rfl, h4, hb4, hk4⟩
              have HO4 := Lib.hid (show TextAt w1 (a2 ++ (N.take (k + 1)).flatMap nickLine) w4 from ⟨by rw [HT.out, List.flatMap_append, ← List.append_assoc]; simpa [nickLine] using h4, (HO.out.below bA).2.trans hb4⟩)
              clear h4 hb4 hk4 bA
              go_wp2_with fail
              go_roundw
              case rel => exact ⟨k + 1, by omega, by go_num, HO4.out⟩
              case measure => simp [intOf]; omega
            · have hq : decide ((k : Int) < N.length) = false := by simp; omega
              rw [List.take_of_length_le (by omega)] at ho
              have hX := blk_below ho.2 z1 HX1.out
              obtain ⟨p0, p1, p2, p3⟩ := cells4 hX
              obtain ⟨a3, ha3⟩ : ∃ a, a2 ++ N.flatMap nickLine = a := ⟨_, rfl⟩
              have ba3 : a3.length ≤ 10000 := by rw [← ha3]; rw [List.length_append]; omega
              rw [ha3] at ho
              have Ha3 := Lib.hid ha3
              have HO := Lib.hid ho
              obtain ⟨wu, rfl⟩ : ∃ wu : World, wu = wr := ⟨_, rfl⟩
              clear ho hX ha3
              go_wp2_with fail
              clear p0 p1 p2 p3 hq
              go_loopw [72] (fun i wr => ∃ k : Nat, k ≤ R.length ∧ i = .int .i64 k ∧ TextAt w1 (a3 ++ (R.take k).flatMap streetLine) wr) (fun i _ => R.length - (intOf i).toNat)
              case atStart => exact ⟨0, by omega, rfl, by simpa using HO.out⟩
              case round =>
                clear HO
                obtain ⟨k, hk, rfl, ho⟩ := hrel
                have HO := Lib.hid ho
                by_cases hlt : k < R.length
                · have hq : decide ((k : Int) < R.length) = true := by simp; omega
                  have hi : (k : Int) < (R.length : Int) := by omega
                  obtain ⟨b, off, e1, _, hb, hcc⟩ := vec_cell2 (HS.out.2.2.2.below HB1.out) (show 0 < R.length by omega)
                  subst e1
                  have htk := take_snocA R k hlt
                  have hml := L4.out (R.getD k default) (by rw [List.getD, List.getElem?_eq_getElem hlt]; exact List.getElem_mem hlt)
                  have hc := hcc k hlt
                  obtain ⟨⟨xf, xt⟩, hx⟩ : ∃ x, R.getD k default = x := ⟨_, rfl⟩
                  rw [hx] at hc htk hml
                  obtain ⟨hm1, hm2⟩ := hml
                  dsimp only at hm1 hm2
                  have c0 : wr.cell? ⟨b, off + k * 2, none⟩ = some (strV xf) := (ho.2.cell (p := ⟨b, off + k * 2, none⟩) hb).trans (hc 0 _ rfl)
                  have c1 : wr.cell? ⟨b, off + k * 2 + 1, none⟩ = some (strV xt) := (ho.2.cell (p := ⟨b, off + k * 2 + 1, none⟩) hb).trans (hc 1 _ rfl)
                  have HT := Lib.hid htk
                  have hacc : (a3 ++ (R.take k).flatMap streetLine).length ≤ 1000000000 := by have := flat_take streetLine R k; rw [List.length_append]; omega
                  clear hx hc hcc htk ho
                  go_wp2_with fail
                  have bA : Below wr.heap.size wr ((wr.alloc (.cells #[strV xf, strV xt] 83)).alloc (.cells #[strV [115, 116, 114, 101, 101, 116], strV xf, strV xt] 9)) := ((Below.refl _ _).alloc (Nat.le_refl _) _).alloc (by simp) _
                  refine (line_any w1.heap.size w1.heap.size (a3 ++ (R.take k).flatMap streetLine) _ [[115, 116, 114, 101, 101, 116], xf, xt] _ (HO.out.below bA).1 (vec_block (L := [[115, 116, 114, 101, 101, 116], xf, xt]) (blk_new (by simp)) 3 rfl) (by simp) (by rw [join3_len]; simp; omega) hacc).mono ?_
                  rintro e w4 ⟨rfl, h4, hb4, hk4⟩
                  have HO4 := Lib.hid (show TextAt w1 (a3 ++ (R.take (k + 1)).flatMap streetLine) w4 from ⟨by rw [HT.out, List.flatMap_append, ← List.append_assoc]; simpa [streetLine] using h4, (HO.out.below bA).2.trans hb4⟩)
                  clear h4 hb4 hk4 bA
                  go_wp2_with fail
                  go_roundw
                  case rel => exact ⟨k + 1, by omega, by go_num, HO4.out⟩
                  case measure => simp [intOf]; omega
                · have hq : decide ((k : Int) < R.length) = false := by simp; omega
                  rw [List.take_of_length_le (by omega)] at ho
                  have hall : a3 ++ R.flatMap streetLine = textL ⟨F, T, N, R⟩ := by
                    rw [← Ha3.out, ← Ha2.out, ← Ha1.out]; simp [textL, List.append_assoc]
                  rw [hall] at ho
                  have HAll := Lib.hid ho
                  clear ho hall HO
                  go_wp2_with fail
                  refine (bstr_k w1.heap.size w1.heap.size _ _ HAll.out.1.1 HAll.out.1.2).mono ?_
                  rintro e w5 ⟨rfl, hb5⟩
                  have HW5 := Lib.hid (HB1.out.trans ((HAll.out.2.trans hb5).mono HB1.out.size))
                  clear hb5
                  go_wp2_with fail
                  go_ret2
                  exact ⟨rfl, HW5.out⟩
end Go.Proofs.YtfgoiojmbphmnaaGreatDoor
end
section
/- gram.Positional; schema.Grams of a day. -/
set_option linter.unusedSimpArgs false
set_option linter.unusedVariables false
set_option maxRecDepth 100000
namespace Go.Proofs.YtfgoiojmbphmnaaGreatDoor
open Go.RowKit Cal
attribute [local go_sem] toList_mk mk_size
/-- the bytes of a text with their positions, from position j on -/
def posL : Nat → List UInt8 → List (List UInt8)
  | _, [] => []
  | j, c :: l => [UInt8.ofNat (97 + j), c] :: posL (j + 1) l
theorem posL_len (l : List UInt8) : ∀ j, (posL j l).length = l.length := by
  induction l with
  | nil => intro j; rfl
  | cons c l ih => intro j; simp [posL, ih]
theorem posL_snoc (l : List UInt8) (c : UInt8) : ∀ j, posL j (l ++ [c]) = posL j l ++ [[UInt8.ofNat (97 + (j + l.length)), c]] := by
  induction l with
  | nil => intro j; simp [posL]
  | cons d l ih => intro j; simp only [List.cons_append, posL, ih, List.length_cons]; rw [show j + 1 + l.length = j + (l.length + 1) by omega]
theorem two_bytes (w : World) (a b : UInt8) : (convert 66 9 (.slice (some ⟨w.heap.size, 0, none⟩) 2 2)).run Tryz.prog (w.alloc (.cells #[.int .u8 a.toNat, .int .u8 b.toNat] 5)) = .ok (strV [a, b]) (w.alloc (.cells #[.int .u8 a.toNat, .int .u8 b.toNat] 5)) := by
  have ho : (w.alloc (.cells (([a, b] : List UInt8).map byteV).toArray 5)).ownsRow 0 5 1 (.slice (some ⟨w.heap.size, 0, none⟩) 2 2) 2 (([a, b] : List UInt8).map byteV) :=
    ⟨by simp, .inr ⟨_, _, _, rfl, Nat.zero_le _, blk_new rfl, Nat.le_refl _, size_le_maxLen (by omega), by simp, by simp⟩⟩
  exact run_convert_owned [a, b] ho Tryz.underlying66 Tryz.underlying5 Tryz.underlying9
theorem wpList_append_newk {P : Program} {w : World} {ops : Array Oper} {rest : List Oper} {o : Oper} {a : Act} {Q : Exit → Act → World → Prop} (hgd : o.guard = none) (s x : Operand) (t : TypeId)
    (ho : o.op = .call { callee := .builtin .append, args := #[s, x], argTypes := #[t, t] })
    (base : Nat) (e : TypeId) (size bytes : Nat) (z : Value) (ht : P.underlying t = some (.slice e)) (hinfo : (P.info? e).map (fun i => (i.zero, i.size, i.bytes)) = some (some z, size, bytes))
    (hzs : z.cells.size = size) (hsz : 0 < size) (hby : bytes ≤ 128)
    (v : Value) (n : Nat) (xs : List Value) (hs : a.eval s = v) (hown : w.ownsRow base e size v n xs) (k : Nat) (hk : k = w.heap.size)
    (cs : Array Value) (c : Nat) (hx : a.eval x = .slice (some ⟨k, 0, none⟩) 1 c) (hcs : cs.size = size) (h1 : ∀ u ∈ cs.toList, u.oneCell' = true)
    (hn : n < 1099511627776) (hbase : base ≤ w.heap.size)
    (h : ∀ v' w', w'.ownsRow base e size v' (n + 1) (xs ++ cs.toList) → (∀ W, Below base W w → Below base W w') → wpList P ops Q rest (a.put o.dst v') w') :
    wpList P ops Q (o :: rest) a (w.alloc (.cells cs e)) := by
  subst hk
  exact wpList_append_new hgd s x t ho base e size bytes z ht hinfo hzs hsz hby v n xs hs hown cs c hx hcs h1 hn hbase h
set_option maxHeartbeats 2000000 in
theorem positional_any (s : ByteArray) (w : World) (hs : s.size ≤ 26) :
    Calls Tryz.prog 109 #[.string s] w fun e w' => ∃ v, e = .returned v ∧ OwnAt w v (posL 0 s.data.toList) w' := by
  have hl : s.data.toList.length = s.size := by simp
  have HL := Lib.hid hl; clear hl
  have d1 : decide ((26 : Int) < s.size) = false := by simp; omega
  go_enter Tryz.func109, Tryz.ntmps109
  go_wp2_with fail
  clear d1
  go_loopw [3, 10] (fun v i wr => ∃ k : Nat, k ≤ s.size ∧ i = .int .i64 k ∧ OwnAt w v (posL 0 (s.data.toList.take k)) wr) (fun _ i _ => s.size - (intOf i).toNat)
  case atStart => exact ⟨0, by omega, rfl, OwnAt.start w⟩
  case round =>
    obtain ⟨k, hk, rfl, ho⟩ := hrel
    have HO := Lib.hid ho; clear ho
    by_cases hlt : k < s.size
    · have hq : decide ((k : Int) < s.size) = true := by simp; omega
      have ht := take_snoc' s k hlt
      have hsn := posL_snoc (s.data.toList.take k) s[k] 0
      have htl : (s.data.toList.take k).length = k := by rw [List.length_take, HL.out]; omega
      rw [htl, Nat.zero_add] at hsn
      have HT := Lib.hid ht; have HSn := Lib.hid hsn
      have hpl : (posL 0 (s.data.toList.take k)).length < 1099511627776 := by rw [posL_len, htl]; omega
      have hbz := HO.out.2.size
      have ha : ((UInt8.ofNat (97 + k)).toNat : Int) = 97 + (k : Int) := by rw [UInt8.toNat_ofNat']; omega
      have hcv := two_bytes wr (UInt8.ofNat (97 + k)) s[k]
      rw [ha] at hcv
      obtain ⟨z, hz⟩ : ∃ z, [UInt8.ofNat (97 + k), s[k]] = z := ⟨_, rfl⟩
      rw [hz] at hcv
      have HZ := Lib.hid hz
      have hone : ∀ u ∈ (#[strV z] : Array Value).toList, u.oneCell' = true := by intro u hu; simp at hu; subst hu; rfl
      have HO2 := Lib.hid (HO.out.below (w' := wr.alloc (.cells #[.int .u8 (97 + (k : Int)), .int .u8 s[k].toNat] 5)) ((Below.refl _ _).alloc (Nat.le_refl _) _))
      have HK1 := Lib.hid (show wr.heap.size + 1 = (wr.alloc (.cells #[.int .u8 (97 + (k : Int)), .int .u8 s[k].toNat] 5)).heap.size by simp)
      clear ht hsn htl ha hz
      go_wp2_with (at_builtin; refine wpList_append_newk rfl _ _ 28 rfl w.heap.size 9 1 16 (.string ⟨#[]⟩) Tryz.underlying28 infoS rfl (by decide) (by decide) _ _ _ rfl HO2.out.1 (wr.heap.size + 1) HK1.out #[strV z] 1 rfl rfl hone hpl HO2.out.2.size ?_; intro v2 w8 ho8 hw8)
      go_roundw
      case rel => exact ⟨k + 1, by omega, by go_num, by rw [HT.out, HSn.out]; exact ⟨by rw [List.length_append, flat_snoc, HZ.out]; exact ho8, hw8 _ HO2.out.2⟩⟩
      case measure => simp [intOf]; omega
    · have hq : decide ((k : Int) < s.size) = false := by simp; omega
      rw [List.take_of_length_le (by rw [HL.out]; omega)] at HO
      go_wp2_with fail
      go_ret
      exact ⟨_, rfl, HO.out⟩
def GramsPost (L : List (List UInt8)) (w : World) (e : Ending) (w' : World) : Prop := ∃ v, e = .returned (.tuple #[v, .int .i64 0]) ∧ Vec w' Any1 1 encS v L ∧ Below w.heap.size w w'
set_option maxHeartbeats 4000000 in
theorem grams_day (S : Nat → Prop) (vf vt vn vs : Value) (s : SchemaL) (f : Int) (x : ByteArray) (w : World) (h : SchemaAt w S vf vt vn vs s) (hx : x.size ≤ 26) (hp : findN s f = (2, 0)) (hn : normalB s f x.data.toList = true) (hx0 : x.data.toList ≠ []) :
    Calls Tryz.prog 18 #[.agg #[vf, vt, vn, vs], .int .i64 f, .string x] w (GramsPost (posL 0 x.data.toList) w) := by
  have HS := Lib.hid h.any
  have HL := Lib.hid (Lib.toList_data x)
  clear h
  have K := find_s Any1 vf vt vn vs s f (w.alloc (.cells #[vf, vt, vn, vs] 33)) (HS.out.below ((Below.refl _ _).alloc (Nat.le_refl _) _))
  rw [hp] at K
  change Calls _ _ _ _ fun e w' => e = .returned (.tuple #[.agg (kindAt 2), .int .i64 0]) ∧ _ at K
  have HK := Lib.hid K
  have HN := Lib.hid hn
  have e1 : (x.toList == []) = false := by rw [HL.out]; simpa using hx0
  have e2 : x.toList.isEmpty = false := by rw [HL.out]; simpa using hx0
  obtain ⟨ko, ks⟩ := kindAt_one 2
  have KO := Lib.hid ko; have KS := Lib.hid ks
  clear K hp hn hx0 ko ks
  go_enter Tryz.func18, Tryz.ntmps18
  go_wp2_with fail
  refine HK.out.mono ?_
  rintro e w1 ⟨rfl, hb1⟩
  have HB1 := Lib.hid (((Below.refl w.heap.size w).alloc (Nat.le_refl _) (.cells #[vf, vt, vn, vs] 33)).trans (hb1.mono (by simp)))
  have HX1 := Lib.hid (blk_below (b := w.heap.size) (o := .cells #[vf, vt, vn, vs] 33 (0, 0)) hb1 (by simp) (blk_new rfl))
  clear hb1 HK
  have z0 := lt_of_blk HX1.out
  obtain ⟨p0, p1, p2, p3⟩ := cells4 HX1.out
  go_wp2_with (refine wpList_store_row rfl 79 (.tmp 8) (.tmp 14) rfl w1.heap.size (kindAt 2) rfl rfl 79 kind0 (heap_alloc_new w1 _) (by rw [KS.out]; kernel_rfl) (by rw [KS.out]; rfl) KO.out ?_; rw [World.setRow_alloc_new])
  have HB2 := Lib.hid (HB1.out.alloc HB1.out.size (.cells (kindAt 2) 79))
  refine (normal_s Any1 vf vt vn vs s f x _ (HS.out.below HB2.out) (by omega)).mono ?_
  rw [HN.out]
  rintro e w3 ⟨rfl, hb3⟩
  have HB3 := Lib.hid (HB2.out.trans (hb3.mono HB2.out.size))
  have HX3 := Lib.hid (blk_below (b := w1.heap.size) (o := .cells (kindAt 2) 79 (0, 0)) hb3 (by simp) (blk_new rfl))
  have cf : w3.cell? ⟨w1.heap.size, 3, none⟩ = some (fnV 109) := by rw [cell_of_row _ _ _ _ _ _ HX3.out]; rfl
  clear hb3 p0 p1 p2 p3
  go_wp2_with fail
  refine (positional_any x _ hx).mono ?_
  rintro e w4 ⟨v, rfl, ho⟩
  have HO := Lib.hid ho; clear ho
  go_wp2_with fail
  go_ret2
  exact ⟨v, rfl, Vec.owns (k := 1) (enc := encS) (fun _ => rfl) HO.out.1 (fun _ _ _ => trivial), HB3.out.trans (HO.out.2.mono HB3.out.size)⟩
end Go.Proofs.YtfgoiojmbphmnaaGreatDoor
end
section
/- The sanity check of the laws of schemas. -/
set_option linter.unusedSimpArgs false
set_option linter.unusedVariables false
set_option maxRecDepth 100000
namespace Go.Proofs.YtfgoiojmbphmnaaGreatDoor
open Go.RowKit Cal
attribute [local go_sem] toList_mk mk_size
def birthL : List UInt8 := [98, 105, 114, 116, 104]
def awS : SchemaL := ⟨[(birthL, 2)], [[100, 114]], [], []⟩
def rawL0 : List UInt8 := [50, 48, 48, 48, 45, 48, 50, 45, 48, 51]
def normL0 : List UInt8 := [50, 48, 48, 48, 48, 50, 48, 51]
theorem aw_check : checkS awS = 0 := by kernel_rfl
theorem aw_find : findN awS 0 = (2, 0) := by kernel_rfl
theorem aw_value : valueN awS 0 rawL0 = (normL0, 0) := by kernel_rfl
theorem aw_normal : normalB awS 0 normL0 = true := by kernel_rfl
theorem aw_word : wordB [97, 98] = true := by kernel_rfl
theorem aw_text : textL awS = [102, 105, 101, 108, 100, 32, 98, 105, 114, 116, 104, 32, 100, 97, 116, 101, 10, 116, 105, 116, 108, 101, 32, 100, 114, 10] := by kernel_rfl
theorem vecF_one {w : World} {A : Nat} {x : F2} (h : w.heap[A]? = some (.cells #[strV x.1, .int .i64 x.2] 42 (0, 0))) : Vec w Any1 2 encF (.slice (some ⟨A, 0, none⟩) 1 1) [x] :=
  ⟨_, 1, rfl, by simp, fun _ => ⟨A, 0, rfl, trivial, lt_of_blk h, fun j y hj i u hu => by
    have hj0 : j = 0 := by
      have := (List.getElem?_eq_some_iff.1 hj).1
      simp at this; exact this
    subst hj0
    simp at hj; subst hj
    rw [cell_of_row _ _ _ _ _ _ h]
    match i, hu with
    | 0, hu => simpa [encF] using hu
    | 1, hu => simpa [encF] using hu
    | i + 2, hu => simp [encF] at hu⟩⟩
/-- a call's world under a name of its own -/
theorem wp_calls_world {P : Program} {f : FuncId} {args : Array Value} {W : World} {K : Ending → World → Prop} (h : ∀ w', w' = W → Calls P f args w' K) : Calls P f args W K := h W rfl
set_option maxHeartbeats 4000000 in
theorem awake_s (w : World) : Calls Tryz.prog 8 #[] w fun e w' => e = .returned (.bool true) ∧ Below w.heap.size w w' := by
  go_enter Tryz.func8, Tryz.ntmps8
  go_wp2_with fail
  refine wp_calls_world (fun W hW => ?_)
  have bW : Below w.heap.size w W := by rw [hW]; exact (((Below.refl _ _).alloc (Nat.le_refl _) _).alloc (by simp) _).alloc (by simp; omega) _
  have x0 : W.heap[w.heap.size]? = some (.cells #[strV birthL, .int .i64 2] 42 (0, 0)) := by rw [hW]; exact blk_old (blk_old (blk_new rfl))
  have x1 : W.heap[w.heap.size + 1]? = some (.cells (([[100, 114]] : List (List UInt8)).flatMap encS).toArray 9 (0, 0)) := by rw [hW]; exact blk_old (blk_new (by simp))
  have x2 : W.heap[w.heap.size + 2]? = some (.cells #[.slice (some ⟨w.heap.size, 0, none⟩) 1 1, .slice (some ⟨w.heap.size + 1, 0, none⟩) 1 1, .slice none 0 0, .slice none 0 0] 33 (0, 0)) := by rw [hW]; exact blk_new (by simp)
  have HSW := Lib.hid (show SchemaAt W Any1 (.slice (some ⟨w.heap.size, 0, none⟩) 1 1) (.slice (some ⟨w.heap.size + 1, 0, none⟩) 1 1) (.slice none 0 0) (.slice none 0 0) awS from ⟨vecF_one (x := (birthL, 2)) x0, vec_block x1 1 rfl, Vec.nil _ _ _ _, Vec.nil _ _ _ _⟩)
  have HX2 := Lib.hid x2
  have HBW := Lib.hid bW
  clear x0 x1 x2 bW hW
  refine (value_any Any1 _ _ _ _ awS 0 ⟨rawL0.toArray⟩ _ HSW.out (by decide)).mono ?_
  rw [show (⟨rawL0.toArray⟩ : ByteArray).data.toList = rawL0 from rfl, aw_value]
  rintro e w1 ⟨rfl, hb1⟩
  have HX1 := Lib.hid (blk_below hb1 (lt_of_blk HX2.out) HX2.out)
  have HB1 := Lib.hid (HBW.out.trans (hb1.mono HBW.out.size))
  have HS1 := Lib.hid (HSW.out.below hb1)
  clear hb1 HX2 HBW HSW
  obtain ⟨p0, p1, p2, p3⟩ := cells4 HX1.out
  unfold pairV
  go_wp2_with fail
  refine (text_yes Any1 _ _ _ _ awS _ HS1.out aw_check).mono ?_
  rw [aw_text]
  rintro e w2 ⟨rfl, hb2⟩
  have HX2 := Lib.hid (blk_below hb2 (lt_of_blk HX1.out) HX1.out)
  have HB2 := Lib.hid (HB1.out.trans (hb2.mono HB1.out.size))
  have HS2 := Lib.hid (HS1.out.below hb2)
  clear hb2 HX1 HB1 HS1 p0 p1 p2 p3
  obtain ⟨p0, p1, p2, p3⟩ := cells4 HX2.out
  unfold pairV
  go_wp2_with fail
  refine (grams_day Any1 _ _ _ _ awS 0 ⟨normL0.toArray⟩ _ HS2.out (by decide) aw_find aw_normal (by decide)).mono ?_
  rintro e w3 ⟨v, rfl, hv, hb3⟩
  obtain ⟨av, cv, rfl⟩ := hv.slice
  rw [posL_len, show (⟨normL0.toArray⟩ : ByteArray).data.toList.length = 8 from rfl]
  have HB3 := Lib.hid (HB2.out.trans (hb3.mono HB2.out.size))
  clear hv hb3 HX2 HB2 HS2 p0 p1 p2 p3
  go_wp2_with fail
  refine (word_is [97, 98] _).mono ?_
  rw [aw_word]
  rintro e w4 ⟨rfl, hb4⟩
  have HB4 := Lib.hid (HB3.out.trans (hb4.mono HB3.out.size))
  clear hb4 HB3
  go_wp2_with fail
  go_ret
  exact ⟨rfl, HB4.out⟩
end Go.Proofs.YtfgoiojmbphmnaaGreatDoor
end
section
/- Plain law: a normal form is normal. -/
set_option linter.unusedSimpArgs false
set_option linter.unusedVariables false
set_option maxRecDepth 100000
namespace Go.Proofs.YtfgoiojmbphmnaaGreatDoor
open Go.RowKit Cal
/-- a token: not empty, of letters and digits -/
def okT (t : List UInt8) : Prop := t ≠ [] ∧ ∀ b ∈ t, okB b = true ∧ b ≠ 32
theorem toksA_run (t : List UInt8) (h : ∀ b ∈ t, b ≠ 32) : ∀ p r, toksA p (t ++ r) = toksA (p ++ t) r := by
  induction t with
  | nil => intro p r; simp
  | cons c t ih =>
    intro p r
    rw [List.cons_append, toksA_ch _ _ _ (h c List.mem_cons_self), ih (fun b hb => h b (List.mem_cons_of_mem _ hb)), List.append_assoc]
    rfl
theorem toks_join : ∀ (L : List (List UInt8)), (∀ t ∈ L, okT t) → toks (joinL L) = L := by
  intro L
  induction L with
  | nil => intro _; rfl
  | cons t L ih =>
    intro h
    obtain ⟨h1, h2⟩ := h t List.mem_cons_self
    have hr := ih fun x hx => h x (List.mem_cons_of_mem _ hx)
    unfold toks at hr ⊢
    by_cases hL : L = []
    · subst hL
      rw [show joinL [t] = t ++ [] by simp [joinL], toksA_run t (fun b hb => (h2 b hb).2), List.nil_append, toksA_end _ h1]
    · rw [join_cons_ne _ _ hL, List.append_assoc, toksA_run t (fun b hb => (h2 b hb).2), List.nil_append, List.cons_append, List.nil_append, toksA_sp _ _ h1, hr]
theorem join_ok (L : List (List UInt8)) (h : ∀ t ∈ L, okT t) : ∀ b ∈ joinL L, okB b = true := by
  intro b hb
  rcases join_mem L b hb with h1 | ⟨t, ht, hbt⟩
  · subst h1; rfl
  · exact ((h t ht).2 b hbt).1
theorem ok_plain {b : UInt8} (h : okB b = true) : plainB b = [b] := by
  have hlt := okB_lt h
  unfold plainB
  by_cases hu : isUp b = true
  · exfalso
    unfold okB at h
    simp only [Bool.or_eq_true, low_iff, dig_iff, decide_eq_true_iff, beq_iff_eq] at h
    rw [up_iff, decide_eq_true_iff] at hu
    rcases h with (h | h) | h
    · omega
    · omega
    · subst h; simp at hu
  · rw [if_neg hu]
    unfold okB at h
    simp only [Bool.or_eq_true, beq_iff_eq] at h
    rcases h with h | h
    · rw [if_pos (by simpa using h)]
    · subst h; rfl
theorem ok_pair {a b : UInt8} (h : okB a = true) : isPair a b = false := by
  have hlt := okB_lt h
  rw [pair_iff]; simp; omega
theorem ok_byte {b : UInt8} (h : okB b = true) : okByte b = true := by
  unfold okB at h
  simp only [Bool.or_eq_true, low_iff, dig_iff, decide_eq_true_iff, beq_iff_eq] at h
  rw [ok_iff, decide_eq_true_iff]
  rcases h with (h | h) | h
  · omega
  · omega
  · subst h; decide
theorem raw_same (l : List UInt8) (h : ∀ b ∈ l, okB b = true) : rawL l = l ∧ validL l = true := by
  induction l using rawL.induct with
  | case1 => exact ⟨rfl, rfl⟩
  | case2 a => exact ⟨by simp only [rawL]; exact ok_plain (h a (by simp)), by simp only [validL]; exact ok_byte (h a (by simp))⟩
  | case3 a b r hp ih => exfalso; rw [ok_pair (h a (by simp))] at hp; cases hp
  | case4 a b r hp ih =>
    have hp' := ok_pair (a := a) (b := b) (h a (by simp))
    have := ih fun x hx => h x (List.mem_cons_of_mem _ hx)
    refine ⟨?_, ?_⟩
    · rw [rawL, hp']; simp only [Bool.false_eq_true, if_false]; rw [this.1, ok_plain (h a (by simp))]; rfl
    · rw [validL, hp']; simp only [Bool.false_eq_true, if_false]; rw [this.2, ok_byte (h a (by simp))]; rfl
theorem fold_same (L : List (List UInt8)) (h : ∀ t ∈ L, okT t) : foldL (joinL L) = joinL L ∧ toks (foldL (joinL L)) = L := by
  have h1 := (raw_same (joinL L) (join_ok L h)).1
  have h2 := toks_join L h
  have h3 : foldL (joinL L) = joinL L := by unfold foldL; rw [h1, h2]
  exact ⟨h3, by rw [h3, h2]⟩
theorem foldV_join (L : List (List UInt8)) (h : ∀ t ∈ L, okT t) (hl : (joinL L).length ≤ 64) : foldV (joinL L) = true := by
  unfold foldV
  rw [(raw_same (joinL L) (join_ok L h)).2]; simpa using hl
theorem toksA_ne (l : List UInt8) : ∀ p, ∀ t ∈ toksA p l, t ≠ [] := by
  induction l with
  | nil =>
    intro p t ht
    simp only [toksA] at ht
    split at ht
    · simp at ht
    · simp at ht; subst ht; assumption
  | cons c l ih =>
    intro p t ht
    by_cases hc : c = 32
    · subst hc
      by_cases hp : p = []
      · subst hp; rw [toksA_sp0] at ht; exact ih [] t ht
      · rw [toksA_sp _ _ hp] at ht
        rcases List.mem_cons.1 ht with rfl | ht
        · exact hp
        · exact ih [] t ht
    · rw [toksA_ch _ _ _ hc] at ht; exact ih _ t ht
theorem toks_ok (l : List UInt8) : ∀ t ∈ toks (foldL l), okT t := by
  intro t ht
  refine ⟨toksA_ne _ [] t ht, fun b hb => ?_⟩
  rcases toksA_mem _ [] t ht b hb with h | h
  · simp at h
  · exact ⟨fold_ok l b h.1, h.2⟩
end Go.Proofs.YtfgoiojmbphmnaaGreatDoor
end
section
/- Plain law: what is normalised is normal (names, codes, days). -/
set_option linter.unusedSimpArgs false
set_option linter.unusedVariables false
set_option maxRecDepth 100000
namespace Go.Proofs.YtfgoiojmbphmnaaGreatDoor
open Go.RowKit Cal
theorem letters_low (t : List UInt8) : ∀ b ∈ lettersL t, isLow b = true := fun b hb => (List.mem_filter.1 hb).2
theorem low_same {t : List UInt8} (h : ∀ b ∈ t, isLow b = true) : lettersL t = t := List.filter_eq_self.2 h
theorem low_okT {t : List UInt8} (h0 : t ≠ []) (h : ∀ b ∈ t, isLow b = true) : okT t := ⟨h0, fun b hb => ⟨by simp [okB, h b hb], by
  intro e; subst e; have := h 32 hb; rw [low_iff] at this; simp at this⟩⟩
theorem token_low {t : List UInt8} (h : tokenB t = true) : t ≠ [] ∧ ∀ b ∈ t, isLow b = true := by
  unfold tokenB at h
  cases h1 : t.isEmpty
  · simp only [h1, cond_false] at h
    cases h2 : decide (t.length ≤ 64)
    · simp [h2] at h
    · simp only [h2, cond_true, beq_iff_eq] at h
      exact ⟨by simpa using h1, fun b hb => letters_low t b (by rw [h]; exact hb)⟩
  · simp [h1] at h
theorem pair_facts {L : List P2} (h : pairsB L = true) (j : Nat) (hj : j < L.length) : tokenB (L.getD j default).1 = true ∧ tokenB (L.getD j default).2 = true ∧ findI L (L.getD j default).2 < 0 := by
  have := pairs_at h j hj
  unfold pairAtB at this
  simp only [Bool.and_eq_true, decide_eq_true_iff] at this
  exact ⟨this.1.1.1, this.1.1.2, this.2⟩
theorem canon_neg {L : List P2} {s : List UInt8} (h : findI L s < 0) : canonL L s = s := by
  rcases canon_find L s with ⟨_, h2⟩ | ⟨k, _, h1, _⟩
  · exact h2
  · omega
/-- by rules, a token becomes itself, or one that is no token of the rules -/
theorem canon_cases {L : List P2} (h : pairsB L = true) (s : List UInt8) : (canonL L s = s) ∨ (∃ k, k < L.length ∧ canonL L s = (L.getD k default).2 ∧ tokenB (canonL L s) = true ∧ canonL L (canonL L s) = canonL L s) := by
  rcases canon_find L s with ⟨_, h2⟩ | ⟨k, hk, h1, h3⟩
  · exact .inl h2
  · right
    obtain ⟨_, g2, g3⟩ := pair_facts h k hk
    rw [h3] at g2 g3
    exact ⟨k, hk, h3.symm, g2, canon_neg g3⟩
theorem normTok_same {r : RulesL} (hc : checkR r = 0) {x t : List UInt8} (ht : t ∈ normTok r x) : okT t ∧ normTok r t = [t] := by
  obtain ⟨_, _, h2, _, h4⟩ := check_zero hc
  unfold normTok at ht
  by_cases hd : ((lettersL x).isEmpty || hasB r.titles (lettersL x)) = true
  · rw [if_pos hd] at ht; simp at ht
  · rw [if_neg hd] at ht
    simp at ht
    simp only [Bool.or_eq_true, not_or, Bool.not_eq_true] at hd
    obtain ⟨hd1, hd2⟩ := hd
    have key : ∀ y : List UInt8, y ≠ [] → (∀ b ∈ y, isLow b = true) → hasB r.titles y = false → canonL r.nicks y = y → okT y ∧ normTok r y = [y] := by
      intro y h0 h1 h3 h5
      refine ⟨low_okT h0 h1, ?_⟩
      unfold normTok
      rw [low_same h1, h3, h5, if_neg (by simpa using h0)]
    rcases canon_cases h2 (lettersL x) with hs | ⟨k, hk, e1, e2, e3⟩
    · rw [hs] at ht
      subst ht
      exact key _ (by simpa using hd1) (letters_low x) hd2 hs
    · rw [← ht] at e1 e2 e3
      obtain ⟨g1, g2⟩ := token_low e2
      refine key t g1 g2 ?_ e3
      rw [e1]
      have := List.any_eq_false.1 h4 (r.nicks.getD k default) (by rw [List.getD, List.getElem?_eq_getElem hk]; exact List.getElem_mem hk)
      simpa using this
theorem nameToks_same {r : RulesL} (hc : checkR r = 0) (T : List (List UInt8)) : (∀ t ∈ nameToks r T, okT t) ∧ nameToks r (nameToks r T) = nameToks r T := by
  have h : ∀ t ∈ nameToks r T, okT t ∧ normTok r t = [t] := by
    intro t ht
    obtain ⟨x, _, hx⟩ := List.mem_flatMap.1 ht
    exact normTok_same hc hx
  refine ⟨fun t ht => (h t ht).1, ?_⟩
  have : ∀ L : List (List UInt8), (∀ t ∈ L, normTok r t = [t]) → nameToks r L = L := by
    intro L
    induction L with
    | nil => intro _; rfl
    | cons t L ih =>
      intro hL
      have := ih fun x hx => hL x (List.mem_cons_of_mem _ hx)
      unfold nameToks at this ⊢
      rw [List.flatMap_cons, this, hL t List.mem_cons_self]; rfl
  exact this _ fun t ht => (h t ht).2
theorem nameN_same {r : RulesL} {l v : List UInt8} (h : nameN r l = (v, 0)) : nameN r v = (v, 0) := by
  unfold nameN at h
  by_cases hc : checkR r = 0
  · rw [if_pos hc] at h
    by_cases hv : foldV l = true
    · rw [if_pos hv] at h
      obtain ⟨h1, h2⟩ := nameToks_same hc (toks (foldL l))
      generalize nameToks r (toks (foldL l)) = N at h h1 h2
      by_cases hb : 6 < N.length ∨ 64 < (joinL N).length
      · rw [if_pos hb] at h; simp at h
      · rw [if_neg hb] at h
        obtain rfl : joinL N = v := congrArg Prod.fst h
        obtain ⟨f1, f2⟩ := fold_same N h1
        unfold nameN
        rw [if_pos hc, if_pos (foldV_join N h1 (by omega)), f2, h2, if_neg hb]
    · rw [if_neg hv] at h; simp at h
  · rw [if_neg hc] at h
    exact absurd (congrArg Prod.snd h) hc
theorem codeN_same {l v : List UInt8} (h : codeN l = (v, 0)) : codeN v = (v, 0) := by
  unfold codeN at h
  by_cases hv : foldV l = true
  · rw [if_pos hv] at h
    have hok := toks_ok l
    generalize toks (foldL l) = T at h hok
    by_cases hb : 12 < T.flatten.length
    · rw [if_pos hb] at h; simp at h
    · rw [if_neg hb] at h
      obtain rfl : T.flatten = v := congrArg Prod.fst h
      have hbytes : ∀ b ∈ T.flatten, okB b = true ∧ b ≠ 32 := by
        intro b hb'
        obtain ⟨t, ht, hbt⟩ := List.mem_flatten.1 hb'
        exact (hok t ht).2 b hbt
      by_cases h0 : T.flatten = []
      · rw [h0]; rfl
      · have hL : ∀ t ∈ [T.flatten], okT t := by
          intro t ht; simp at ht; subst ht; exact ⟨h0, hbytes⟩
        obtain ⟨f1, f2⟩ := fold_same [T.flatten] hL
        have f3 := foldV_join [T.flatten] hL (by simp [joinL]; simp at hb; omega)
        rw [show joinL [T.flatten] = T.flatten from rfl] at f1 f2 f3
        unfold codeN
        rw [if_pos f3, f2]
        simp only [List.flatten_cons, List.flatten_nil, List.append_nil]
        rw [if_neg hb]
  · rw [if_neg hv] at h; simp at h
end Go.Proofs.YtfgoiojmbphmnaaGreatDoor
end
section
/- Plain law: what is normalised is normal (addresses, days, any field). -/
set_option linter.unusedSimpArgs false
set_option linter.unusedVariables false
set_option maxRecDepth 100000
namespace Go.Proofs.YtfgoiojmbphmnaaGreatDoor
open Go.RowKit Cal
theorem dropWhile_fix (l : List UInt8) : (l.dropWhile (· == 48)).dropWhile (· == 48) = l.dropWhile (· == 48) := by
  induction l with
  | nil => rfl
  | cons c l ih =>
    by_cases hc : (c == 48) = true
    · rw [List.dropWhile_cons, if_pos hc, ih]
    · rw [List.dropWhile_cons, if_neg hc, List.dropWhile_cons, if_neg hc]
theorem short_num (x : List UInt8) : numB (shortL x) = true := by
  unfold shortL
  split
  · assumption
  · rfl
theorem short_same (x : List UInt8) : shortL (shortL x) = shortL x := by
  have hd := dropWhile_fix x
  generalize hr : x.dropWhile (· == 48) = r at hd
  have e : shortL x = if numB r = true then r else 48 :: r := by unfold shortL; rw [hr]
  by_cases hn : numB r = true
  · rw [e, if_pos hn]; unfold shortL; rw [hd, if_pos hn]
  · rw [e, if_neg hn]; unfold shortL
    rw [show (48 :: r).dropWhile (· == 48) = r.dropWhile (· == 48) from rfl, hd, if_neg hn]
theorem dropWhile_mem (l : List UInt8) : ∀ b ∈ l.dropWhile (· == 48), b ∈ l := by
  induction l with
  | nil => intro b hb; simp at hb
  | cons c l ih =>
    intro b hb
    by_cases hc : (c == 48) = true
    · rw [List.dropWhile_cons, if_pos hc] at hb; exact List.mem_cons_of_mem _ (ih b hb)
    · rw [List.dropWhile_cons, if_neg hc] at hb; exact hb
theorem short_ok {x : List UInt8} (h : okT x) : okT (shortL x) := by
  have h1 : ∀ b ∈ x.dropWhile (· == 48), okB b = true ∧ b ≠ 32 := fun b hb => h.2 b (dropWhile_mem x b hb)
  unfold shortL
  split
  · rename_i hn
    refine ⟨fun e => ?_, h1⟩
    rw [e] at hn; cases hn
  · refine ⟨by simp, fun b hb => ?_⟩
    rcases List.mem_cons.1 hb with rfl | hb
    · exact ⟨by decide, by decide⟩
    · exact h1 b hb
theorem low_not_num {t : List UInt8} (h : ∀ b ∈ t, isLow b = true) : numB t = false := by
  cases t with
  | nil => rfl
  | cons c t =>
    have := h c List.mem_cons_self
    rw [low_iff, decide_eq_true_iff] at this
    show isDgt c = false
    rw [dig_iff]; simp; omega
/-- what becomes of a token stays, and stays a number or none -/
theorem addrTok_same {r : RulesL} (h : pairsB r.streets = true) {x : List UInt8} (hx : okT x) : okT (addrTok r x) ∧ addrTok r (addrTok r x) = addrTok r x := by
  by_cases hn : numB x = true
  · have e : addrTok r x = shortL x := by unfold addrTok; rw [if_pos hn]
    rw [e]
    refine ⟨short_ok hx, ?_⟩
    unfold addrTok
    rw [if_pos (short_num x), short_same]
  · have e : addrTok r x = canonL r.streets x := by unfold addrTok; rw [if_neg hn]
    rw [e]
    rcases canon_cases h x with hs | ⟨k, hk, e1, e2, e3⟩
    · rw [hs]; exact ⟨hx, by rw [e, hs]⟩
    · obtain ⟨g1, g2⟩ := token_low e2
      refine ⟨low_okT g1 g2, ?_⟩
      unfold addrTok
      rw [low_not_num g2, e3]; simp
theorem order2_same (T : List (List UInt8)) : order2 (order2 T) = order2 T := by
  have hn : ∀ L : List (List UInt8), L.filter (fun _ => false) = [] := fun L => by induction L with
    | nil => rfl
    | cons x L ih => rw [List.filter_cons]; simp
  unfold order2
  simp [List.filter_append, List.filter_filter, hn]
theorem order2_length (T : List (List UInt8)) : (order2 T).length = T.length := by
  induction T with
  | nil => rfl
  | cons t T ih =>
    unfold order2 at ih ⊢
    cases h : numB t <;> simp [List.filter_cons, h] at ih ⊢ <;> omega
theorem map_same {f : List UInt8 → List UInt8} : ∀ (T : List (List UInt8)), (∀ t ∈ T, f t = t) → T.map f = T := by
  intro T
  induction T with
  | nil => intro _; rfl
  | cons t T ih => intro h; rw [List.map_cons, h t List.mem_cons_self, ih fun x hx => h x (List.mem_cons_of_mem _ hx)]
theorem addrN_same {r : RulesL} {l v : List UInt8} (h : addrN r l = (v, 0)) : addrN r v = (v, 0) := by
  unfold addrN at h
  by_cases hc : checkR r = 0
  · rw [if_pos hc] at h
    obtain ⟨_, _, _, h3, _⟩ := check_zero hc
    by_cases hv : foldV l = true
    · rw [if_pos hv] at h
      have hok := toks_ok l
      generalize toks (foldL l) = T at h hok
      have hM : ∀ t ∈ order2 (T.map (addrTok r)), okT t ∧ addrTok r t = t := by
        intro t ht
        obtain ⟨x, hx, rfl⟩ := List.mem_map.1 (order2_mem ht)
        exact addrTok_same h3 (hok x hx)
      have hlen : (order2 (T.map (addrTok r))).length = T.length := by rw [order2_length, List.length_map]
      by_cases hb : 6 < T.length ∨ 64 < (joinL (order2 (T.map (addrTok r)))).length
      · rw [if_pos hb] at h; simp at h
      · rw [if_neg hb] at h
        have hs := order2_same (T.map (addrTok r))
        generalize order2 (T.map (addrTok r)) = M at h hM hlen hb hs
        obtain rfl : joinL M = v := congrArg Prod.fst h
        have h1 : ∀ t ∈ M, okT t := fun t ht => (hM t ht).1
        obtain ⟨f1, f2⟩ := fold_same M h1
        unfold addrN
        rw [if_pos hc, if_pos (foldV_join M h1 (by omega)), f2, map_same M fun t ht => (hM t ht).2, hs, if_neg (by rw [hlen]; exact hb)]
    · rw [if_neg hv] at h; simp at h
  · rw [if_neg hc] at h
    exact absurd (congrArg Prod.snd h) hc
theorem numI_dg (n : Int) (k : Nat) (h0 : 0 ≤ n) (h : n < 10 ^ k) : numI (dg n k) = n := by
  rw [numI_dig _ (dg_dig k n h0), dg_val k n h0 h]
theorem day_read {a b c : Int} (h : vldB a b c = true) : readB (digits8 a b c) = true := by
  obtain ⟨b1, b2, b3, b4, b5, b6⟩ := vld_bd h
  have e1 : (digits8 a b c).take 4 = dg a 4 := by
    unfold digits8; rw [List.append_assoc, List.take_append_of_le_length (by rw [dg_len]; omega), List.take_of_length_le (by rw [dg_len]; omega)]
  have e2 : ((digits8 a b c).drop 4).take 2 = dg b 2 := by
    unfold digits8; rw [List.append_assoc, List.drop_append_of_le_length (by rw [dg_len]; omega), List.drop_eq_nil_of_le (by rw [dg_len]; omega), List.nil_append, List.take_append_of_le_length (by rw [dg_len]; omega), List.take_of_length_le (by rw [dg_len]; omega)]
  have e3 : ((digits8 a b c).drop 6).take 2 = dg c 2 := by
    unfold digits8; rw [List.drop_append_of_le_length (by simp [dg_len]), List.drop_eq_nil_of_le (by simp [dg_len]), List.nil_append, List.take_of_length_le (by rw [dg_len]; omega)]
  unfold readB
  rw [digits8_len, e1, e2, e3, numI_dg a 4 (by omega) (by omega), numI_dg b 2 (by omega) (by omega), numI_dg c 2 (by omega) (by omega), h]
  rfl
theorem dayN_read {l v : List UInt8} (h : dayN l = (v, 0)) : readB v = true := by
  rcases parse_is ⟨l.toArray⟩ with ⟨a, b, c, hv, _, hd⟩ | ⟨_, hd⟩
  · rw [show (⟨l.toArray⟩ : ByteArray).data.toList = l by simp, h] at hd
    obtain rfl : v = digits8 a b c := congrArg Prod.fst hd
    exact day_read hv
  · rw [show (⟨l.toArray⟩ : ByteArray).data.toList = l by simp, h] at hd
    simp at hd
theorem own_of {p : List UInt8 × Int} {v : List UInt8} (h : p = (v, 0)) : isOwn p v = true := by subst h; simp [isOwn]
/-- what is normalised is normal; and what is no date stays as it is -/
theorem value_normal {s : SchemaL} {f : Int} {l v : List UInt8} (h : valueN s f l = (v, 0)) : normalB s f v = true ∧ normalB s f [] = true ∧ ((findN s f).1 = 2 ∨ valueN s f v = (v, 0)) := by
  unfold valueN at h
  by_cases he : (findN s f).2 = 0
  · have hk := findN_kind he
    have e2 : normalB s f [] = true := by unfold normalB; rw [if_pos he, if_pos rfl]
    by_cases hv0 : v = []
    · subst hv0
      exact ⟨e2, e2, .inr (by unfold valueN; rw [if_pos he, if_pos rfl])⟩
    · rw [if_pos he] at h
      by_cases hl : l = []
      · rw [if_pos hl] at h
        exact absurd (congrArg Prod.fst h).symm hv0
      · rw [if_neg hl] at h
        have e1 : normalB s f v = ownK (findN s f).1 s.rules v := by unfold normalB; rw [if_pos he, if_neg hv0]
        have e3 : valueN s f v = normK (findN s f).1 s.rules v := by unfold valueN; rw [if_pos he, if_neg hv0]
        rw [e1, e3]
        rcases hk with hk | hk | hk | hk
        · rw [hk] at h ⊢
          have := nameN_same (r := s.rules) h
          exact ⟨own_of this, e2, .inr this⟩
        · rw [hk] at h ⊢
          exact ⟨dayN_read (show dayN l = (v, 0) from h), e2, .inl rfl⟩
        · rw [hk] at h ⊢
          have := codeN_same (show codeN l = (v, 0) from h)
          exact ⟨own_of this, e2, .inr this⟩
        · rw [hk] at h ⊢
          have := addrN_same (r := s.rules) h
          exact ⟨own_of this, e2, .inr this⟩
  · rw [if_neg he] at h
    exact absurd (congrArg Prod.snd h) he
end Go.Proofs.YtfgoiojmbphmnaaGreatDoor
end
section
/- Plain law: how long a normal form is; an error leaves nothing. -/
set_option linter.unusedSimpArgs false
set_option linter.unusedVariables false
set_option maxRecDepth 100000
namespace Go.Proofs.YtfgoiojmbphmnaaGreatDoor
open Go.RowKit Cal
/-- what a normal form may be, with its error -/
def FormOk (p : List UInt8 × Int) : Prop := p.1.length ≤ 64 ∧ (p.2 ≠ 0 → p.1 = [])
theorem FormOk.err (e : Int) : FormOk ([], e) := ⟨by simp, fun _ => rfl⟩
theorem nameN_form (r : RulesL) (l : List UInt8) : FormOk (nameN r l) := by
  unfold nameN
  repeat' split
  all_goals first | exact FormOk.err _ | skip
  all_goals exact ⟨by dsimp only; omega, fun h => absurd rfl h⟩
theorem addrN_form (r : RulesL) (l : List UInt8) : FormOk (addrN r l) := by
  unfold addrN
  repeat' split
  all_goals first | exact FormOk.err _ | skip
  all_goals exact ⟨by dsimp only; omega, fun h => absurd rfl h⟩
theorem codeN_form (l : List UInt8) : FormOk (codeN l) := by
  unfold codeN
  repeat' split
  all_goals first | exact FormOk.err _ | skip
  all_goals exact ⟨by dsimp only; omega, fun h => absurd rfl h⟩
theorem dayF_form (y m d : List UInt8) : FormOk (dayF y m d) := by
  unfold dayF
  cases vldB (numI y) (numI m) (numI d)
  · exact FormOk.err _
  · exact ⟨by show (digits8 _ _ _).length ≤ 64; rw [digits8_len]; omega, fun h => absurd rfl h⟩
theorem dayN_form (l : List UInt8) : FormOk (dayN l) := by
  unfold dayN
  repeat' split
  all_goals first | exact FormOk.err _ | exact dayF_form _ _ _
theorem valueN_form (s : SchemaL) (f : Int) (l : List UInt8) : FormOk (valueN s f l) := by
  unfold valueN normK
  repeat' split
  all_goals first | exact FormOk.err _ | exact nameN_form _ _ | exact dayN_form _ | exact codeN_form _ | exact addrN_form _ _
theorem findN_in {s : SchemaL} {f : Nat} (h : checkS s = 0) (hf : f < s.fields.length) : findN s f = ((s.fields.getD f default).2, 0) := by
  unfold findN
  rw [if_pos h, if_pos (by omega), Int.toNat_natCast]
end Go.Proofs.YtfgoiojmbphmnaaGreatDoor
end
section
/- The deck of recordlinkmake: contracts of New, Word, Next, One, Few: whatever the list of at most 400 numbers, a number within its bounds is dealt, and the deck alone has changed. -/
set_option linter.unusedSimpArgs false
set_option linter.unusedVariables false
namespace Go.Proofs.YtfgoiojmbphmnaaGreatDoor
open Go.RowKit

theorem bits_u64_bd (op : BinOp) (x y : Int) : 0 ≤ bits op .u64 x y ∧ bits op .u64 x y < 18446744073709551616 := by
  have : ∃ e, bits op .u64 x y = IntKind.u64.wrap e := by unfold bits; exact ⟨_, rfl⟩
  obtain ⟨e, he⟩ := this
  rw [he]
  simp only [IntKind.wrap, IntKind.bits, IntKind.signed]
  simp
  omega

theorem grown_refl (w : World) (r : Option Nat) : w.grownBy w r := ⟨rfl, rfl, rfl, Nat.le_refl _, fun _ _ _ => rfl⟩
theorem grown_trans {w w1 w2 : World} {r : Option Nat} (h : w.grownBy w1 r) (h' : w1.grownBy w2 r) : w.grownBy w2 r :=
  ⟨h'.os.trans h.os, h'.tape.trans h.tape, h'.output.trans h.output, Nat.le_trans h.size h'.size, fun k hk hr => (h'.block k (Nat.lt_of_lt_of_le hk h.size) hr).trans (h.block k hk hr)⟩
theorem grown_drewN {w w1 : World} {r : Option Nat} (h : w.grownBy w1 r) (n : Nat) : w.grownBy (w1.drewN n) r := ⟨h.os, h.tape, h.output, h.size, h.block⟩
theorem grown_drew {w w1 : World} {r : Option Nat} (h : w.grownBy w1 r) : w.grownBy w1.drew r := ⟨h.os, h.tape, h.output, h.size, h.block⟩
theorem grown_set {w w1 : World} {D i : Nat} {v : Value} (h : w.grownBy w1 (some D)) : w.grownBy (w1.setCell ⟨D, i, none⟩ v) (some D) :=
  grown_trans h ⟨rfl, rfl, rfl, by simp [World.setCell], fun k hk hr => heap_setCell_other _ _ _ _ (fun e => hr (by rw [e]))⟩
theorem grown_below {w w1 : World} {r : Option Nat} (h : Below w.heap.size w w1) : w.grownBy w1 r := ⟨h.os, h.tape, h.output, h.size, fun k hk _ => h.block k hk⟩
theorem grown_alloc {w w1 : World} {r : Option Nat} (h : w.grownBy w1 r) (o : Obj) : w.grownBy (w1.alloc o) r := grown_trans h (grown_below ((Below.refl _ _).alloc (Nat.le_refl _) _))
theorem grown_blk {w w1 : World} {D k : Nat} {o : Obj} (h : w.grownBy w1 (some D)) (ho : w.heap[k]? = some o) (hk : k ≠ D) : w1.heap[k]? = some o := by
  have hlt : k < w.heap.size := by
    rcases Nat.lt_or_ge k w.heap.size with h' | h'
    · exact h'
    · simp [Array.getElem?_eq_none h'] at ho
  rw [h.block k hlt (by simpa using hk)]; exact ho

/-- a slice of ints that can be read, in a block below D -/
def ListAt (w : World) (D : Nat) (s : Value) (n : Nat) : Prop :=
  ∃ a cap, s = .slice a n cap ∧ n ≤ 400 ∧ (0 < n → ∃ b off, a = some ⟨b, off, none⟩ ∧ b < D ∧ ∀ i, i < n → ∃ x : Int, w.cell? ⟨b, off + i, none⟩ = some (.int .i64 x))
theorem ListAt.same {w w1 : World} {D n : Nat} {s : Value} (h : ListAt w D s n) (hg : ∀ k, k < D → w1.heap[k]? = w.heap[k]?) : ListAt w1 D s n := by
  obtain ⟨a, cap, h1, h2, h3⟩ := h
  refine ⟨a, cap, h1, h2, fun hn => ?_⟩
  obtain ⟨b, off, h4, h5, h7⟩ := h3 hn
  refine ⟨b, off, h4, h5, fun i hi => ?_⟩
  obtain ⟨x, hx⟩ := h7 i hi
  exact ⟨x, (World.cell?_of_block (w := w) (a := ⟨b, off + i, none⟩) (hg b h5)).trans hx⟩
/-- a deck lies in block D -/
def DeckAt (w : World) (D : Nat) : Prop :=
  ∃ (s : Value) (n : Nat) (t st : Int), w.heap[D]? = some (.cells #[s, .int .i64 t, .int .u64 st] 71 (0, 0)) ∧ ListAt w D s n ∧ 0 ≤ t ∧ t ≤ n
theorem DeckAt.lt {w : World} {D : Nat} (h : DeckAt w D) : D < w.heap.size := by
  obtain ⟨s, n, t, st, h, _⟩ := h
  exact (Array.getElem?_eq_some_iff.1 h).1
theorem DeckAt.same {w w1 : World} {D : Nat} (h : DeckAt w D) (hg : ∀ k, k ≤ D → w1.heap[k]? = w.heap[k]?) : DeckAt w1 D := by
  obtain ⟨s, n, t, st, h1, h2, h3⟩ := h
  exact ⟨s, n, t, st, (hg D (Nat.le_refl _)).trans h1, h2.same fun k hk => hg k (Nat.le_of_lt hk), h3⟩
/-- a deck is as it was behind whatever leaves all that was there as it was -/
theorem DeckAt.below {w w1 : World} {D : Nat} (h : DeckAt w D) (hb : Below w.heap.size w w1) : DeckAt w1 D := by
  have hlt := h.lt
  exact h.same fun k hk => hb.block k (by omega)
/-- w' is w, but for the deck in block D, which has moved on, and for new blocks -/
structure Moved (D : Nat) (w w' : World) : Prop where
  grown : w.grownBy w' (some D)
  deck : DeckAt w' D
  lt : D < w.heap.size
theorem Moved.start {D : Nat} {w : World} (h : DeckAt w D) : Moved D w w := ⟨grown_refl _ _, h, h.lt⟩
theorem Moved.trans {D : Nat} {w w1 w2 : World} (h : Moved D w w1) (h' : Moved D w1 w2) : Moved D w w2 := ⟨grown_trans h.grown h'.grown, h'.deck, h.lt⟩
theorem Moved.below {D : Nat} {w w1 w2 : World} (h : Moved D w w1) (hb : Below w1.heap.size w1 w2) : Moved D w w2 := ⟨grown_trans h.grown (grown_below hb), h.deck.below hb, h.lt⟩
theorem Moved.alloc {D : Nat} {w w1 : World} (h : Moved D w w1) (o : Obj) : Moved D w (w1.alloc o) := h.below ((Below.refl _ _).alloc (Nat.le_refl _) _)
theorem Moved.drew {D : Nat} {w w1 : World} (h : Moved D w w1) : Moved D w w1.drew := h.below (Below.refl _ _).drew
theorem Moved.drewN {D : Nat} {w w1 : World} (h : Moved D w w1) (n : Nat) : Moved D w (w1.drewN n) := h.below (below_drewN (Below.refl _ _) n)
theorem Moved.set {D : Nat} {w w1 : World} (h : Moved D w w1) {a : Addr} (ha : w.heap.size ≤ a.block) (v : Value) : Moved D w (w1.setCell a v) := by
  have := h.lt
  refine ⟨⟨h.grown.os, h.grown.tape, h.grown.output, by simpa [World.setCell] using h.grown.size, fun k hk hr => ?_⟩, h.deck.same fun k hk => heap_setCell_other _ _ _ _ (by omega), this⟩
  rw [heap_setCell_other _ _ _ _ (by omega)]; exact h.grown.block k hk hr
theorem Moved.blk {D k : Nat} {w w1 : World} {o : Obj} (h : Moved D w w1) (hk : k ≠ D) (ho : w.heap[k]? = some o) : w1.heap[k]? = some o := grown_blk h.grown ho hk
theorem Moved.size {D : Nat} {w w1 : World} (h : Moved D w w1) : w.heap.size ≤ w1.heap.size := h.grown.size
/-- as seen from before the deck was made -/
theorem Moved.base {D B : Nat} {w0 w w1 : World} (h : Moved D w w1) (hb : Below B w0 w) (hB : B ≤ D) : Below B w0 w1 :=
  hb.trans ⟨h.grown.os, h.grown.tape, h.grown.output, h.grown.size, fun k hk => h.grown.block k (by have := h.lt; omega) (by simp; omega)⟩
def WordPost (D : Nat) (w : World) (e : Ending) (w' : World) : Prop :=
  ∃ r : Int, e = .returned (.int .u64 r) ∧ 0 ≤ r ∧ r < 18446744073709551616 ∧ Moved D w w'
theorem word_done {D n : Nat} {w w' : World} {s : Value} {r t st : Int} (hL : ListAt w D s n) (hg : w.grownBy w' (some D)) (hD : w'.heap[D]? = some (.cells #[s, .int .i64 t, .int .u64 st] 71 (0, 0)))
    (hlt : D < w.heap.size) (h0 : 0 ≤ t) (h1 : t ≤ n) (hr : 0 ≤ r ∧ r < 18446744073709551616) : WordPost D w (.returned (.int .u64 r)) w' :=
  ⟨r, rfl, hr.1, hr.2, hg, ⟨s, n, t, st, hD, hL.same fun k hk => hg.block k (by omega) (by simp; omega), h0, h1⟩, hlt⟩
set_option maxHeartbeats 400000 in
theorem word_more (D : Nat) (w : World) (b off n cap : Nat) (t st x : Int) (hD : w.heap[D]? = some (.cells #[.slice (some ⟨b, off, none⟩) n cap, .int .i64 t, .int .u64 st] 71 (0, 0)))
    (hL : ListAt w D (.slice (some ⟨b, off, none⟩) n cap) n) (hn : n ≤ 400) (h0 : 0 ≤ t) (h1 : t < n) (hb : b < D) (hx : w.cell? ⟨b, off + t.toNat, none⟩ = some (.int .i64 x)) :
    Calls Tryz.prog 43 #[.pointer (some ⟨D, 0, none⟩)] w (WordPost D w) := by
  obtain ⟨p0, p1, p2⟩ := cells3 hD
  obtain ⟨f0, f1, f2⟩ := free3 hD
  obtain ⟨t, rfl⟩ := Int.eq_ofNat_of_zero_le h0
  rw [Int.toNat_natCast] at hx
  have hlt := lt_of_blk hD
  have HD := Lib.hid hD; clear hD
  go_enter Tryz.func43, Tryz.ntmps43
  go_wp2
  go_quiet (fail)
  go_wp2
  go_quiet (fail)
  go_wp2
  go_quiet (fail)
  go_wp2
  go_ret
  exact word_done hL (grown_drewN (grown_set (grown_set (grown_drewN (grown_refl w _) _))) _) (blk_set (blk_set HD.out)) hlt (by omega) (by omega) (bits_u64_bd _ _ _)
set_option maxHeartbeats 400000 in
theorem word_end (D : Nat) (w : World) (a : Option Addr) (n cap : Nat) (t st : Int) (hD : w.heap[D]? = some (.cells #[.slice a n cap, .int .i64 t, .int .u64 st] 71 (0, 0)))
    (hL : ListAt w D (.slice a n cap) n) (hn : n ≤ 400) (h0 : 0 ≤ t) (h1 : t = n) :
    Calls Tryz.prog 43 #[.pointer (some ⟨D, 0, none⟩)] w (WordPost D w) := by
  subst h1
  obtain ⟨p0, p1, p2⟩ := cells3 hD
  obtain ⟨f0, f1, f2⟩ := free3 hD
  have hlt := lt_of_blk hD
  have HD := Lib.hid hD; clear hD
  go_enter Tryz.func43, Tryz.ntmps43
  go_wp2
  go_quiet (fail)
  go_wp2
  go_quiet (fail)
  go_wp2
  go_ret
  exact word_done hL (grown_drewN (grown_set (grown_drewN (grown_refl w _) _)) _) (blk_set HD.out) hlt (by omega) (by omega) (bits_u64_bd _ _ _)
theorem word_any (D : Nat) (w : World) (h : DeckAt w D) :
    Calls Tryz.prog 43 #[.pointer (some ⟨D, 0, none⟩)] w (WordPost D w) := by
  obtain ⟨s, n, t, st, hD, hL, h0, h1⟩ := h
  have hL' := hL
  obtain ⟨a, cap, rfl, hn, h2⟩ := hL
  by_cases ht : t = n
  · exact word_end D w a n cap t st hD hL' hn h0 ht
  · have ht' : t < n := by clear h2 hL'; omega
    obtain ⟨b, off, rfl, hb, hc⟩ := h2 (by clear h2 hL'; omega)
    obtain ⟨x, hx⟩ := hc t.toNat (by clear hc h2 hL'; omega)
    exact word_more D w b off n cap t st x hD hL' hn h0 ht' hb hx

theorem next_val {r k : Int} (h0 : 0 ≤ r) (h1 : r < 18446744073709551616) (hk : 1 ≤ k) : 0 ≤ (wrap64 (r / 2)).tmod k ∧ (wrap64 (r / 2)).tmod k < k := by
  have e : wrap64 (r / 2) = r / 2 := IntWalk.wrap64_in (r / 2) (by constructor <;> omega)
  have h2 : 0 ≤ r / 2 := by omega
  rw [e, Int.tmod_eq_emod_of_nonneg h2]
  exact ⟨Int.emod_nonneg _ (by omega), Int.emod_lt_of_pos _ (by omega)⟩
def NextPost (D : Nat) (w : World) (k : Int) (e : Ending) (w' : World) : Prop :=
  ∃ r : Int, e = .returned (.int .i64 r) ∧ 0 ≤ r ∧ r < k ∧ Moved D w w'
set_option maxHeartbeats 400000 in
theorem next_any (D : Nat) (w : World) (k : Int) (h : DeckAt w D) (hk : 1 ≤ k) (hk2 : k ≤ 1000000000) :
    Calls Tryz.prog 12 #[.pointer (some ⟨D, 0, none⟩), .int .i64 k] w (NextPost D w k) := by
  go_enter Tryz.func12, Tryz.ntmps12
  go_wp2_with fail
  refine (word_any D _ h).mono ?_
  rintro e w1 ⟨r, rfl, h0, h1, h2⟩
  have H1 := Lib.hid h1; clear h1
  have H2 := Lib.hid h2; clear h2
  go_wp2_with fail
  go_ret
  have hv := next_val h0 H1.out hk
  exact ⟨_, rfl, hv.1, hv.2, H2.out⟩
set_option maxHeartbeats 400000 in
theorem few_any (a : Option Addr) (n cap : Nat) (w : World) :
    Calls Tryz.prog 9 #[.slice a n cap] w fun e w' => e = .returned (.bool (decide (n ≤ 400))) ∧ w = w' := by
  go_enter Tryz.func9, Tryz.ntmps9
  go_wp2
  go_ret
  exact ⟨ret_bool (by simp; omega), rfl⟩
set_option maxHeartbeats 400000 in
theorem new_any (a : Option Addr) (n cap : Nat) (w : World) :
    Calls Tryz.prog 10 #[.slice a n cap] w fun e w' => e = .returned (.pointer (some ⟨w.heap.size, 0, none⟩)) ∧ w.alloc (.cells #[.slice a n cap, .int .i64 0, .int .u64 11400714819323198485] 71) = w' := by
  go_enter Tryz.func10, Tryz.ntmps10
  go_wp2
  go_ret
  exact ⟨rfl, rfl⟩
/-- a list that can be read, and no more than 400 numbers, makes a deck -/
theorem deck_new {w : World} {a : Option Addr} {n cap : Nat} (hn : n ≤ 400) (h : 0 < n → ∃ b off, a = some ⟨b, off, none⟩ ∧ b < w.heap.size ∧ ∀ i, i < n → ∃ x : Int, w.cell? ⟨b, off + i, none⟩ = some (.int .i64 x)) :
    DeckAt (w.alloc (.cells #[.slice a n cap, .int .i64 0, .int .u64 11400714819323198485] 71)) w.heap.size := by
  refine ⟨_, n, 0, _, blk_new rfl, ⟨a, cap, rfl, hn, fun h0 => ?_⟩, by omega, by omega⟩
  obtain ⟨b, off, h1, h2, h3⟩ := h h0
  refine ⟨b, off, h1, h2, fun i hi => ?_⟩
  obtain ⟨x, hx⟩ := h3 i hi
  exact ⟨x, (World.cell?_of_block (w := w) (a := ⟨b, off + i, none⟩) (((Below.refl _ _).alloc (Nat.le_refl _) _).block b h2)).trans hx⟩
end Go.Proofs.YtfgoiojmbphmnaaGreatDoor
end
section
/- The deck deals a date: a year from 1800 to 2199, a month from 0 to 13, a day from 1 to 32. -/
set_option linter.unusedSimpArgs false
set_option linter.unusedVariables false
namespace Go.Proofs.YtfgoiojmbphmnaaGreatDoor
open Go.RowKit
def DatePost (D : Nat) (w : World) (e : Ending) (w' : World) : Prop :=
  ∃ y m d : Int, e = .returned (.agg #[.int .i64 y, .int .i64 m, .int .i64 d]) ∧ (1800 ≤ y ∧ y ≤ 2199 ∧ 0 ≤ m ∧ m ≤ 13 ∧ 1 ≤ d ∧ d ≤ 32) ∧ Moved D w w'
set_option maxHeartbeats 4000000 in
theorem date_any (D : Nat) (w : World) (h : DeckAt w D) :
    Calls Tryz.prog 20 #[.pointer (some ⟨D, 0, none⟩)] w (DatePost D w) := by
  have hlt := h.lt
  have M0 := Lib.hid ((Moved.start h).alloc (.cells #[.int .i64 0, .int .i64 0, .int .i64 0] 49))
  clear h
  go_enter Tryz.func20, Tryz.ntmps20
  go_wp2_with fail
  refine (next_any D _ _ M0.out.deck (by omega) (by omega)).mono ?_
  rintro e w1 ⟨y, rfl, y0, y1, m1⟩
  have R1 := Lib.hid (m1.blk (by omega) (blk_new rfl)); have M1 := Lib.hid (M0.out.trans m1); clear m1 M0
  go_wp2_with fail
  refine (next_any D _ _ M1.out.deck (by omega) (by omega)).mono ?_
  rintro e w2 ⟨m, rfl, m0, m1, m2⟩
  have R2 := Lib.hid (m2.blk (by omega) R1.out); have M2 := Lib.hid (M1.out.trans m2); clear m2 M1 R1
  go_wp2_with fail
  refine (next_any D _ _ M2.out.deck (by omega) (by omega)).mono ?_
  rintro e w3 ⟨d, rfl, d0, d1, m3⟩
  have R3 := Lib.hid (m3.blk (by omega) R2.out); have M3 := Lib.hid ((M2.out.trans m3).alloc (.cells #[.int .i64 (1900 + y), .int .i64 (1 + m), .int .i64 (1 + d)] 49))
  have l3 := m3.deck.lt
  have hz3 : w.heap.size < w3.heap.size := lt_of_blk R3.out
  clear m3 M2 R2
  go_wp2_with fail
  refine (next_any D _ _ M3.out.deck (by omega) (by omega)).mono ?_
  rintro e w4 ⟨k, rfl, k0, k1, m4⟩
  have R4 := Lib.hid (m4.blk (by omega) (blk_old R3.out)); have X4 := Lib.hid (m4.blk (by omega) (blk_new rfl)); have M4 := Lib.hid (M3.out.trans m4)
  have hz4 : w3.heap.size < w4.heap.size := lt_of_blk X4.out
  clear m4 M3 R3
  have neX : w.heap.size ≠ w3.heap.size := by omega
  obtain ⟨x0, x1, x2⟩ := cells3 X4.out
  obtain ⟨u0, u1, u2⟩ := free3 X4.out
  obtain ⟨r0, r1, r2⟩ := cells3 R4.out
  obtain ⟨v0, v1, v2⟩ := free3 R4.out
  go_wp2_with fail
  · refine (next_any D _ _ M4.out.deck (by omega) (by omega)).mono ?_
    rintro e w5 ⟨j, rfl, j0, j1, m5⟩
    clear x0 x1 x2 u0 u1 u2 r0 r1 r2 v0 v1 v2
    have R5 := Lib.hid (m5.blk (by omega) R4.out); have X5 := Lib.hid (m5.blk (by omega) X4.out); have M5 := Lib.hid (M4.out.trans m5)
    clear m5
    obtain ⟨x0, x1, x2⟩ := cells3 X5.out
    obtain ⟨u0, u1, u2⟩ := free3 X5.out
    obtain ⟨r0, r1, r2⟩ := cells3 R5.out
    obtain ⟨v0, v1, v2⟩ := free3 R5.out
    go_wp2_with fail
    exact bodyPost_row1 rfl rfl (blk_set (blk_set (blk_set (blk_far (blk_far R5.out (by simp; omega)) (by simp; omega))))) Tryz.underlying49 rfl (by kernel_rfl)
      ⟨_, _, _, rfl, by omega, ((((M5.out.set (by simp; omega) _).set (by simp; omega) _).set (by simp) _).set (by simp) _).set (by simp) _⟩
  · refine (next_any D _ _ (M4.out.alloc _).deck (by omega) (by omega)).mono ?_
    rintro e w5 ⟨j, rfl, j0, j1, m5⟩
    clear x0 x1 x2 u0 u1 u2 r0 r1 r2 v0 v1 v2
    have R5 := Lib.hid (m5.blk (by omega) (blk_old R4.out)); have X5 := Lib.hid (m5.blk (by omega) (blk_old X4.out)); have M5 := Lib.hid ((M4.out.alloc _).trans m5)
    have C5 := m5.blk (k := w4.heap.size) (by omega) (blk_new rfl)
    clear m5
    obtain ⟨x0, x1, x2⟩ := cells3 X5.out
    obtain ⟨u0, u1, u2⟩ := free3 X5.out
    obtain ⟨r0, r1, r2⟩ := cells3 R5.out
    obtain ⟨v0, v1, v2⟩ := free3 R5.out
    have hc : ∃ q : Int, w5.cell? ⟨w4.heap.size, j.toNat, none⟩ = some (.int .i64 q) ∧ 1800 ≤ q ∧ q ≤ 2199 := by
      have : j = 0 ∨ j = 1 ∨ j = 2 ∨ j = 3 := by omega
      rcases this with rfl | rfl | rfl | rfl <;> exact ⟨_, (cell_of_row _ _ _ _ _ _ C5).trans rfl, by omega, by omega⟩
    clear C5
    obtain ⟨q, hc, q0, q1⟩ := hc
    go_wp2_with fail
    exact bodyPost_row1 rfl rfl (blk_set (blk_set (blk_set (blk_far R5.out (by simp; omega))))) Tryz.underlying49 rfl (by kernel_rfl)
      ⟨_, _, _, rfl, by omega, (((M5.out.set (by simp; omega) _).set (by simp) _).set (by simp) _).set (by simp) _⟩
  · refine (next_any D _ _ M4.out.deck (by omega) (by omega)).mono ?_
    rintro e w5 ⟨j, rfl, j0, j1, m5⟩
    clear x0 x1 x2 u0 u1 u2 r0 r1 r2 v0 v1 v2
    have R5 := Lib.hid (m5.blk (by omega) R4.out); have X5 := Lib.hid (m5.blk (by omega) X4.out); have M5 := Lib.hid (M4.out.trans m5)
    clear m5
    obtain ⟨x0, x1, x2⟩ := cells3 X5.out
    obtain ⟨u0, u1, u2⟩ := free3 X5.out
    obtain ⟨r0, r1, r2⟩ := cells3 R5.out
    obtain ⟨v0, v1, v2⟩ := free3 R5.out
    go_wp2_with fail
    exact bodyPost_row1 rfl rfl (blk_set (blk_set (blk_set (blk_far R5.out (by simp; omega))))) Tryz.underlying49 rfl (by kernel_rfl)
      ⟨_, _, _, rfl, by omega, (((M5.out.set (by simp; omega) _).set (by simp) _).set (by simp) _).set (by simp) _⟩
  · refine (next_any D _ _ M4.out.deck (by omega) (by omega)).mono ?_
    rintro e w5 ⟨j, rfl, j0, j1, m5⟩
    clear x0 x1 x2 u0 u1 u2 r0 r1 r2 v0 v1 v2
    have R5 := Lib.hid (m5.blk (by omega) R4.out); have X5 := Lib.hid (m5.blk (by omega) X4.out); have M5 := Lib.hid (M4.out.trans m5)
    clear m5
    obtain ⟨x0, x1, x2⟩ := cells3 X5.out
    obtain ⟨u0, u1, u2⟩ := free3 X5.out
    obtain ⟨r0, r1, r2⟩ := cells3 R5.out
    obtain ⟨v0, v1, v2⟩ := free3 R5.out
    go_wp2_with fail
    exact bodyPost_row1 rfl rfl (blk_set (blk_set (blk_set (blk_far R5.out (by simp; omega))))) Tryz.underlying49 rfl (by kernel_rfl)
      ⟨_, _, _, rfl, by omega, (((M5.out.set (by simp; omega) _).set (by simp) _).set (by simp) _).set (by simp) _⟩
  · exact bodyPost_row1 rfl rfl (blk_set (blk_set (blk_set R4.out))) Tryz.underlying49 rfl (by kernel_rfl)
      ⟨_, _, _, rfl, by omega, ((M4.out.set (by simp) _).set (by simp) _).set (by simp) _⟩
theorem deck_law {w w1 : World} {a : Option Addr} {n cap : Nat} {zs : List Int} (hn : n ≤ 400) (hr : IsRow .i64 w a n cap zs) (hb : Below w.heap.size w w1) :
    DeckAt (w1.alloc (.cells #[.slice a n cap, .int .i64 0, .int .u64 11400714819323198485] 71)) w1.heap.size :=
  deck_new hn fun h0 => by
    obtain ⟨b, off, e1, e2, e3⟩ := hr.read h0
    exact ⟨b, off, e1, Nat.lt_of_lt_of_le e2 hb.size, fun i hi => by obtain ⟨x, hx⟩ := e3 i hi; exact ⟨x, (hb.cell (p := ⟨b, off + i, none⟩) e2).trans hx⟩⟩
end Go.Proofs.YtfgoiojmbphmnaaGreatDoor
end
section
/- recordlinkmake: One, Pick, tokens: some text of bounded length. -/
set_option linter.unusedSimpArgs false
set_option linter.unusedVariables false
set_option maxRecDepth 100000
namespace Go.Proofs.YtfgoiojmbphmnaaGreatDoor
open Go.RowKit
attribute [local go_sem] toList_mk mk_size
@[local go_sem] theorem str_append (a b : List UInt8) : (⟨a.toArray⟩ : ByteArray) ++ ⟨b.toArray⟩ = ⟨(a ++ b).toArray⟩ := by
  apply ByteArray.ext; simp
def SomeBool (D : Nat) (w : World) (e : Ending) (w' : World) : Prop := ∃ b : Bool, e = .returned (.bool b) ∧ Moved D w w'
def SomeText (D N : Nat) (w : World) (e : Ending) (w' : World) : Prop := ∃ l : List UInt8, e = .returned (strV l) ∧ l.length ≤ N ∧ Moved D w w'
set_option maxHeartbeats 400000 in
theorem one_any (D : Nat) (w : World) (k : Int) (h : DeckAt w D) (hk : 1 ≤ k) (hk2 : k ≤ 1000000000) :
    Calls Tryz.prog 42 #[.pointer (some ⟨D, 0, none⟩), .int .i64 k] w (SomeBool D w) := by
  go_enter Tryz.func42, Tryz.ntmps42
  go_wp2_with fail
  refine (next_any D _ k h hk hk2).mono ?_
  rintro e w1 ⟨r, rfl, h0, h1, h2⟩
  have H2 := Lib.hid h2; clear h2
  go_wp2_with fail
  go_ret
  exact ⟨_, rfl, H2.out⟩
theorem Vec.moved {α : Type} {D : Nat} {w w' : World} {k : Nat} {enc : α → List Value} {v : Value} {L : List α} (h : Vec w (fun b => b ≠ D) k enc v L) (m : Moved D w w') : Vec w' (fun b => b ≠ D) k enc v L :=
  h.move m.size fun b hb hD => ⟨m.grown.block b hb (by simp; omega), hD⟩
/-- one of some texts -/
def PickPost (D : Nat) (L : List (List UInt8)) (w : World) (e : Ending) (w' : World) : Prop := ∃ l : List UInt8, e = .returned (strV l) ∧ l ∈ L ∧ Moved D w w'
set_option maxHeartbeats 400000 in
theorem pick_any (D : Nat) (w : World) (v : Value) (L : List (List UInt8)) (h : DeckAt w D) (hV : Vec w (fun b => b ≠ D) 1 encS v L) (h1 : 1 ≤ L.length) (h2 : L.length ≤ 1000) :
    Calls Tryz.prog 14 #[.pointer (some ⟨D, 0, none⟩), v] w (PickPost D L w) := by
  obtain ⟨a, cap, rfl⟩ := hV.slice
  have HV := Lib.hid hV
  clear hV
  go_enter Tryz.func14, Tryz.ntmps14
  go_wp2_with fail
  refine (next_any D _ _ h (by omega) (by omega)).mono ?_
  rintro e w1 ⟨r, rfl, r0, r1, mv⟩
  have MV := Lib.hid mv; clear mv
  obtain ⟨r, rfl⟩ := Int.eq_ofNat_of_zero_le r0
  obtain ⟨b, off, rfl, _, hb, hc⟩ := vec_cell1 (HV.out.moved MV.out) (by omega)
  have hr : r < L.length := by omega
  have hc1 := hc r hr
  have hmem : L.getD r [] ∈ L := by rw [List.getD, List.getElem?_eq_getElem hr]; exact List.getElem_mem hr
  obtain ⟨x, hx⟩ : ∃ x, L.getD r [] = x := ⟨_, rfl⟩
  rw [hx] at hc1 hmem
  have HMem := Lib.hid hmem
  clear hc hmem hx
  go_wp2_with fail
  go_ret
  exact ⟨x, rfl, HMem.out, MV.out⟩
theorem pick_vec (D : Nat) (w : World) (v : Value) (L : List (List UInt8)) (h : DeckAt w D) (hV : Vec w (fun b => b ≠ D) 1 encS v L) (h1 : 1 ≤ L.length) (h2 : L.length ≤ 1000) (N : Nat) (hN : ∀ t ∈ L, t.length ≤ N) :
    Calls Tryz.prog 14 #[.pointer (some ⟨D, 0, none⟩), v] w (SomeText D N w) :=
  (pick_any D w v L h hV h1 h2).mono fun _ _ ⟨l, he, hl, hm⟩ => ⟨l, he, hN l hl, hm⟩
def givenL : List (List UInt8) := [[114, 111, 98, 101, 114, 116], [98, 111, 98], [97, 110, 110], [97, 110, 110, 97], [114, 117, 112, 101, 114, 116], [109, 97, 114, 105, 97], [112, 101, 116, 101, 114], [100, 114], [106, 111], [97, 115, 104, 99, 114, 97, 102, 116], [108, 105]]
def familyL : List (List UInt8) := [[115, 109, 105, 116, 104], [115, 99, 104, 109, 105, 100, 116], [109, 105, 108, 108, 101, 114], [111, 110, 101, 105, 108, 108], [115, 116, 114, 97, 117, 115, 115], [118, 97, 110], [109, 97, 105, 110], [115, 116], [115, 116, 114, 101, 101, 116], [114, 100], [112, 97, 114, 107]]
set_option maxHeartbeats 1000000 in
theorem given_any (w : World) : Calls Tryz.prog 46 #[] w fun e w' => e = .returned (.slice (some ⟨w.heap.size, 0, none⟩) 11 11) ∧ RowB w' w.heap.size givenL ∧ Below w.heap.size w w' := by
  go_enter Tryz.func46, Tryz.ntmps46
  go_wp2
  go_ret
  exact ⟨rfl, blk_new rfl, (Below.refl _ _).alloc (Nat.le_refl _) _⟩
set_option maxHeartbeats 1000000 in
theorem family_any (w : World) : Calls Tryz.prog 47 #[] w fun e w' => e = .returned (.slice (some ⟨w.heap.size, 0, none⟩) 11 11) ∧ RowB w' w.heap.size familyL ∧ Below w.heap.size w w' := by
  go_enter Tryz.func47, Tryz.ntmps47
  go_wp2
  go_ret
  exact ⟨rfl, blk_new rfl, (Below.refl _ _).alloc (Nat.le_refl _) _⟩
end Go.Proofs.YtfgoiojmbphmnaaGreatDoor
end
section
/- recordlinkmake: Token: some word of at most 16 letters. -/
set_option linter.unusedSimpArgs false
set_option linter.unusedVariables false
set_option maxRecDepth 100000
namespace Go.Proofs.YtfgoiojmbphmnaaGreatDoor
open Go.RowKit
attribute [local go_sem] toList_mk mk_size str_append
theorem one_byte (w : World) (a : UInt8) : (convert 66 9 (.slice (some ⟨w.heap.size, 0, none⟩) 1 1)).run Tryz.prog (w.alloc (.cells #[.int .u8 a.toNat] 5)) = .ok (strV [a]) (w.alloc (.cells #[.int .u8 a.toNat] 5)) := by
  have ho : (w.alloc (.cells (([a] : List UInt8).map byteV).toArray 5)).ownsRow 0 5 1 (.slice (some ⟨w.heap.size, 0, none⟩) 1 1) 1 (([a] : List UInt8).map byteV) :=
    ⟨by simp, .inr ⟨_, _, _, rfl, Nat.zero_le _, blk_new rfl, Nat.le_refl _, size_le_maxLen (by omega), by simp, by simp⟩⟩
  exact run_convert_owned [a] ho Tryz.underlying66 Tryz.underlying5 Tryz.underlying9
theorem moved_row {D A : Nat} {w w' : World} {L : List (List UInt8)} (h : RowB w A L) (hA : A ≠ D) (m : Moved D w w') : RowB w' A L := m.blk hA h
/-- a word: letters from a to z, at least one -/
def WordL (l : List UInt8) : Prop := l ≠ [] ∧ (∀ b ∈ l, isLow b = true) ∧ l.length ≤ 16
def wordD (l : List UInt8) : Bool := !l.isEmpty && l.all isLow && decide (l.length ≤ 16)
theorem wordD_is {l : List UInt8} (h : wordD l = true) : WordL l := by
  simp only [wordD, Bool.and_eq_true, Bool.not_eq_true', decide_eq_true_iff, List.all_eq_true] at h
  exact ⟨by intro e; subst e; simp at h, h.1.2, h.2⟩
def TokPost (D : Nat) (w : World) (e : Ending) (w' : World) : Prop := ∃ l : List UInt8, e = .returned (strV l) ∧ WordL l ∧ Moved D w w'
theorem low_deal (q : Nat) (h : q < 26) : isLow (UInt8.ofNat (97 + q)) = true := by
  rw [low_iff, decide_eq_true_iff, UInt8.toNat_ofNat']; omega
set_option maxHeartbeats 4000000 in
theorem token_word (D : Nat) (w : World) (h : DeckAt w D) :
    Calls Tryz.prog 22 #[.pointer (some ⟨D, 0, none⟩)] w (TokPost D w) := by
  go_enter Tryz.func22, Tryz.ntmps22
  go_wp2_with fail
  refine (one_any D _ 6 h (by omega) (by omega)).mono ?_
  rintro e w1 ⟨u, rfl, mv⟩
  have M1 := Lib.hid mv; clear mv
  cases u
  · go_wp2_with fail
    refine (one_any D _ 2 M1.out.deck (by omega) (by omega)).mono ?_
    rintro e w2 ⟨u, rfl, mv⟩
    have M2 := Lib.hid (M1.out.trans mv); clear mv M1
    have zD := M2.out.deck.lt
    cases u
    · go_wp2_with fail
      refine (family_any _).mono ?_
      rintro e w3 ⟨rfl, r3, hb3⟩
      have M3 := Lib.hid (M2.out.below hb3)
      have R3 := Lib.hid r3
      clear r3 hb3
      go_wp2_with fail
      refine (family_any _).mono ?_
      rintro e w4 ⟨rfl, r4, hb4⟩
      have M4 := Lib.hid (M3.out.below hb4)
      have R4 := Lib.hid (show RowB w4 w2.heap.size familyL from blk_below hb4 (lt_of_blk R3.out) R3.out)
      clear r4 hb4
      go_wp2_with fail
      refine (next_any D _ 11 M4.out.deck (by omega) (by omega)).mono ?_
      rintro e w5 ⟨r, rfl, r0, r1, mv⟩
      obtain ⟨r, rfl⟩ := Int.eq_ofNat_of_zero_le r0
      have hr : r < familyL.length := by show r < 11; omega
      have c5 := (moved_row R4.out (by omega) mv).cell r hr
      have hl : WordL (familyL.getD r []) := by
        have : ∀ j : Fin 11, wordD (familyL.getD j []) = true := by decide
        exact wordD_is (this ⟨r, hr⟩)
      have HLn := Lib.hid hl; clear hl
      have M5 := Lib.hid (M4.out.trans mv)
      obtain ⟨x, hx⟩ : ∃ x, familyL.getD r [] = x := ⟨_, rfl⟩
      rw [hx] at c5 HLn
      clear mv hx
      go_wp2_with fail
      go_ret
      exact ⟨x, rfl, HLn.out, M5.out⟩
    · go_wp2_with fail
      refine (given_any _).mono ?_
      rintro e w3 ⟨rfl, r3, hb3⟩
      have M3 := Lib.hid (M2.out.below hb3)
      have R3 := Lib.hid r3
      clear r3 hb3
      go_wp2_with fail
      refine (given_any _).mono ?_
      rintro e w4 ⟨rfl, r4, hb4⟩
      have M4 := Lib.hid (M3.out.below hb4)
      have R4 := Lib.hid (show RowB w4 w2.heap.size givenL from blk_below hb4 (lt_of_blk R3.out) R3.out)
      clear r4 hb4
      go_wp2_with fail
      refine (next_any D _ 11 M4.out.deck (by omega) (by omega)).mono ?_
      rintro e w5 ⟨r, rfl, r0, r1, mv⟩
      obtain ⟨r, rfl⟩ := Int.eq_ofNat_of_zero_le r0
      have hr : r < givenL.length := by show r < 11; omega
      have c5 := (moved_row R4.out (by omega) mv).cell r hr
      have hl : WordL (givenL.getD r []) := by
        have : ∀ j : Fin 11, wordD (givenL.getD j []) = true := by decide
        exact wordD_is (this ⟨r, hr⟩)
      have HLn := Lib.hid hl; clear hl
      have M5 := Lib.hid (M4.out.trans mv)
      obtain ⟨x, hx⟩ : ∃ x, givenL.getD r [] = x := ⟨_, rfl⟩
      rw [hx] at c5 HLn
      clear mv hx
      go_wp2_with fail
      go_ret
      exact ⟨x, rfl, HLn.out, M5.out⟩
  · go_wp2_with fail
    refine (next_any D _ 5 M1.out.deck (by omega) (by omega)).mono ?_
    rintro e w2 ⟨r, rfl, r0, r1, mv⟩
    obtain ⟨r, rfl⟩ := Int.eq_ofNat_of_zero_le r0
    have M2 := Lib.hid (M1.out.trans mv); clear mv M1
    go_wp2_with fail
    go_loopw [3, 4] (fun s i wr => ∃ (l : List UInt8) (k : Nat), s = strV l ∧ i = .int .i64 k ∧ l.length + k ≤ 5 ∧ 1 ≤ l.length + k ∧ Hid (∀ b ∈ l, isLow b = true) ∧ Moved D w wr) (fun _ i _ => (intOf i).toNat)
    case atStart => exact ⟨[], 1 + r, rfl, by congr 1, by simp; omega, by simp, Lib.hid (by simp), M2.out⟩
    case round =>
      obtain ⟨l, k, rfl, rfl, hlk, hlk1, HLow, mv⟩ := hrel
      have MW := Lib.hid mv; clear mv
      by_cases hk : 0 < k
      · have hq : decide ((0 : Int) < k) = true := by simp; omega
        go_wp2_with fail
        refine (next_any D _ 26 MW.out.deck (by omega) (by omega)).mono ?_
        rintro e w3 ⟨q, rfl, q0, q1, mv⟩
        obtain ⟨q, rfl⟩ := Int.eq_ofNat_of_zero_le q0
        have M3 := Lib.hid (MW.out.trans mv)
        have ha : ((UInt8.ofNat (97 + q)).toNat : Int) = 97 + (q : Int) := by rw [UInt8.toNat_ofNat']; omega
        have hcv := one_byte w3 (UInt8.ofNat (97 + q))
        rw [ha] at hcv
        have hlo := low_deal q (by omega)
        obtain ⟨c, hc⟩ : ∃ c, UInt8.ofNat (97 + q) = c := ⟨_, rfl⟩
        rw [hc] at hcv hlo
        have HLo := Lib.hid hlo; clear hlo
        clear mv ha hc
        go_wp2_with fail
        go_roundw
        case rel => exact ⟨l ++ [c], k - 1, rfl, by congr 1; omega, by simp; omega, by simp; omega, Lib.hid (fun b hb => (List.mem_append.1 hb).elim (HLow.out b) (fun h => by simp at h; subst h; exact HLo.out)), M3.out.alloc _⟩
        case measure => simp [intOf]; omega
      · have hq : decide ((0 : Int) < k) = false := by simp; omega
        go_wp2_with fail
        go_ret
        exact ⟨l, rfl, ⟨by intro e; subst e; simp at hlk1; omega, HLow.out, by omega⟩, MW.out⟩
theorem token_deal (D : Nat) (w : World) (h : DeckAt w D) :
    Calls Tryz.prog 22 #[.pointer (some ⟨D, 0, none⟩)] w (SomeText D 16 w) :=
  (token_word D w h).mono fun _ _ ⟨l, he, hl, hm⟩ => ⟨l, he, hl.2.2, hm⟩
end Go.Proofs.YtfgoiojmbphmnaaGreatDoor
end
section
/- Plain law: a text in other dress has the same tokens. -/
set_option linter.unusedSimpArgs false
set_option linter.unusedVariables false
set_option maxRecDepth 100000
namespace Go.Proofs.YtfgoiojmbphmnaaGreatDoor
open Go.RowKit
/-- two beginnings of a text that any rest continues to the same tokens -/
def EqL (a b : List UInt8) : Prop := ∀ r, toksA [] (a ++ r) = toksA [] (b ++ r)
theorem EqL.refl (a : List UInt8) : EqL a a := fun _ => rfl
theorem EqL.app {a b : List UInt8} (h : EqL a b) (c : List UInt8) : EqL (a ++ c) (b ++ c) := fun r => by rw [List.append_assoc, List.append_assoc]; exact h _
theorem EqL.trans {a b c : List UInt8} (h : EqL a b) (h' : EqL b c) : EqL a c := fun r => (h r).trans (h' r)
theorem EqL.lead : EqL [32] [] := fun r => toksA_sp0 r
theorem toksA_two (l : List UInt8) : ∀ p r, toksA p (l ++ 32 :: 32 :: r) = toksA p (l ++ 32 :: r) := by
  induction l with
  | nil =>
    intro p r
    simp only [List.nil_append]
    by_cases hp : p = []
    · subst hp; rw [toksA_sp0]
    · rw [toksA_sp _ _ hp, toksA_sp _ _ hp, toksA_sp0]
  | cons c l ih =>
    intro p r
    simp only [List.cons_append]
    by_cases hc : c = 32
    · subst hc
      by_cases hp : p = []
      · subst hp; rw [toksA_sp0, toksA_sp0, ih]
      · rw [toksA_sp _ _ hp, toksA_sp _ _ hp, ih]
    · rw [toksA_ch _ _ _ hc, toksA_ch _ _ _ hc, ih]
theorem EqL.two (a : List UInt8) : EqL (a ++ [32, 32]) (a ++ [32]) := fun r => by
  rw [List.append_assoc, List.append_assoc]; exact toksA_two a [] r
theorem toksA_last (l : List UInt8) : ∀ p, toksA p (l ++ [32]) = toksA p l := by
  induction l with
  | nil =>
    intro p
    simp only [List.nil_append]
    by_cases hp : p = []
    · subst hp; rw [toksA_sp0]
    · rw [toksA_sp _ _ hp, toksA_end _ hp]; rfl
  | cons c l ih =>
    intro p
    simp only [List.cons_append]
    by_cases hc : c = 32
    · subst hc
      by_cases hp : p = []
      · subst hp; rw [toksA_sp0, toksA_sp0, ih]
      · rw [toksA_sp _ _ hp, toksA_sp _ _ hp, ih]
    · rw [toksA_ch _ _ _ hc, toksA_ch _ _ _ hc, ih]
def allOk (l : List UInt8) : Prop := ∀ b ∈ l, okByte b = true
theorem allOk.app {a b : List UInt8} (h : allOk a) (h' : allOk b) : allOk (a ++ b) := fun c hc => (List.mem_append.1 hc).elim (h c) (h' c)
def plainL (l : List UInt8) : List UInt8 := l.flatMap plainB
theorem plainL_app (a b : List UInt8) : plainL (a ++ b) = plainL a ++ plainL b := List.flatMap_append
theorem byte_pair {a b : UInt8} (h : okByte a = true) : isPair a b = false := by
  rw [ok_iff, decide_eq_true_iff] at h
  rw [pair_iff]; simp; omega
theorem raw_flat (l : List UInt8) (h : allOk l) : rawL l = plainL l ∧ validL l = true := by
  induction l using rawL.induct with
  | case1 => exact ⟨rfl, rfl⟩
  | case2 a => exact ⟨by simp [rawL, plainL], by simp only [validL]; exact h a (by simp)⟩
  | case3 a b r hp ih => exfalso; rw [byte_pair (h a (by simp))] at hp; cases hp
  | case4 a b r hp ih =>
    have hp' := byte_pair (a := a) (b := b) (h a (by simp))
    have := ih fun x hx => h x (List.mem_cons_of_mem _ hx)
    refine ⟨?_, ?_⟩
    · rw [rawL, hp']; simp only [Bool.false_eq_true, if_false]; rw [this.1]; simp [plainL]
    · rw [validL, hp']; simp only [Bool.false_eq_true, if_false]; rw [this.2, h a (by simp)]; rfl
/-- what a beginning of a folded text becomes -/
structure DressTo (p o : List UInt8) : Prop where
  ok : allOk o
  eq : EqL (plainL o) p
  len : o.length ≤ 1 + 2 * p.length
/-- a text in another dress -/
structure DressOf (l o : List UInt8) : Prop where
  ok : allOk o
  eq : toks (rawL o) = toks l
  len : o.length ≤ 2 + 2 * l.length
def dressA : List (List UInt8) := [[], [], [32], [45]]
def dressB : List (List UInt8) := [[32], [45], [44, 32], [46], [32, 32], [47]]
def dressC : List (List UInt8) := [[], [], [32], [46]]
theorem allOk_dec {l : List UInt8} (h : l.all okByte = true) : allOk l := List.all_eq_true.1 h
theorem DressTo.start {o : List UInt8} (h : o ∈ dressA) : DressTo [] o := by
  simp [dressA] at h
  rcases h with rfl | rfl | rfl
  · exact ⟨allOk_dec rfl, EqL.refl _, by simp⟩
  · exact ⟨allOk_dec rfl, EqL.lead, by simp⟩
  · exact ⟨allOk_dec rfl, EqL.lead, by simp⟩
theorem DressTo.space {p o x : List UInt8} (h : DressTo p o) (hx : x ∈ dressB) : DressTo (p ++ [32]) (o ++ x) := by
  simp [dressB] at hx
  rcases hx with rfl | rfl | rfl | rfl | rfl | rfl
  · exact ⟨h.ok.app (allOk_dec rfl), by rw [plainL_app]; exact h.eq.app [32], by have := h.len; simp; omega⟩
  · exact ⟨h.ok.app (allOk_dec rfl), by rw [plainL_app]; exact h.eq.app [32], by have := h.len; simp; omega⟩
  · exact ⟨h.ok.app (allOk_dec rfl), by rw [plainL_app]; exact (EqL.two _).trans (h.eq.app [32]), by have := h.len; simp; omega⟩
  · exact ⟨h.ok.app (allOk_dec rfl), by rw [plainL_app]; exact h.eq.app [32], by have := h.len; simp; omega⟩
  · exact ⟨h.ok.app (allOk_dec rfl), by rw [plainL_app]; exact (EqL.two _).trans (h.eq.app [32]), by have := h.len; simp; omega⟩
  · exact ⟨h.ok.app (allOk_dec rfl), by rw [plainL_app]; exact h.eq.app [32], by have := h.len; simp; omega⟩
theorem DressTo.byte {p o : List UInt8} {c x : UInt8} (h : DressTo p o) (hx : okByte x = true) (hp : plainB x = [c]) : DressTo (p ++ [c]) (o ++ [x]) :=
  ⟨h.ok.app (fun b hb => by simp at hb; subst hb; exact hx), by rw [plainL_app, show plainL [x] = [c] by simp [plainL, hp]]; exact h.eq.app [c], by have := h.len; simp; omega⟩
theorem DressTo.mark {p o : List UInt8} {c x : UInt8} (h : DressTo p o) (hx : okByte x = true) (hp : plainB x = [c]) : DressTo (p ++ [c]) (o ++ [x] ++ [39]) :=
  ⟨(h.ok.app (fun b hb => by simp at hb; subst hb; exact hx)).app (allOk_dec rfl), by rw [plainL_app, plainL_app, show plainL [39] = [] from rfl, List.append_nil, show plainL [x] = [c] by simp [plainL, hp]]; exact h.eq.app [c], by have := h.len; simp; omega⟩
theorem DressTo.done {p o x : List UInt8} (h : DressTo p o) (hx : x ∈ dressC) : DressOf p (o ++ x) := by
  have e : ∀ q : List UInt8, toks (plainL o ++ q) = toksA [] (p ++ q) := fun q => h.eq q
  have e0 := h.eq []
  simp only [List.append_nil] at e0
  simp [dressC] at hx
  rcases hx with rfl | rfl | rfl
  · exact ⟨h.ok.app (allOk_dec rfl), by rw [(raw_flat _ (h.ok.app (allOk_dec rfl))).1, List.append_nil]; exact e0, by have := h.len; simp; omega⟩
  · exact ⟨h.ok.app (allOk_dec rfl), by rw [(raw_flat _ (h.ok.app (allOk_dec rfl))).1, plainL_app]; exact (e [32]).trans (toksA_last p []), by have := h.len; simp; omega⟩
  · exact ⟨h.ok.app (allOk_dec rfl), by rw [(raw_flat _ (h.ok.app (allOk_dec rfl))).1, plainL_app]; exact (e [32]).trans (toksA_last p []), by have := h.len; simp; omega⟩
/-- a byte of a folded text that is no space stands for itself -/
theorem plain_self {c : UInt8} (h : okB c = true) : okByte c = true ∧ plainB c = [c] := ⟨ok_byte h, ok_plain h⟩
/-- .. and so does a letter written great -/
theorem plain_up {c : UInt8} (h : isLow c = true) : okByte (c - 32) = true ∧ plainB (c - 32) = [c] := by
  rw [low_iff, decide_eq_true_iff] at h
  have e : (c - 32).toNat = c.toNat - 32 := by
    rw [UInt8.toNat_sub_of_le]
    · rfl
    · rw [UInt8.le_iff_toNat_le]; show 32 ≤ _; omega
  have hu : isUp (c - 32) = true := by rw [up_iff, decide_eq_true_iff, e]; omega
  refine ⟨?_, ?_⟩
  · rw [ok_iff, decide_eq_true_iff, e]; omega
  · unfold plainB; rw [if_pos hu, UInt8.sub_add_cancel]
end Go.Proofs.YtfgoiojmbphmnaaGreatDoor
end
section
/- Plain law: the rules and schemas that the deck deals are valid. -/
set_option linter.unusedSimpArgs false
set_option linter.unusedVariables false
set_option maxRecDepth 100000
namespace Go.Proofs.YtfgoiojmbphmnaaGreatDoor
open Go.RowKit
def t1L : List (List UInt8) := [[100, 114], [118, 97, 110]]
def n1L : List P2 := [([97, 110, 110, 97], [97, 110, 110]), ([98, 111, 98], [114, 111, 98, 101, 114, 116])]
def s1L : List P2 := [([114, 100], [114, 111, 97, 100]), ([115, 116], [115, 116, 114, 101, 101, 116])]
/-- rules that are dealt -/
structure RulesD (r : RulesL) : Prop where
  t : r.titles = [] ∨ r.titles = t1L
  n : r.nicks = [] ∨ r.nicks = n1L
  s : r.streets = [] ∨ r.streets = s1L
theorem RulesD.check {r : RulesL} (h : RulesD r) : checkR r = 0 := by
  obtain ⟨t, n, s⟩ := r
  obtain ⟨h1, h2, h3⟩ := h
  dsimp only at h1 h2 h3
  rcases h1 with rfl | rfl <;> rcases h2 with rfl | rfl <;> rcases h3 with rfl | rfl <;> decide
def namesD : List (List UInt8) := [[102, 97, 109, 105, 108, 121], [103, 105, 118, 101, 110], [98, 105, 114, 116, 104], [115, 116, 114, 101, 101, 116], [99, 111, 100, 101]]
/-- the first fields of a schema that is dealt -/
structure FieldsD (F : List F2) : Prop where
  len : F.length ≤ 4
  names : F.map (·.1) = namesD.take F.length
  kinds : ∀ x ∈ F, 1 ≤ x.2 ∧ x.2 ≤ 4
theorem FieldsD.nil : FieldsD [] := ⟨by simp, rfl, by simp⟩
theorem FieldsD.snoc {F : List F2} (h : FieldsD F) (hl : F.length < 4) {k : Int} (h1 : 1 ≤ k) (h2 : k ≤ 4) : FieldsD (F ++ [(namesD.getD F.length [], k)]) := by
  refine ⟨by simp; omega, ?_, fun x hx => ?_⟩
  · have hn : F.length < namesD.length := by show F.length < 5; omega
    rw [List.map_append, h.names, List.length_append, List.length_singleton, List.take_succ_eq_append_getElem hn, List.getD, List.getElem?_eq_getElem hn]
    rfl
  · rcases List.mem_append.1 hx with hx | hx
    · exact h.kinds x hx
    · simp at hx; subst hx; exact ⟨h1, h2⟩
theorem names_ok : ∀ n : Fin 5, ∀ j : Fin n, (wordB (namesD.getD j []) && !(((namesD.take n).take j).any fun x => x == namesD.getD j [])) = true := by decide
theorem FieldsD.check {F : List F2} (h : FieldsD F) (h1 : 1 ≤ F.length) {r : RulesL} (hr : checkR r = 0) : checkS ⟨F, r⟩ = 0 := by
  have hl := h.len
  have hf : fieldsB F = true := by
    refine List.all_eq_true.2 fun j hj => ?_
    have hj' : j < F.length := List.mem_range.1 hj
    have hk := names_ok ⟨F.length, by omega⟩ ⟨j, hj'⟩
    have e1 : (F.getD j default).1 = namesD.getD j [] := by
      have hjn : j < (F.map (·.1)).length := by simpa using hj'
      have : (F.map (·.1)).getD j [] = namesD.getD j [] := by
        rw [h.names, List.getD, List.getElem?_take, if_pos hj', List.getD]
      rw [← this, List.getD, List.getElem?_eq_getElem hj', List.getD, List.getElem?_map, List.getElem?_eq_getElem hj']; rfl
    have e2 : ((F.take j).any fun x => x.1 == (F.getD j default).1) = ((namesD.take F.length).take j).any fun x => x == namesD.getD j [] := by
      rw [e1, ← h.names, ← List.map_take, List.any_map]; rfl
    have hm : F.getD j default ∈ F := by rw [List.getD, List.getElem?_eq_getElem hj']; exact List.getElem_mem hj'
    obtain ⟨k1, k2⟩ := h.kinds _ hm
    unfold fieldAtB
    rw [e2, e1]
    dsimp only at hk
    rw [hk, decide_eq_true k1, decide_eq_true k2]; rfl
  unfold checkS
  rw [if_neg (by dsimp only; omega), if_pos hf]; exact hr
end Go.Proofs.YtfgoiojmbphmnaaGreatDoor
end
section
/- recordlinkmake: Rules: some valid rules. -/
set_option linter.unusedSimpArgs false
set_option linter.unusedVariables false
set_option maxRecDepth 100000
namespace Go.Proofs.YtfgoiojmbphmnaaGreatDoor
open Go.RowKit
attribute [local go_sem] toList_mk mk_size str_append
theorem blockVec {w : World} {A : Nat} {α : Type} {k : Nat} {enc : α → List Value} (hk : ∀ x, (enc x).length = k) {t : TypeId} {L : List α} {S : Nat → Prop} (h : w.heap[A]? = some (.cells (L.flatMap enc).toArray t (0, 0))) (hS : S A) (n : Nat) (hn : n = L.length) : Vec w S k enc (.slice (some ⟨A, 0, none⟩) n n) L := by
  subst hn
  refine ⟨_, _, rfl, Nat.le_refl _, fun _ => ⟨A, 0, rfl, hS, lt_of_blk h, fun j x hj i u hu => ?_⟩⟩
  have hi : i < k := by rw [← hk x]; exact (List.getElem?_eq_some_iff.1 hu).1
  rw [cell_of_row _ _ _ _ _ _ h, Nat.zero_add, List.getElem?_toArray, flat_get hk L j x hj i hi]
  exact hu
theorem Vec.put {α : Type} {w : World} {S : Nat → Prop} {k : Nat} {enc : α → List Value} {v : Value} {L : List α} (h : Vec w S k enc v L) {a : Addr} (ha : ∀ b, S b → b ≠ a.block) (x : Value) (o : Obj) : Vec ((w.setCell a x).alloc o) S k enc v L :=
  h.move (by simp [World.setCell]) fun b hb hS => ⟨by rw [heap_alloc_old _ _ (by simpa [World.setCell] using hb), heap_setCell_other _ _ _ _ (ha b hS)], hS⟩
theorem Vec.weaken {α : Type} {w : World} {S S' : Nat → Prop} {k : Nat} {enc : α → List Value} {v : Value} {L : List α} (h : Vec w S k enc v L) (hs : ∀ b, S b → S' b) : Vec w S' k enc v L := h.move (Nat.le_refl _) fun b _ h => ⟨rfl, hs b h⟩
theorem set_new (v : World) (a : Addr) (x : Value) (o : Obj) : ((v.setCell a x).alloc o).heap[v.heap.size]? = some o := blk_new (by simp [World.setCell])
theorem Vec.set1 {α : Type} {w : World} {S : Nat → Prop} {k : Nat} {enc : α → List Value} {v : Value} {L : List α} (h : Vec w S k enc v L) {a : Addr} (ha : ∀ b, S b → b ≠ a.block) (x : Value) : Vec (w.setCell a x) S k enc v L :=
  h.move (by simp [World.setCell]) fun b hb hS => ⟨by rw [heap_setCell_other _ _ _ _ (ha b hS)], hS⟩
theorem RulesAt.set3 {w : World} {S : Nat → Prop} {vt vn vs : Value} {r : RulesL} (h : RulesAt w S vt vn vs r) {a b c : Addr} (ha : ∀ k, S k → k ≠ a.block) (hb : ∀ k, S k → k ≠ b.block) (hc : ∀ k, S k → k ≠ c.block) (x y z : Value) : RulesAt (((w.setCell a x).setCell b y).setCell c z) S vt vn vs r :=
  ⟨((h.1.set1 ha x).set1 hb y).set1 hc z, ((h.2.1.set1 ha x).set1 hb y).set1 hc z, ((h.2.2.set1 ha x).set1 hb y).set1 hc z⟩
theorem RulesAt.weaken {w : World} {S S' : Nat → Prop} {vt vn vs : Value} {r : RulesL} (h : RulesAt w S vt vn vs r) (hs : ∀ b, S b → S' b) : RulesAt w S' vt vn vs r := ⟨h.1.weaken hs, h.2.1.weaken hs, h.2.2.weaken hs⟩
/-- while rules are dealt: the result's block, the block of the rules, what these hold -/
def RMid (D : Nat) (w wc : World) : Prop := ∃ vt vn vs r, wc.heap[w.heap.size]? = some (.cells #[.slice none 0 0, .slice none 0 0, .slice none 0 0] 31 (0, 0)) ∧ wc.heap[w.heap.size + 1]? = some (.cells #[vt, vn, vs] 31 (0, 0)) ∧ RulesAt wc (fun b => w.heap.size + 1 < b) vt vn vs r ∧ RulesD r ∧ Moved D w wc
theorem RMid.moved {D : Nat} {w wc wd : World} (h : RMid D w wc) (hD : D < w.heap.size) (m : Moved D wc wd) : RMid D w wd := by
  obtain ⟨vt, vn, vs, r, hz, hy, hr, hd, hm⟩ := h
  refine ⟨vt, vn, vs, r, m.blk (by omega) hz, m.blk (by omega) hy, ?_, hd, hm.trans m⟩
  exact ⟨hr.1.move m.size fun b hb hS => ⟨m.grown.block b hb (by simp; omega), hS⟩, hr.2.1.move m.size fun b hb hS => ⟨m.grown.block b hb (by simp; omega), hS⟩, hr.2.2.move m.size fun b hb hS => ⟨m.grown.block b hb (by simp; omega), hS⟩⟩
theorem rmid_t {D : Nat} {w v : World} {vt vn vs : Value} {r : RulesL} (hD : D < w.heap.size) (hz : v.heap[w.heap.size]? = some (.cells #[.slice none 0 0, .slice none 0 0, .slice none 0 0] 31 (0, 0))) (hy : v.heap[w.heap.size + 1]? = some (.cells #[vt, vn, vs] 31 (0, 0))) (hr : RulesAt v (fun b => w.heap.size + 1 < b) vt vn vs r) (hd : RulesD r) (hm : Moved D w v) :
    RMid D w ((v.setCell ⟨w.heap.size + 1, 0, none⟩ (.slice (some ⟨v.heap.size, 0, none⟩) 2 2)).alloc (.cells (t1L.flatMap encS).toArray 9)) := by
  have h1 := lt_of_blk hy
  refine ⟨_, vn, vs, ⟨t1L, r.nicks, r.streets⟩, blk_old (blk_far hz (by simp)), blk_old (blk_set hy), ⟨blockVec (k := 1) (enc := encS) (L := t1L) (S := fun b => w.heap.size + 1 < b) (A := v.heap.size) (fun _ => rfl) (set_new _ _ _ _) (by omega) 2 rfl, hr.2.1.put (fun b h => by simp at h ⊢; omega) _ _, hr.2.2.put (fun b h => by simp at h ⊢; omega) _ _⟩, ⟨.inr rfl, hd.n, hd.s⟩, (hm.set (by simp) _).alloc _⟩
theorem rmid_n {D : Nat} {w v : World} {vt vn vs : Value} {r : RulesL} (hD : D < w.heap.size) (hz : v.heap[w.heap.size]? = some (.cells #[.slice none 0 0, .slice none 0 0, .slice none 0 0] 31 (0, 0))) (hy : v.heap[w.heap.size + 1]? = some (.cells #[vt, vn, vs] 31 (0, 0))) (hr : RulesAt v (fun b => w.heap.size + 1 < b) vt vn vs r) (hd : RulesD r) (hm : Moved D w v) :
    RMid D w ((v.setCell ⟨w.heap.size + 1, 1, none⟩ (.slice (some ⟨v.heap.size, 0, none⟩) 2 2)).alloc (.cells (n1L.flatMap encP).toArray 83)) := by
  have h1 := lt_of_blk hy
  refine ⟨vt, _, vs, ⟨r.titles, n1L, r.streets⟩, blk_old (blk_far hz (by simp)), blk_old (blk_set hy), ⟨hr.1.put (fun b h => by simp at h ⊢; omega) _ _, blockVec (k := 2) (enc := encP) (L := n1L) (S := fun b => w.heap.size + 1 < b) (A := v.heap.size) (fun _ => rfl) (set_new _ _ _ _) (by omega) 2 rfl, hr.2.2.put (fun b h => by simp at h ⊢; omega) _ _⟩, ⟨hd.t, .inr rfl, hd.s⟩, (hm.set (by simp) _).alloc _⟩
theorem rmid_s {D : Nat} {w v : World} {vt vn vs : Value} {r : RulesL} (hD : D < w.heap.size) (hz : v.heap[w.heap.size]? = some (.cells #[.slice none 0 0, .slice none 0 0, .slice none 0 0] 31 (0, 0))) (hy : v.heap[w.heap.size + 1]? = some (.cells #[vt, vn, vs] 31 (0, 0))) (hr : RulesAt v (fun b => w.heap.size + 1 < b) vt vn vs r) (hd : RulesD r) (hm : Moved D w v) :
    RMid D w ((v.setCell ⟨w.heap.size + 1, 2, none⟩ (.slice (some ⟨v.heap.size, 0, none⟩) 2 2)).alloc (.cells (s1L.flatMap encP).toArray 83)) := by
  have h1 := lt_of_blk hy
  refine ⟨vt, vn, _, ⟨r.titles, r.nicks, s1L⟩, blk_old (blk_far hz (by simp)), blk_old (blk_set hy), ⟨hr.1.put (fun b h => by simp at h ⊢; omega) _ _, hr.2.1.put (fun b h => by simp at h ⊢; omega) _ _, blockVec (k := 2) (enc := encP) (L := s1L) (S := fun b => w.heap.size + 1 < b) (A := v.heap.size) (fun _ => rfl) (set_new _ _ _ _) (by omega) 2 rfl⟩, ⟨hd.t, hd.n, .inr rfl⟩, (hm.set (by simp) _).alloc _⟩
def RulesPost (D : Nat) (w : World) (e : Ending) (w' : World) : Prop := ∃ vt vn vs r, e = .returned (.agg #[vt, vn, vs]) ∧ RulesAt w' (fun b => w.heap.size ≤ b) vt vn vs r ∧ RulesD r ∧ Moved D w w'
set_option maxHeartbeats 8000000 in
theorem rules_deal (D : Nat) (w : World) (h : DeckAt w D) :
    Calls Tryz.prog 19 #[.pointer (some ⟨D, 0, none⟩)] w (RulesPost D w) := by
  have zD := h.lt
  have HD := Lib.hid h
  clear h
  go_enter Tryz.func19, Tryz.ntmps19
  go_wp2_with fail
  have K := Lib.hid (show RMid D w ((w.alloc (.cells #[.slice none 0 0, .slice none 0 0, .slice none 0 0] 31)).alloc (.cells #[.slice none 0 0, .slice none 0 0, .slice none 0 0] 31)) from
    ⟨_, _, _, ⟨[], [], []⟩, blk_old (blk_new rfl), blk_new (by simp), ⟨Vec.nil _ _ _ _, Vec.nil _ _ _ _, Vec.nil _ _ _ _⟩, ⟨.inl rfl, .inl rfl, .inl rfl⟩, ((Moved.start HD.out).alloc _).alloc _⟩)
  refine (one_any D _ 2 (by obtain ⟨_, _, _, _, _, _, _, _, m⟩ := K.out; exact m.deck) (by omega) (by omega)).mono ?_
  rintro e v0 ⟨u, rfl, mv⟩
  have K0 := Lib.hid (K.out.moved zD mv)
  clear K mv
  go_upto_if 5 with fail
  go_cut [] (fun wc => RMid D w wc)
  case first =>
    obtain ⟨vt, vn, vs, r, hz, hy, hr, hd, hm⟩ := K0.out
    have HZ := Lib.hid hz; have HY := Lib.hid hy; have HR := Lib.hid hr; have HDd := Lib.hid hd; have HM := Lib.hid hm
    obtain ⟨c0, c1, c2⟩ := cells3 hy; obtain ⟨f0, f1, f2⟩ := free3 hy
    have q := lt_of_blk hy
    clear hz hy hr hd hm
    cases u
    · go_wp2_with fail
      go_meet
      exact K0.out
    · go_wp2_with fail
      go_meet
      exact rmid_t zD HZ.out HY.out HR.out HDd.out HM.out
  case rest =>
    have K1 := Lib.hid hcut; clear hcut K0
    go_wp2_with fail
    refine (one_any D _ 2 (by obtain ⟨_, _, _, _, _, _, _, _, m⟩ := K1.out; exact m.deck) (by omega) (by omega)).mono ?_
    rintro e v1 ⟨u, rfl, mv⟩
    have K2 := Lib.hid (K1.out.moved zD mv)
    clear K1 mv
    go_upto_if 9 with fail
    go_cut [] (fun wc => RMid D w wc)
    case first =>
      obtain ⟨vt, vn, vs, r, hz, hy, hr, hd, hm⟩ := K2.out
      have HZ := Lib.hid hz; have HY := Lib.hid hy; have HR := Lib.hid hr; have HDd := Lib.hid hd; have HM := Lib.hid hm
      obtain ⟨c0, c1, c2⟩ := cells3 hy; obtain ⟨f0, f1, f2⟩ := free3 hy
      have q := lt_of_blk hy
      clear hz hy hr hd hm
      cases u
      · go_wp2_with fail
        go_meet
        exact K2.out
      · go_wp2_with fail
        go_meet
        exact rmid_n zD HZ.out HY.out HR.out HDd.out HM.out
    case rest =>
      have K3 := Lib.hid hcut; clear hcut K2
      go_wp2_with fail
      refine (one_any D _ 2 (by obtain ⟨_, _, _, _, _, _, _, _, m⟩ := K3.out; exact m.deck) (by omega) (by omega)).mono ?_
      rintro e v2 ⟨u, rfl, mv⟩
      have K4 := Lib.hid (K3.out.moved zD mv)
      clear K3 mv
      go_upto_if 15 with fail
      go_cut [] (fun wc => RMid D w wc)
      case first =>
        obtain ⟨vt, vn, vs, r, hz, hy, hr, hd, hm⟩ := K4.out
        have HZ := Lib.hid hz; have HY := Lib.hid hy; have HR := Lib.hid hr; have HDd := Lib.hid hd; have HM := Lib.hid hm
        obtain ⟨c0, c1, c2⟩ := cells3 hy; obtain ⟨f0, f1, f2⟩ := free3 hy
        have q := lt_of_blk hy
        clear hz hy hr hd hm
        cases u
        · go_wp2_with fail
          go_meet
          exact K4.out
        · go_wp2_with fail
          go_meet
          exact rmid_s zD HZ.out HY.out HR.out HDd.out HM.out
      case rest =>
        obtain ⟨vt, vn, vs, r, hz, hy, hr, hd, hm⟩ := hcut
        obtain ⟨at', ct, rfl⟩ := hr.1.slice
        obtain ⟨an, cn, rfl⟩ := hr.2.1.slice
        obtain ⟨as', cs, rfl⟩ := hr.2.2.slice
        have HZ := Lib.hid hz; have HY := Lib.hid hy; have HR := Lib.hid hr; have HDd := Lib.hid hd; have HM := Lib.hid hm
        obtain ⟨c0, c1, c2⟩ := cells3 hy; obtain ⟨f0, f1, f2⟩ := free3 hy
        obtain ⟨d0, d1, d2⟩ := cells3 hz; obtain ⟨g0, g1, g2⟩ := free3 hz
        have q := lt_of_blk hy; have q' := lt_of_blk hz
        clear hz hy hr hd hm K4
        go_wp2_with fail
        have hz := blk_set (i := 2) (v := .slice as' r.streets.length cs) (blk_set (i := 1) (v := .slice an r.nicks.length cn) (blk_set (i := 0) (v := .slice at' r.titles.length ct) HZ.out))
        have hm := ((HM.out.set (a := ⟨w.heap.size, 0, none⟩) (Nat.le_refl _) (.slice at' r.titles.length ct)).set (a := ⟨w.heap.size, 1, none⟩) (Nat.le_refl _) (.slice an r.nicks.length cn)).set (a := ⟨w.heap.size, 2, none⟩) (Nat.le_refl _) (.slice as' r.streets.length cs)
        have hr := HR.out.set3 (a := ⟨w.heap.size, 0, none⟩) (b := ⟨w.heap.size, 1, none⟩) (c := ⟨w.heap.size, 2, none⟩) (fun b h => by simp at h ⊢; omega) (fun b h => by simp at h ⊢; omega) (fun b h => by simp at h ⊢; omega) (.slice at' r.titles.length ct) (.slice an r.nicks.length cn) (.slice as' r.streets.length cs)
        exact bodyPost_row1 rfl rfl hz Tryz.underlying31 rfl (by kernel_rfl) ⟨_, _, _, r, rfl, hr.weaken fun b h => by have h' : w.heap.size + 1 < b := h; show w.heap.size ≤ b; omega, HDd.out, hm⟩
end Go.Proofs.YtfgoiojmbphmnaaGreatDoor
end
section
/- recordlinkmake: Dress: a folded text in another dress. -/
set_option linter.unusedSimpArgs false
set_option linter.unusedVariables false
set_option maxRecDepth 100000
namespace Go.Proofs.YtfgoiojmbphmnaaGreatDoor
open Go.RowKit
attribute [local go_sem] toList_mk mk_size str_append
def DressPost (D : Nat) (l : List UInt8) (w : World) (e : Ending) (w' : World) : Prop := ∃ o : List UInt8, e = .returned (strV o) ∧ DressOf l o ∧ Moved D w w'
/-- texts that have just been laid into a new block, to pick from -/
theorem pick_new (D : Nat) (w w0 : World) (L : List (List UInt8)) (n : Nat) (hn : n = L.length) (h1 : 1 ≤ n) (h2 : n ≤ 1000) (m : Moved D w0 w) :
    Calls Tryz.prog 14 #[.pointer (some ⟨D, 0, none⟩), .slice (some ⟨w.heap.size, 0, none⟩) n n] (w.alloc (.cells (L.flatMap encS).toArray 9)) (PickPost D L w0) := by
  have hD := m.deck.lt
  have m2 := m.alloc (.cells (L.flatMap encS).toArray 9)
  exact (pick_any D _ _ L m2.deck (blockVec (k := 1) (enc := encS) (L := L) (S := fun b => b ≠ D) (A := w.heap.size) (fun _ => rfl) (blk_new rfl) (by omega) n hn) (by omega) (by omega)).mono fun _ _ ⟨l, he, hl, hm⟩ => ⟨l, he, hl, m2.trans hm⟩
theorem dressB_len {x : List UInt8} (h : x ∈ dressB) : x.length ≤ 2 := by
  simp [dressB] at h
  rcases h with rfl | rfl | rfl | rfl | rfl | rfl <;> simp
theorem dressC_len {x : List UInt8} (h : x ∈ dressC) : x.length ≤ 2 := by
  simp [dressC] at h
  rcases h with rfl | rfl | rfl <;> simp
/-- how far a text has been dressed -/
def DressMid (D : Nat) (w : World) (l : List UInt8) (k : Nat) (ol : List UInt8) (wr : World) : Prop := DressTo (l.take k) ol ∧ Moved D w wr
set_option maxHeartbeats 4000000 in
theorem dress_any (D : Nat) (s : ByteArray) (w : World) (h : DeckAt w D) (hs : ∀ b ∈ s.data.toList, okB b = true) (hn : s.size ≤ 1000) :
    Calls Tryz.prog 23 #[.pointer (some ⟨D, 0, none⟩), .string s] w (DressPost D s.data.toList w) := by
  have hl : s.data.toList.length = s.size := by simp
  have HL := Lib.hid hl; clear hl
  have HS := Lib.hid hs; clear hs
  have M0 := Lib.hid (Moved.start h); clear h
  go_enter Tryz.func23, Tryz.ntmps23
  go_wp2_with fail
  refine (pick_new D _ w dressA 4 rfl (by omega) (by omega) M0.out).mono ?_
  rintro e w1 ⟨o, rfl, ho, mv⟩
  have K0 := Lib.hid (show DressMid D w s.data.toList 0 o w1 from ⟨DressTo.start ho, mv⟩)
  clear ho mv
  go_wp2_with fail
  go_loopw [5, 6] (fun v i wr => ∃ (k : Nat) (ol : List UInt8), v = strV ol ∧ i = .int .i64 k ∧ k ≤ s.size ∧ DressMid D w s.data.toList k ol wr) (fun _ i _ => s.size - (intOf i).toNat)
  case atStart => exact ⟨0, o, rfl, rfl, by omega, K0.out⟩
  case round =>
    obtain ⟨k, ol, rfl, rfl, hk, hm⟩ := hrel
    have HT := Lib.hid hm.1; have M1 := Lib.hid hm.2
    have hol : ol.length ≤ 2001 := by have := hm.1.len; have := List.length_take_le k s.data.toList; omega
    clear hm K0
    by_cases hlt : k < s.size
    · have hq : decide ((k : Int) < s.size) = true := by simp; omega
      have ht := Lib.hid (take_snoc' s k hlt)
      have hok := Lib.hid (HS.out s[k] (by rw [show s[k] = s.data.toList[k]'(by rw [HL.out]; exact hlt) from rfl]; exact List.getElem_mem _))
      have hb := s[k].toNat_lt
      by_cases hsp : s[k] = 32
      · have e1 : ((s[k].toNat : Int) == 32) = true := by rw [hsp]; rfl
        have HSp := Lib.hid hsp; clear hsp
        go_wp2_with fail
        refine (pick_new D _ w dressB 6 rfl (by omega) (by omega) M1.out).mono ?_
        rintro e w2 ⟨x, rfl, hx, mv⟩
        have hxl := dressB_len hx
        have K1 := Lib.hid (show DressMid D w s.data.toList (k + 1) (ol ++ x) w2 from ⟨by rw [ht.out, HSp.out]; exact HT.out.space hx, mv⟩)
        clear hx mv e1
        go_wp2_with fail
        go_roundw
        case rel => exact ⟨k + 1, ol ++ x, rfl, by go_num, by omega, K1.out⟩
        case measure => simp [intOf]; omega
      · have e1 : ((s[k].toNat : Int) == 32) = false := by
          simp only [beq_eq_false_iff_ne, ne_eq]; intro e; apply hsp; rw [← UInt8.toNat_inj]; simp; omega
        clear hsp
        go_upto_block 2 with (fail)
        go_cut [5, 7] (fun s5 s7 wx => ∃ x : UInt8, s5 = strV ol ∧ s7 = .int .u8 x.toNat ∧ okByte x = true ∧ plainB x = [s[k]] ∧ Moved D w wx)
        case first =>
          cases hlo : isLow s[k]
          · have hc := hlo
            rw [low_iff, decide_eq_false_iff_not] at hc
            have hc' : (97 ≤ (s[k].toNat : Int) ∧ 122 < (s[k].toNat : Int)) ∨ (s[k].toNat : Int) < 97 := by omega
            clear hc hlo
            rcases hc' with ⟨g1, g2⟩ | g1
            all_goals
              go_wp2_with fail
              go_meet
              exact ⟨s[k], rfl, rfl, (plain_self hok.out).1, (plain_self hok.out).2, M1.out⟩
          · have hup := Lib.hid (plain_up hlo)
            have hc := hlo
            rw [low_iff, decide_eq_true_iff] at hc
            obtain ⟨g1, g2⟩ := hc
            have e2 : ((s[k] - 32).toNat : Int) = (s[k].toNat : Int) - 32 := by
              rw [UInt8.toNat_sub_of_le _ _ (by rw [UInt8.le_iff_toNat_le]; show 32 ≤ _; omega)]
              show ((s[k].toNat - 32 : Nat) : Int) = _
              omega
            have HE := Lib.hid e2; clear hlo e2
            go_wp2_with fail
            refine (one_any D _ 3 M1.out.deck (by omega) (by omega)).mono ?_
            rintro e w2 ⟨u, rfl, mv⟩
            have M2 := Lib.hid (M1.out.trans mv); clear mv
            cases u
            · go_wp2_with fail
              go_meet
              exact ⟨s[k], rfl, rfl, (plain_self hok.out).1, (plain_self hok.out).2, M2.out⟩
            · go_wp2_with fail
              go_meet
              exact ⟨s[k] - 32, rfl, by rw [HE.out], hup.out.1, hup.out.2, M2.out⟩
        case rest =>
          obtain ⟨x, rfl, rfl, hx1, hx2, m3⟩ := hcut
          have HX1 := Lib.hid hx1; have HX2 := Lib.hid hx2; have M3 := Lib.hid m3
          clear hx1 hx2 m3
          have hcv := one_byte wc x
          go_wp2_with fail
          refine (one_any D _ 20 (M3.out.alloc _).deck (by omega) (by omega)).mono ?_
          rintro e w2 ⟨u, rfl, mv⟩
          have M4 := Lib.hid ((M3.out.alloc _).trans mv)
          have K1 := Lib.hid (show DressMid D w s.data.toList (k + 1) (ol ++ [x]) w2 from ⟨by rw [ht.out]; exact HT.out.byte HX1.out HX2.out, M4.out⟩)
          have K2 := Lib.hid (show DressMid D w s.data.toList (k + 1) (ol ++ [x] ++ [39]) w2 from ⟨by rw [ht.out]; exact HT.out.mark HX1.out HX2.out, M4.out⟩)
          clear mv hcv
          cases u
          · go_wp2_with fail
            go_roundw
            case rel => exact ⟨k + 1, ol ++ [x], rfl, by go_num, by omega, K1.out⟩
            case measure => simp [intOf]; omega
          · by_cases h2 : k + 1 < s.size
            · have e2 : decide ((k : Int) + 1 < s.size) = true := by simp; omega
              by_cases hs2 : s[k + 1] = 32
              · have e3 : ((s[k + 1].toNat : Int) != 32) = false := by rw [hs2]; rfl
                clear hs2
                go_wp2_with fail
                go_roundw
                case rel => exact ⟨k + 1, ol ++ [x], rfl, by go_num, by omega, K1.out⟩
                case measure => simp [intOf]; omega
              · have e3 : ((s[k + 1].toNat : Int) != 32) = true := by
                  simp only [bne_iff_ne, ne_eq]; intro e; apply hs2; rw [← UInt8.toNat_inj]; simp; omega
                clear hs2
                go_wp2_with fail
                go_roundw
                case rel => exact ⟨k + 1, ol ++ [x] ++ [39], by simp, by go_num, by omega, K2.out⟩
                case measure => simp [intOf]; omega
            · have e2 : decide ((k : Int) + 1 < s.size) = false := by simp; omega
              go_wp2_with fail
              go_roundw
              case rel => exact ⟨k + 1, ol ++ [x], rfl, by go_num, by omega, K1.out⟩
              case measure => simp [intOf]; omega
    · have hq : decide ((k : Int) < s.size) = false := by simp; omega
      rw [List.take_of_length_le (by rw [HL.out]; omega)] at HT
      go_wp2_with fail
      refine (pick_new D _ w dressC 4 rfl (by omega) (by omega) M1.out).mono ?_
      rintro e w2 ⟨x, rfl, hx, mv⟩
      have hxl := dressC_len hx
      have M2 := Lib.hid mv; have HO := Lib.hid (HT.out.done hx)
      clear mv hx
      go_wp2_with fail
      go_ret
      exact ⟨ol ++ x, rfl, HO.out, M2.out⟩
end Go.Proofs.YtfgoiojmbphmnaaGreatDoor
end
section
/- recordlinkmake: Raw, Text: some text of bounded length. -/
set_option linter.unusedSimpArgs false
set_option linter.unusedVariables false
set_option maxRecDepth 100000
namespace Go.Proofs.YtfgoiojmbphmnaaGreatDoor
open Go.RowKit
attribute [local go_sem] toList_mk mk_size str_append
def codesD : List (List UInt8) := [[83, 87, 49, 32, 49, 65, 65], [56, 48, 48, 49], [56, 48, 32, 48, 50], [97, 45, 49]]
def addrsD : List (List UInt8) := [[49, 50, 32, 77, 97, 105, 110, 32, 83, 116, 46], [77, 97, 105, 110, 32, 83, 116, 32, 49, 50], [80, 97, 114, 107, 32, 82, 100, 32, 51, 98], [77, 97, 105, 110, 32, 83, 116, 114, 101, 101, 116], [48, 48, 55, 32, 80, 97, 114, 107, 32, 114, 100]]
def peopleD : List (List UInt8) := [[114, 111, 98, 101, 114, 116, 32, 115, 109, 105, 116, 104], [98, 111, 98, 32, 115, 109, 105, 116, 104], [114, 117, 112, 101, 114, 116], [97, 110, 110, 97, 32, 109, 105, 108, 108, 101, 114], [97, 110, 110], [111, 110, 101, 105, 108, 108], [109, 97, 114, 105, 97, 32, 118, 97, 110, 32, 115, 109, 105, 116, 104], [112, 101, 116, 101, 114]]
theorem pick_le {D N : Nat} {L : List (List UInt8)} {w w' : World} {e : Ending} (h : PickPost D L w e w') (hL : (L.all fun t => decide (t.length ≤ N)) = true) : SomeText D N w e w' := by
  obtain ⟨l, he, hl, hm⟩ := h
  exact ⟨l, he, by simpa using List.all_eq_true.1 hL l hl, hm⟩
theorem people_ok {x : List UInt8} (h : x ∈ peopleD) : (∀ b ∈ x, okB b = true) ∧ x.length ≤ 15 := by
  have : (peopleD.all fun t => t.all okB && decide (t.length ≤ 15)) = true := by decide
  have := List.all_eq_true.1 this x h
  rw [Bool.and_eq_true, List.all_eq_true, decide_eq_true_iff] at this
  exact this
theorem written_len (y m d f : Int) : (writtenL y m d f).length = 10 := by
  unfold writtenL
  split
  · simp [dg_len]
  · split <;> simp [dg_len]
set_option maxHeartbeats 4000000 in
theorem raw_deal (D : Nat) (k : Int) (w : World) (h : DeckAt w D) :
    Calls Tryz.prog 15 #[.pointer (some ⟨D, 0, none⟩), .int .i64 k] w (SomeText D 64 w) := by
  have M0 := Lib.hid (Moved.start h); clear h
  by_cases h2 : k = 2
  · subst h2
    go_enter Tryz.func15, Tryz.ntmps15
    go_wp2_with fail
    refine (one_any D _ 8 M0.out.deck (by omega) (by omega)).mono ?_
    rintro e w1 ⟨u, rfl, mv⟩
    have M1 := Lib.hid (M0.out.trans mv); clear mv
    cases u
    · go_wp2_with fail
      refine (next_any D _ 2 M1.out.deck (by omega) (by omega)).mono ?_
      rintro e w2 ⟨y, rfl, y0, y1, mv⟩
      have M2 := Lib.hid (M1.out.trans mv); clear mv
      go_wp2_with fail
      refine (next_any D _ 3 M2.out.deck (by omega) (by omega)).mono ?_
      rintro e w3 ⟨m, rfl, m0, m1, mv⟩
      have M3 := Lib.hid (M2.out.trans mv); clear mv
      go_wp2_with fail
      refine (next_any D _ 3 M3.out.deck (by omega) (by omega)).mono ?_
      rintro e w4 ⟨d, rfl, d0, d1, mv⟩
      have M4 := Lib.hid (M3.out.trans mv); clear mv
      go_wp2_with fail
      refine (next_any D _ 3 M4.out.deck (by omega) (by omega)).mono ?_
      rintro e w5 ⟨f, rfl, f0, f1, mv⟩
      have M5 := Lib.hid (M4.out.trans mv); clear mv
      go_wp2_with fail
      refine (written_any (1980 + y) (1 + m) (1 + d) f _ (by omega) (by omega)).mono ?_
      rintro e w6 ⟨rfl, hb⟩
      have M6 := Lib.hid (M5.out.below hb); clear hb
      go_wp2_with fail
      go_ret
      exact ⟨_, rfl, by rw [written_len]; omega, M6.out⟩
    · go_wp2_with fail
      go_ret
      exact ⟨[], rfl, by simp, M1.out⟩
  · have e2 : (k == 2) = false := by simpa using h2
    by_cases h3 : k = 3
    · subst h3
      clear h2 e2
      go_enter Tryz.func15, Tryz.ntmps15
      go_wp2_with fail
      refine (one_any D _ 8 M0.out.deck (by omega) (by omega)).mono ?_
      rintro e w1 ⟨u, rfl, mv⟩
      have M1 := Lib.hid (M0.out.trans mv); clear mv
      cases u
      · go_wp2_with fail
        refine (pick_new D _ w codesD 4 rfl (by omega) (by omega) M1.out).mono ?_
        intro e w2 hp
        obtain ⟨x, rfl, hx, mv⟩ := pick_le (N := 64) hp (by decide)
        have HX := Lib.hid hx; have M2 := Lib.hid mv
        clear hx mv hp
        go_wp2_with fail
        go_ret
        exact ⟨x, rfl, HX.out, M2.out⟩
      · go_wp2_with fail
        go_ret
        exact ⟨[], rfl, by simp, M1.out⟩
    · have e3 : (k == 3) = false := by simpa using h3
      by_cases h4 : k = 4
      · subst h4
        clear h2 e2 h3 e3
        go_enter Tryz.func15, Tryz.ntmps15
        go_wp2_with fail
        refine (one_any D _ 8 M0.out.deck (by omega) (by omega)).mono ?_
        rintro e w1 ⟨u, rfl, mv⟩
        have M1 := Lib.hid (M0.out.trans mv); clear mv
        cases u
        · go_wp2_with fail
          refine (pick_new D _ w addrsD 5 rfl (by omega) (by omega) M1.out).mono ?_
          intro e w2 hp
          obtain ⟨x, rfl, hx, mv⟩ := pick_le (N := 64) hp (by decide)
          have HX := Lib.hid hx; have M2 := Lib.hid mv
          clear hx mv hp
          go_wp2_with fail
          go_ret
          exact ⟨x, rfl, HX.out, M2.out⟩
        · go_wp2_with fail
          go_ret
          exact ⟨[], rfl, by simp, M1.out⟩
      · have e4 : (k == 4) = false := by simpa using h4
        clear h2 h3 h4
        go_enter Tryz.func15, Tryz.ntmps15
        go_wp2_with fail
        refine (one_any D _ 8 M0.out.deck (by omega) (by omega)).mono ?_
        rintro e w1 ⟨u, rfl, mv⟩
        have M1 := Lib.hid (M0.out.trans mv); clear mv
        cases u
        · go_wp2_with fail
          refine (pick_new D _ w peopleD 8 rfl (by omega) (by omega) M1.out).mono ?_
          rintro e w2 ⟨x, rfl, hx, mv⟩
          obtain ⟨p1, p2⟩ := people_ok hx
          have P1 := Lib.hid p1; have M2 := Lib.hid mv
          clear hx mv p1
          go_wp2_with fail
          refine (dress_any D ⟨x.toArray⟩ _ M2.out.deck (by simpa using P1.out) (by rw [mk_size]; omega)).mono ?_
          rintro e w3 ⟨o, rfl, ho, mv⟩
          have M3 := Lib.hid (M2.out.trans mv)
          have HO := Lib.hid (show o.length ≤ 64 by have := ho.len; simp at this; omega)
          clear mv ho
          go_wp2_with fail
          go_ret
          exact ⟨o, rfl, HO.out, M3.out⟩
        · go_wp2_with fail
          go_ret
          exact ⟨[], rfl, by simp, M1.out⟩
end Go.Proofs.YtfgoiojmbphmnaaGreatDoor
end
section
/- recordlinkmake: Text: some text of bounded length. -/
set_option linter.unusedSimpArgs false
set_option linter.unusedVariables false
set_option maxRecDepth 100000
namespace Go.Proofs.YtfgoiojmbphmnaaGreatDoor
open Go.RowKit
attribute [local go_sem] toList_mk mk_size str_append
def partA : List (List UInt8) := [[], [], [32], [45], [39]]
def partC : List (List UInt8) := [[32], [32], [46], [44, 32]]
def partB (a b : List UInt8) : List (List UInt8) := [a, b, [49, 50], [48, 48, 55], [51, 98], [77, 195, 188, 108, 108, 101, 114], [195, 134, 103, 105, 114], [195, 159], [79, 39, 78, 101, 105, 108, 108], [195, 151]]
def partD : List (List UInt8) := [[31], [127], [194, 160], [255], [10]]
theorem pick_partB {D : Nat} {a b : List UInt8} {w w' : World} {e : Ending} (h : PickPost D (partB a b) w e w') (ha : a.length ≤ 16) (hb : b.length ≤ 16) : SomeText D 16 w e w' := by
  obtain ⟨l, he, hl, hm⟩ := h
  refine ⟨l, he, ?_, hm⟩
  simp [partB] at hl
  rcases hl with rfl | rfl | rfl | rfl | rfl | rfl | rfl | rfl | rfl | rfl <;> simp_all
set_option maxHeartbeats 4000000 in
theorem text_deal (D : Nat) (w : World) (h : DeckAt w D) :
    Calls Tryz.prog 16 #[.pointer (some ⟨D, 0, none⟩)] w (SomeText D 200 w) := by
  have M0 := Lib.hid (Moved.start h); clear h
  go_enter Tryz.func16, Tryz.ntmps16
  go_wp2_with fail
  refine (next_any D _ 5 M0.out.deck (by omega) (by omega)).mono ?_
  rintro e w1 ⟨r, rfl, r0, r1, mv⟩
  obtain ⟨r, rfl⟩ := Int.eq_ofNat_of_zero_le r0
  have M1 := Lib.hid (M0.out.trans mv); clear mv
  go_wp2_with fail
  go_loopw [3, 4] (fun s i wr => ∃ (l : List UInt8) (k : Nat), s = strV l ∧ i = .int .i64 k ∧ l.length + 20 * k ≤ 80 ∧ Moved D w wr) (fun _ i _ => (intOf i).toNat)
  case atStart => exact ⟨[], r, rfl, rfl, by simp; omega, M1.out⟩
  case round =>
    obtain ⟨l, k, rfl, rfl, hlk, mv⟩ := hrel
    have MW := Lib.hid mv; clear mv M1
    by_cases hk : 0 < k
    · have hq : decide ((0 : Int) < k) = true := by simp; omega
      go_wp2_with fail
      refine (pick_new D _ w partA 5 rfl (by omega) (by omega) MW.out).mono ?_
      intro e w2 hp
      obtain ⟨x, rfl, hx, mv⟩ := pick_le (N := 1) hp (by decide)
      have M2 := Lib.hid mv; clear mv hp
      go_wp2_with fail
      refine (token_deal D _ M2.out.deck).mono ?_
      rintro e w3 ⟨a, rfl, ha, mv⟩
      have M3 := Lib.hid (M2.out.trans mv); clear mv
      go_wp2_with fail
      refine (token_deal D _ M3.out.deck).mono ?_
      rintro e w4 ⟨b, rfl, hb, mv⟩
      have M4 := Lib.hid (M3.out.trans mv); clear mv
      go_wp2_with fail
      refine (pick_new D _ w (partB a b) 10 rfl (by omega) (by omega) M4.out).mono ?_
      intro e w5 hp
      obtain ⟨y, rfl, hy, mv⟩ := pick_partB hp ha hb
      have M5 := Lib.hid mv; clear mv hp
      go_wp2_with fail
      refine (pick_new D _ w partC 4 rfl (by omega) (by omega) M5.out).mono ?_
      intro e w6 hp
      obtain ⟨z, rfl, hz, mv⟩ := pick_le (N := 2) hp (by decide)
      have M6 := Lib.hid mv; clear mv hp
      go_wp2_with fail
      go_roundw
      case rel => exact ⟨l ++ (x ++ y ++ z), k - 1, by simp, by congr 1; omega, by simp; omega, M6.out⟩
      case measure => simp [intOf]; omega
    · have hq : decide ((0 : Int) < k) = false := by simp; omega
      go_wp2_with fail
      refine (next_any D _ 12 MW.out.deck (by omega) (by omega)).mono ?_
      rintro e w2 ⟨q, rfl, q0, q1, mv⟩
      have M2 := Lib.hid (MW.out.trans mv); clear mv
      by_cases h0 : q = 0
      · subst h0
        go_wp2_with fail
        go_ret
        exact ⟨l ++ [195], rfl, by simp; omega, M2.out⟩
      · have e0 : (q == 0) = false := by simpa using h0
        by_cases h1 : q = 1
        · subst h1
          clear h0 e0
          go_wp2_with fail
          refine (pick_new D _ w partD 5 rfl (by omega) (by omega) M2.out).mono ?_
          intro e w3 hp
          obtain ⟨x, rfl, hx, mv⟩ := pick_le (N := 2) hp (by decide)
          have M3 := Lib.hid mv; clear mv hp
          go_wp2_with fail
          go_ret
          exact ⟨l ++ x, rfl, by simp; omega, M3.out⟩
        · have e1 : (q == 1) = false := by simpa using h1
          by_cases h2 : q = 2
          · subst h2
            clear h0 h1 e0 e1
            go_wp2_with fail
            go_loopw [3] (fun s wr => ∃ l : List UInt8, s = strV l ∧ l.length ≤ 90 ∧ wr = w2) (fun s _ => 100 - (match s with | .string b => b.size | _ => 0))
            case atStart => exact ⟨l, rfl, by omega, rfl⟩
            case round =>
              obtain ⟨m, rfl, hm, rfl⟩ := hrel
              by_cases hl : m.length < 64
              · have hq : decide ((m.length : Int) < 64) = true := by simp; omega
                go_wp2_with fail
                go_roundw
                case rel => exact ⟨m ++ [97], rfl, by simp; omega, by trivial⟩
                case measure => simp [mk_size]; omega
              · have hq : decide ((m.length : Int) < 64) = false := by simp; omega
                go_wp2_with fail
                go_ret
                exact ⟨m, rfl, by omega, M2.out⟩
          · have e2 : (q == 2) = false := by simpa using h2
            clear h0 h1 h2
            go_wp2_with fail
            go_ret
            exact ⟨l, rfl, by omega, M2.out⟩
end Go.Proofs.YtfgoiojmbphmnaaGreatDoor
end
