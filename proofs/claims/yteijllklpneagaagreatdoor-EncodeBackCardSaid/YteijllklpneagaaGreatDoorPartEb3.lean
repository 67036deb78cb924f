/- Parts of one proof: GramD, RecPlain, EncPlain, MakeA, HeldK, SipA, AppendNil, OwnV, SipB, MakeQ, SipC, BitsA, CmpPlain. -/
import Derived.Test.YteijllklpneagaaGreatDoorPartEb2
import Derived.Lib.ItoaNum
import Derived.OrdersHeld
import Derived.Deep.RegionHeld
import Derived.Deep.AppendLies
import Derived.Deep.RegionLaw
import Derived.Lib.AppendStr
section
/- schema.Grams: what it returns, of every input. -/
set_option linter.unusedSimpArgs false
set_option linter.unusedVariables false
set_option maxRecDepth 100000
namespace Go.Proofs.YteijllklpneagaaGreatDoor
open Go.RowKit Cal
attribute [local go_sem] toList_mk mk_size bytes_append
set_option maxHeartbeats 400000 in
theorem kind4_any (s : ByteArray) (w : World) (hs : s.size ≤ 1000) :
    Calls Tryz.prog 230 #[.string s] w fun e w' => ∃ v, e = .returned v ∧ Vec w' Any1 1 encS v [61 :: s.data.toList] ∧ Below w.heap.size w w' := by
  have hs2 : (⟨#[61]⟩ : ByteArray) ++ s = ⟨(61 :: s.data.toList).toArray⟩ := by
    apply ByteArray.ext; simp
  go_enter Tryz.func230, Tryz.ntmps230
  go_wp2
  go_ret
  exact ⟨_, rfl, vec_block (L := [61 :: s.data.toList]) (blk_new rfl) 1 rfl, (Below.refl _ _).alloc (Nat.le_refl _) _⟩
/-- the grams of a value, and the error -/
def gramsN (s : SchemaL) (f : Int) (l : List UInt8) : List (List UInt8) × Int := if (findN s f).2 = 0 then (if normalB s f l = true then (gramsK (findN s f).1 l, 0) else ([], 7)) else ([], (findN s f).2)
def GramsIs (p : List (List UInt8) × Int) (w : World) (e : Ending) (w' : World) : Prop := ∃ v, e = .returned (.tuple #[v, .int .i64 p.2]) ∧ Vec w' Any1 1 encS v p.1 ∧ Below w.heap.size w w'
theorem own_small {p : List UInt8 × Int} {l : List UInt8} (h : isOwn p l = true) (hf : FormOk p) : l.length ≤ 64 ∧ p = (l, 0) := by
  obtain ⟨a, b⟩ := p
  unfold isOwn at h
  cases hb : (b == (0 : Int))
  · rw [hb] at h; cases h
  · rw [hb] at h
    simp only [cond_true, beq_iff_eq] at h hb
    subst h hb
    exact ⟨hf.1, rfl⟩
theorem join_ascii {M : List (List UInt8)} (h : ∀ t ∈ M, okT t) : ascii (joinL M) := fun b hb => okB_lt (join_ok M h b hb)
/-- what a value in normal form is like -/
theorem own_facts {k : Int} {r : RulesL} {l : List UInt8} (h : ownK k r l = true) (hk : k = 1 ∨ k = 2 ∨ k = 3 ∨ k = 4) : l.length ≤ 64 ∧ (k = 1 ∨ k = 4 → ascii l) ∧ (k = 2 → l.length = 8) := by
  unfold ownK at h
  rcases hk with rfl | rfl | rfl | rfl
  · obtain ⟨h1, h2⟩ := own_small (show isOwn (nameN r l) l = true from h) (nameN_form r l)
    obtain ⟨M, g1, g2, _⟩ := nameN_toks h2
    exact ⟨h1, fun _ => by rw [g2]; exact join_ascii g1, fun e => by omega⟩
  · have hr : readB l = true := h
    unfold readB at hr
    cases hd : decide (l.length = 8)
    · rw [hd] at hr; cases hr
    · have : l.length = 8 := by simpa using hd
      exact ⟨by omega, fun e => by omega, fun _ => this⟩
  · obtain ⟨h1, h2⟩ := own_small (show isOwn (codeN l) l = true from h) (codeN_form l)
    exact ⟨h1, fun e => by omega, fun e => by omega⟩
  · obtain ⟨h1, h2⟩ := own_small (show isOwn (addrN r l) l = true from h) (addrN_form r l)
    obtain ⟨M, g1, g2, _⟩ := addrN_toks h2
    exact ⟨h1, fun _ => by rw [g2]; exact join_ascii g1, fun e => by omega⟩
set_option maxHeartbeats 8000000 in
theorem grams_s (S : Nat → Prop) (vf vt vn vs : Value) (s : SchemaL) (f : Int) (x : ByteArray) (w : World) (h : SchemaAt w S vf vt vn vs s) (hx : x.size ≤ 9223372036854775000) :
    Calls Tryz.prog 135 #[.agg #[vf, vt, vn, vs], .int .i64 f, .string x] w (GramsIs (gramsN s f x.data.toList) w) := by
  have HS := Lib.hid h.any
  have HL := Lib.hid (Lib.toList_data x)
  clear h
  have K := find_s Any1 vf vt vn vs s f (w.alloc (.cells #[vf, vt, vn, vs] 33)) (HS.out.below ((Below.refl _ _).alloc (Nat.le_refl _) _))
  have hkk := findN_kind (s := s) (f := f)
  have hval : gramsN s f x.data.toList = if (findN s f).2 = 0 then (if normalB s f x.data.toList = true then (gramsK (findN s f).1 x.data.toList, 0) else ([], 7)) else ([], (findN s f).2) := rfl
  have hown : (findN s f).2 = 0 → x.data.toList ≠ [] → normalB s f x.data.toList = ownK (findN s f).1 s.rules x.data.toList := fun h0 h1 => by unfold normalB; rw [if_pos h0, if_neg h1]
  obtain ⟨⟨kd, er⟩, hp⟩ : ∃ p, findN s f = p := ⟨_, rfl⟩
  rw [hp] at K hkk hval hown
  dsimp only at hkk hval hown
  change Calls _ _ _ _ fun e w' => e = .returned (.tuple #[.agg (kindAt kd), .int .i64 er]) ∧ _ at K
  have HK := Lib.hid K
  have HVal := Lib.hid hval; have HOwn := Lib.hid hown
  obtain ⟨ko, ks⟩ := kindAt_one kd
  have KO := Lib.hid ko; have KS := Lib.hid ks
  clear K hp hval ko ks hown
  by_cases he : er = 0
  · subst he
    have hkd := hkk rfl
    clear hkk
    cases hno : normalB s f x.data.toList
    · have HE := Lib.hid (show gramsN s f x.data.toList = ([], 7) by rw [HVal.out, if_pos rfl, hno, if_neg (by simp)])
      have HN := Lib.hid hno
      clear hno hkd
      rw [HE.out]
      go_enter Tryz.func135, Tryz.ntmps135
      go_wp2_with fail
      refine HK.out.mono ?_
      rintro e w1 ⟨rfl, hb1⟩
      have HB1 := Lib.hid (((Below.refl w.heap.size w).alloc (Nat.le_refl _) (.cells #[vf, vt, vn, vs] 33)).trans (hb1.mono (by simp)))
      have HX1 := Lib.hid (blk_below (b := w.heap.size) (o := .cells #[vf, vt, vn, vs] 33 (0, 0)) hb1 (by simp) (blk_new rfl))
      clear hb1 HK
      have z0 := lt_of_blk HX1.out
      obtain ⟨p0, p1, p2, p3⟩ := cells4 HX1.out
      go_wp2_with (refine wpList_store_row rfl 161 (.tmp 8) (.tmp 14) rfl w1.heap.size (kindAt kd) rfl rfl 161 kind0 (heap_alloc_new w1 _) (by rw [KS.out]; kernel_rfl) (by rw [KS.out]; rfl) KO.out ?_; rw [World.setRow_alloc_new])
      have HB2 := Lib.hid (HB1.out.alloc HB1.out.size (.cells (kindAt kd) 161))
      refine (normal_s Any1 vf vt vn vs s f x _ (HS.out.below HB2.out) hx).mono ?_
      rw [HN.out]
      rintro e w3 ⟨rfl, hb3⟩
      have HB3 := Lib.hid (HB2.out.trans (hb3.mono HB2.out.size))
      clear hb3 p0 p1 p2 p3
      go_wp2_with fail
      go_ret2
      exact ⟨_, rfl, Vec.nil _ _ _ _, HB3.out⟩
    · by_cases hx0 : x.data.toList = []
      · have e1 : x.toList = [] := by rw [HL.out, hx0]
        have HE := Lib.hid (show gramsN s f x.data.toList = ([], 0) by rw [HVal.out, if_pos rfl, hno, if_pos rfl]; unfold gramsK; rw [if_pos hx0])
        have HN := Lib.hid hno
        clear hno hkd hx0
        rw [HE.out]
        go_enter Tryz.func135, Tryz.ntmps135
        go_wp2_with fail
        refine HK.out.mono ?_
        rintro e w1 ⟨rfl, hb1⟩
        have HB1 := Lib.hid (((Below.refl w.heap.size w).alloc (Nat.le_refl _) (.cells #[vf, vt, vn, vs] 33)).trans (hb1.mono (by simp)))
        have HX1 := Lib.hid (blk_below (b := w.heap.size) (o := .cells #[vf, vt, vn, vs] 33 (0, 0)) hb1 (by simp) (blk_new rfl))
        clear hb1 HK
        have z0 := lt_of_blk HX1.out
        obtain ⟨p0, p1, p2, p3⟩ := cells4 HX1.out
        go_wp2_with (refine wpList_store_row rfl 161 (.tmp 8) (.tmp 14) rfl w1.heap.size (kindAt kd) rfl rfl 161 kind0 (heap_alloc_new w1 _) (by rw [KS.out]; kernel_rfl) (by rw [KS.out]; rfl) KO.out ?_; rw [World.setRow_alloc_new])
        have HB2 := Lib.hid (HB1.out.alloc HB1.out.size (.cells (kindAt kd) 161))
        refine (normal_s Any1 vf vt vn vs s f x _ (HS.out.below HB2.out) hx).mono ?_
        rw [HN.out]
        rintro e w3 ⟨rfl, hb3⟩
        have HB3 := Lib.hid (HB2.out.trans (hb3.mono HB2.out.size))
        clear hb3 p0 p1 p2 p3
        go_wp2_with fail
        go_ret2
        exact ⟨_, rfl, Vec.nil _ _ _ _, HB3.out⟩
      · have e1 : (x.toList == []) = false := by rw [HL.out]; simpa using hx0
        have e2 : x.toList.isEmpty = false := by rw [HL.out]; simpa using hx0
        have ho := HOwn.out rfl hx0
        rw [hno] at ho
        obtain ⟨g1, g2, g3⟩ := own_facts ho.symm hkd
        have hl : x.data.toList.length = x.size := by simp
        rw [hl] at g1 g3
        have HG2 := Lib.hid g2
        have HE := Lib.hid (show gramsN s f x.data.toList = (gramsK kd x.data.toList, 0) by rw [HVal.out, if_pos rfl, hno, if_pos rfl])
        have HGK := Lib.hid (show gramsK kd x.data.toList = if kd = 2 then posL 0 x.data.toList else if kd = 3 then [61 :: x.data.toList] else gramsL x.data.toList by unfold gramsK; rw [if_neg hx0])
        have HN := Lib.hid hno
        clear hno hx0 ho hl g2
        rw [HE.out, HGK.out]
        rcases hkd with rfl | rfl | rfl | rfl
        · rw [if_neg (by omega), if_neg (by omega)]
          (first | have HAs := Lib.hid (HG2.out (by omega)) | skip)
          clear HG2 HE HGK HOwn HVal
          go_enter Tryz.func135, Tryz.ntmps135
          go_wp2_with fail
          refine HK.out.mono ?_
          rintro e w1 ⟨rfl, hb1⟩
          have HB1 := Lib.hid (((Below.refl w.heap.size w).alloc (Nat.le_refl _) (.cells #[vf, vt, vn, vs] 33)).trans (hb1.mono (by simp)))
          have HX1 := Lib.hid (blk_below (b := w.heap.size) (o := .cells #[vf, vt, vn, vs] 33 (0, 0)) hb1 (by simp) (blk_new rfl))
          clear hb1 HK
          have z0 := lt_of_blk HX1.out
          obtain ⟨p0, p1, p2, p3⟩ := cells4 HX1.out
          go_wp2_with (refine wpList_store_row rfl 161 (.tmp 8) (.tmp 14) rfl w1.heap.size (kindAt 1) rfl rfl 161 kind0 (heap_alloc_new w1 _) (by rw [KS.out]; kernel_rfl) (by rw [KS.out]; rfl) KO.out ?_; rw [World.setRow_alloc_new])
          have HB2 := Lib.hid (HB1.out.alloc HB1.out.size (.cells (kindAt 1) 161))
          refine (normal_s Any1 vf vt vn vs s f x _ (HS.out.below HB2.out) hx).mono ?_
          rw [HN.out]
          rintro e w3 ⟨rfl, hb3⟩
          have HB3 := Lib.hid (HB2.out.trans (hb3.mono HB2.out.size))
          have HX3 := Lib.hid (blk_below (b := w1.heap.size) (o := .cells (kindAt 1) 161 (0, 0)) hb3 (by simp) (blk_new rfl))
          have cf : w3.cell? ⟨w1.heap.size, 3, none⟩ = some (fnV 221) := by rw [cell_of_row _ _ _ _ _ _ HX3.out]; rfl
          clear hb3 p0 p1 p2 p3
          go_wp2_with fail
          refine (ggrams_any x _ g1 HAs.out).mono ?_
          rintro e w4 ⟨v, rfl, ho⟩
          have HO := Lib.hid ho; clear ho
          go_wp2_with fail
          go_ret2
          exact ⟨v, rfl, HO.out.1, HB3.out.trans ((HO.out.2).mono HB3.out.size)⟩
        · rw [if_pos rfl]
          have g4 : x.size ≤ 26 := by have := g3 rfl; omega
          (first | have HAs := Lib.hid (HG2.out (by omega)) | skip)
          clear HG2 HE HGK HOwn HVal
          go_enter Tryz.func135, Tryz.ntmps135
          go_wp2_with fail
          refine HK.out.mono ?_
          rintro e w1 ⟨rfl, hb1⟩
          have HB1 := Lib.hid (((Below.refl w.heap.size w).alloc (Nat.le_refl _) (.cells #[vf, vt, vn, vs] 33)).trans (hb1.mono (by simp)))
          have HX1 := Lib.hid (blk_below (b := w.heap.size) (o := .cells #[vf, vt, vn, vs] 33 (0, 0)) hb1 (by simp) (blk_new rfl))
          clear hb1 HK
          have z0 := lt_of_blk HX1.out
          obtain ⟨p0, p1, p2, p3⟩ := cells4 HX1.out
          go_wp2_with (refine wpList_store_row rfl 161 (.tmp 8) (.tmp 14) rfl w1.heap.size (kindAt 2) rfl rfl 161 kind0 (heap_alloc_new w1 _) (by rw [KS.out]; kernel_rfl) (by rw [KS.out]; rfl) KO.out ?_; rw [World.setRow_alloc_new])
          have HB2 := Lib.hid (HB1.out.alloc HB1.out.size (.cells (kindAt 2) 161))
          refine (normal_s Any1 vf vt vn vs s f x _ (HS.out.below HB2.out) hx).mono ?_
          rw [HN.out]
          rintro e w3 ⟨rfl, hb3⟩
          have HB3 := Lib.hid (HB2.out.trans (hb3.mono HB2.out.size))
          have HX3 := Lib.hid (blk_below (b := w1.heap.size) (o := .cells (kindAt 2) 161 (0, 0)) hb3 (by simp) (blk_new rfl))
          have cf : w3.cell? ⟨w1.heap.size, 3, none⟩ = some (fnV 225) := by rw [cell_of_row _ _ _ _ _ _ HX3.out]; rfl
          clear hb3 p0 p1 p2 p3
          go_wp2_with fail
          refine (positional_any x _ (by omega)).mono ?_
          rintro e w4 ⟨v, rfl, ho⟩
          have HO := Lib.hid ho; clear ho
          go_wp2_with fail
          go_ret2
          exact ⟨v, rfl, Vec.owns (k := 1) (enc := encS) (fun _ => rfl) HO.out.1 (fun _ _ _ => trivial), HB3.out.trans ((HO.out.2).mono HB3.out.size)⟩
        · rw [if_neg (by omega), if_pos rfl]
          (first | have HAs := Lib.hid (HG2.out (by omega)) | skip)
          clear HG2 HE HGK HOwn HVal
          go_enter Tryz.func135, Tryz.ntmps135
          go_wp2_with fail
          refine HK.out.mono ?_
          rintro e w1 ⟨rfl, hb1⟩
          have HB1 := Lib.hid (((Below.refl w.heap.size w).alloc (Nat.le_refl _) (.cells #[vf, vt, vn, vs] 33)).trans (hb1.mono (by simp)))
          have HX1 := Lib.hid (blk_below (b := w.heap.size) (o := .cells #[vf, vt, vn, vs] 33 (0, 0)) hb1 (by simp) (blk_new rfl))
          clear hb1 HK
          have z0 := lt_of_blk HX1.out
          obtain ⟨p0, p1, p2, p3⟩ := cells4 HX1.out
          go_wp2_with (refine wpList_store_row rfl 161 (.tmp 8) (.tmp 14) rfl w1.heap.size (kindAt 3) rfl rfl 161 kind0 (heap_alloc_new w1 _) (by rw [KS.out]; kernel_rfl) (by rw [KS.out]; rfl) KO.out ?_; rw [World.setRow_alloc_new])
          have HB2 := Lib.hid (HB1.out.alloc HB1.out.size (.cells (kindAt 3) 161))
          refine (normal_s Any1 vf vt vn vs s f x _ (HS.out.below HB2.out) hx).mono ?_
          rw [HN.out]
          rintro e w3 ⟨rfl, hb3⟩
          have HB3 := Lib.hid (HB2.out.trans (hb3.mono HB2.out.size))
          have HX3 := Lib.hid (blk_below (b := w1.heap.size) (o := .cells (kindAt 3) 161 (0, 0)) hb3 (by simp) (blk_new rfl))
          have cf : w3.cell? ⟨w1.heap.size, 3, none⟩ = some (fnV 230) := by rw [cell_of_row _ _ _ _ _ _ HX3.out]; rfl
          clear hb3 p0 p1 p2 p3
          go_wp2_with fail
          refine (kind4_any x _ (by omega)).mono ?_
          rintro e w4 ⟨v, rfl, ho⟩
          have HO := Lib.hid ho; clear ho
          go_wp2_with fail
          go_ret2
          exact ⟨v, rfl, HO.out.1, HB3.out.trans ((HO.out.2).mono HB3.out.size)⟩
        · rw [if_neg (by omega), if_neg (by omega)]
          (first | have HAs := Lib.hid (HG2.out (by omega)) | skip)
          clear HG2 HE HGK HOwn HVal
          go_enter Tryz.func135, Tryz.ntmps135
          go_wp2_with fail
          refine HK.out.mono ?_
          rintro e w1 ⟨rfl, hb1⟩
          have HB1 := Lib.hid (((Below.refl w.heap.size w).alloc (Nat.le_refl _) (.cells #[vf, vt, vn, vs] 33)).trans (hb1.mono (by simp)))
          have HX1 := Lib.hid (blk_below (b := w.heap.size) (o := .cells #[vf, vt, vn, vs] 33 (0, 0)) hb1 (by simp) (blk_new rfl))
          clear hb1 HK
          have z0 := lt_of_blk HX1.out
          obtain ⟨p0, p1, p2, p3⟩ := cells4 HX1.out
          go_wp2_with (refine wpList_store_row rfl 161 (.tmp 8) (.tmp 14) rfl w1.heap.size (kindAt 4) rfl rfl 161 kind0 (heap_alloc_new w1 _) (by rw [KS.out]; kernel_rfl) (by rw [KS.out]; rfl) KO.out ?_; rw [World.setRow_alloc_new])
          have HB2 := Lib.hid (HB1.out.alloc HB1.out.size (.cells (kindAt 4) 161))
          refine (normal_s Any1 vf vt vn vs s f x _ (HS.out.below HB2.out) hx).mono ?_
          rw [HN.out]
          rintro e w3 ⟨rfl, hb3⟩
          have HB3 := Lib.hid (HB2.out.trans (hb3.mono HB2.out.size))
          have HX3 := Lib.hid (blk_below (b := w1.heap.size) (o := .cells (kindAt 4) 161 (0, 0)) hb3 (by simp) (blk_new rfl))
          have cf : w3.cell? ⟨w1.heap.size, 3, none⟩ = some (fnV 221) := by rw [cell_of_row _ _ _ _ _ _ HX3.out]; rfl
          clear hb3 p0 p1 p2 p3
          go_wp2_with fail
          refine (ggrams_any x _ g1 HAs.out).mono ?_
          rintro e w4 ⟨v, rfl, ho⟩
          have HO := Lib.hid ho; clear ho
          go_wp2_with fail
          go_ret2
          exact ⟨v, rfl, HO.out.1, HB3.out.trans ((HO.out.2).mono HB3.out.size)⟩
  · have hne : (er != 0) = true := by simpa using he
    have HE := Lib.hid (show gramsN s f x.data.toList = ([], er) by rw [HVal.out, if_neg he])
    clear he hkk
    rw [HE.out]
    go_enter Tryz.func135, Tryz.ntmps135
    go_wp2_with fail
    refine HK.out.mono ?_
    rintro e w1 ⟨rfl, hb1⟩
    have HB1 := Lib.hid (((Below.refl w.heap.size w).alloc (Nat.le_refl _) (.cells #[vf, vt, vn, vs] 33)).trans (hb1.mono (by simp)))
    clear hb1 HK
    go_wp2_with (refine wpList_store_row rfl 161 (.tmp 8) (.tmp 14) rfl w1.heap.size (kindAt kd) rfl rfl 161 kind0 (heap_alloc_new w1 _) (by rw [KS.out]; kernel_rfl) (by rw [KS.out]; rfl) KO.out ?_; rw [World.setRow_alloc_new])
    go_ret2
    exact ⟨_, rfl, Vec.nil _ _ _ _, HB1.out.alloc HB1.out.size _⟩
end Go.Proofs.YteijllklpneagaaGreatDoor
end
section
/- Plain: records: which are valid, how they are made. -/
set_option linter.unusedSimpArgs false
set_option linter.unusedVariables false
namespace Go.Proofs.YteijllklpneagaaGreatDoor
open Go.RowKit
/-- a record -/
structure RecL where
  id : Int
  ver : Int
  vals : List (List UInt8)
def noRec : RecL := ⟨0, 0, []⟩
def numberedB (i v : Int) : Bool := decide (1 ≤ i) && decide (i ≤ 1048576) && decide (1 ≤ v) && decide (v ≤ 1048576)
/-- values from field i on are normal -/
def normA (s : SchemaL) : Nat → List (List UInt8) → Bool
  | _, [] => true
  | i, x :: l => normalB s i x && normA s (i + 1) l
def checkI (s : SchemaL) (r : RecL) : Int := if (numberedB r.id r.ver && (r.vals.length == s.fields.length) && normA s 0 r.vals) = true then 0 else 7
def checkN (s : SchemaL) (r : RecL) : Int := if checkS s = 0 then checkI s r else checkS s
/-- the values that are made of raw ones, from field i on, behind C; the error -/
def makeA (s : SchemaL) : Nat → List (List UInt8) → List (List UInt8) → List (List UInt8) × Int
  | _, C, [] => (C, 0)
  | i, C, x :: l => if (valueN s i x).2 = 0 then makeA s (i + 1) (C ++ [(valueN s i x).1]) l else ([], (valueN s i x).2)
def makeN (s : SchemaL) (id ver : Int) (raws : List (List UInt8)) : RecL × Int :=
  if checkS s = 0 then
    if raws.length = s.fields.length then
      if numberedB id ver = true then (if (makeA s 0 [] raws).2 = 0 then (⟨id, ver, (makeA s 0 [] raws).1⟩, 0) else (noRec, (makeA s 0 [] raws).2))
      else (noRec, 7)
    else (noRec, 8)
  else (noRec, checkS s)
theorem makeA_len (s : SchemaL) (raws : List (List UInt8)) : ∀ i C, (makeA s i C raws).2 = 0 → (makeA s i C raws).1.length = C.length + raws.length := by
  induction raws with
  | nil => intro i C _; simp [makeA]
  | cons x l ih =>
    intro i C h
    unfold makeA at h ⊢
    split at h
    · rename_i h0
      rw [if_pos h0, ih _ _ h]; simp; omega
    · rename_i h0
      exact absurd h h0
theorem normA_append (s : SchemaL) (A B : List (List UInt8)) : ∀ i, normA s i (A ++ B) = (normA s i A && normA s (i + A.length) B) := by
  induction A with
  | nil => intro i; simp [normA]
  | cons x A ih => intro i; simp only [List.cons_append, normA, ih, List.length_cons, Bool.and_assoc]; rw [show i + 1 + A.length = i + (A.length + 1) by omega]
theorem normA_get (s : SchemaL) (L : List (List UInt8)) : ∀ i, normA s i L = true → ∀ j, j < L.length → normalB s (i + j : Nat) (L.getD j []) = true := by
  induction L with
  | nil => intro i _ j hj; simp at hj
  | cons x L ih =>
    intro i h j hj
    simp only [normA, Bool.and_eq_true] at h
    cases j with
    | zero => simpa using h.1
    | succ j =>
      have := ih (i + 1) h.2 j (by simpa using hj)
      rw [show i + (j + 1) = i + 1 + j by omega]
      simpa using this
theorem normA_of (s : SchemaL) (L : List (List UInt8)) : ∀ i, (∀ j, j < L.length → normalB s (i + j : Nat) (L.getD j []) = true) → normA s i L = true := by
  induction L with
  | nil => intro i _; rfl
  | cons x L ih =>
    intro i h
    simp only [normA, Bool.and_eq_true]
    refine ⟨by simpa using h 0 (by simp), ih (i + 1) fun j hj => ?_⟩
    have := h (j + 1) (by simpa using hj)
    rw [show i + (j + 1) = i + 1 + j by omega] at this
    simpa using this
theorem makeA_norm (s : SchemaL) (raws : List (List UInt8)) : ∀ i C, (makeA s i C raws).2 = 0 → i = C.length → normA s 0 C = true → normA s 0 (makeA s i C raws).1 = true := by
  induction raws with
  | nil => intro i C _ _ h; simpa [makeA] using h
  | cons x l ih =>
    intro i C h hi hC
    unfold makeA at h ⊢
    split at h
    · rename_i h0
      rw [if_pos h0]
      refine ih _ _ h (by simp; omega) ?_
      rw [normA_append, hC, Bool.true_and, Nat.zero_add]
      obtain ⟨⟨v, e⟩, hp⟩ : ∃ p, valueN s i x = p := ⟨_, rfl⟩
      rw [hp] at h0 ⊢
      dsimp only at h0
      subst h0
      simp only [normA, Bool.and_true]
      rw [← hi]
      exact (value_normal hp).1
    · rename_i h0
      exact absurd h h0
theorem makeN_ok {s : SchemaL} {id ver : Int} {raws : List (List UInt8)} {r : RecL} (h : makeN s id ver raws = (r, 0)) :
    checkS s = 0 ∧ r.id = id ∧ r.ver = ver ∧ numberedB id ver = true ∧ r.vals.length = s.fields.length ∧ raws.length = s.fields.length ∧ normA s 0 r.vals = true ∧ r.vals = (makeA s 0 [] raws).1 ∧ (makeA s 0 [] raws).2 = 0 := by
  unfold makeN at h
  split at h
  · rename_i h1
    split at h
    · rename_i h2
      split at h
      · rename_i h3
        split at h
        · rename_i h4
          obtain rfl : RecL.mk id ver (makeA s 0 [] raws).1 = r := congrArg Prod.fst h
          exact ⟨h1, rfl, rfl, h3, by simpa [h2] using makeA_len s raws 0 [] h4, h2, makeA_norm s raws 0 [] h4 rfl rfl, rfl, h4⟩
        · rename_i h4
          exact absurd (congrArg Prod.snd h) h4
      · exact absurd (congrArg Prod.snd h) (show (7 : Int) ≠ 0 by decide)
    · exact absurd (congrArg Prod.snd h) (show (8 : Int) ≠ 0 by decide)
  · rename_i h1
    exact absurd (congrArg Prod.snd h) h1
theorem checkN_of {s : SchemaL} {r : RecL} (h0 : checkS s = 0) (h1 : numberedB r.id r.ver = true) (h2 : r.vals.length = s.fields.length) (h3 : normA s 0 r.vals = true) : checkN s r = 0 := by
  unfold checkN checkI
  rw [if_pos h0, h1, h3, h2]; simp
theorem checkN_ok {s : SchemaL} {r : RecL} (h : checkN s r = 0) : checkS s = 0 ∧ numberedB r.id r.ver = true ∧ r.vals.length = s.fields.length ∧ normA s 0 r.vals = true := by
  unfold checkN at h
  split at h
  · rename_i h0
    unfold checkI at h
    split at h
    · rename_i h1
      simp only [Bool.and_eq_true, beq_iff_eq] at h1
      exact ⟨h0, h1.1.1, h1.1.2, h1.2⟩
    · exact absurd h (by decide)
  · rename_i h0; exact absurd h h0
theorem normalB_nil {s : SchemaL} {f : Int} (h : (findN s f).2 = 0) : normalB s f [] = true := by
  unfold normalB; rw [if_pos h, if_pos rfl]
/-- a record without values is normal -/
theorem none_norm {s : SchemaL} (h : checkS s = 0) : normA s 0 (List.replicate s.fields.length []) = true := by
  refine normA_of _ _ _ fun j hj => ?_
  rw [List.length_replicate] at hj
  have e : (List.replicate s.fields.length ([] : List UInt8)).getD j [] = [] := by simp [List.getD, List.getElem?_replicate]; split <;> rfl
  rw [e]
  refine normalB_nil ?_
  rw [findN_in h (by simpa using hj)]
end Go.Proofs.YteijllklpneagaaGreatDoor
end
section
/- Plain: arrays of bits, bloom filters, encoded records: what the functions of the layers 9, 14 and 16 return. -/
set_option linter.unusedSimpArgs false
set_option linter.unusedVariables false
namespace Go.Proofs.YteijllklpneagaaGreatDoor
open Go.RowKit
/-- an array of bits -/
structure BitsL where
  len : Int
  words : List Int
def noBits : BitsL := ⟨0, []⟩
/-- the parameters of a field -/
structure ParL where
  len : Int
  hashes : Int
  salt : Int
instance : Inhabited ParL := ⟨⟨0, 0, 0⟩⟩
structure EncL where
  id : Int
  ver : Int
  fields : List BitsL
/-- a length that an array may have -/
def rightB (n : Int) : Bool := decide (64 ≤ n) && decide (n ≤ 512) && (n % 64 == 0)
def bloomOk (p : ParL) : Bool := rightB p.len && decide (1 ≤ p.hashes) && decide (p.hashes ≤ 16) && decide (-1 ≤ p.salt) && decide (p.salt < 5)
/-- n positions, from x on, each y further than the one before -/
def posN (len y : Int) : Nat → Int → List Int
  | 0, _ => []
  | n + 1, x => x :: posN len y n ((x + y) % len)
def firstP (p : ParL) (k : Int × Int) (g : List UInt8) : Int := (partsP k.1 k.2 [[49], g]) % p.len
def stepP (p : ParL) (k : Int × Int) (g : List UInt8) : Int := 1 + (partsP k.1 k.2 [[50], g]) % (p.len - 1)
def positionsN (p : ParL) (k : Int × Int) (g : List UInt8) : List Int := posN p.len (stepP p k g) p.hashes.toNat (firstP p k g)
/-- a bit more -/
def orBit (ws : List Int) (i : Int) : List Int := ws.set (i / 64).toNat (bits .or .u64 (ws.getD (i / 64).toNat 0) (IntKind.u64.wrap (2 ^ (i % 64).toNat)))
def orGram (p : ParL) (k : Int × Int) (ws : List Int) (g : List UInt8) : List Int := (positionsN p k g).foldl orBit ws
def zeroW (n : Int) : List Int := List.replicate (n / 64).toNat 0
/-- the array of grams, and the error -/
def bloomN (p : ParL) (k : Int × Int) (G : List (List UInt8)) : BitsL × Int :=
  if bloomOk p = true then (if G.length ≤ 80 then (⟨p.len, G.foldl (orGram p k) (zeroW p.len)⟩, 0) else (noBits, 1)) else (noBits, 10)
structure ParOk (p : ParL) : Prop where
  len1 : 64 ≤ p.len
  len2 : p.len ≤ 512
  len3 : p.len % 64 = 0
  h1 : 1 ≤ p.hashes
  h2 : p.hashes ≤ 16
  s1 : -1 ≤ p.salt
  s2 : p.salt < 5
theorem ParOk.right {p : ParL} (h : ParOk p) : rightB p.len = true := by
  have h1 := h.len1; have h2 := h.len2; have h3 := h.len3
  simp [rightB, h1, h2, h3]
theorem ParOk.bloom {p : ParL} (h : ParOk p) : bloomOk p = true := by
  have h0 := h.right; have h1 := h.h1; have h2 := h.h2; have h3 := h.s1; have h4 := h.s2
  simp [bloomOk, h0, h1, h2, h3, h4]
theorem orBit_len (ws : List Int) (i : Int) : (orBit ws i).length = ws.length := by simp [orBit]
theorem orBits_len (l : List Int) : ∀ ws : List Int, (l.foldl orBit ws).length = ws.length := by
  induction l with
  | nil => intro ws; rfl
  | cons x l ih => intro ws; rw [List.foldl_cons, ih, orBit_len]
theorem orGrams_len (p : ParL) (k : Int × Int) (G : List (List UInt8)) : ∀ ws : List Int, (G.foldl (orGram p k) ws).length = ws.length := by
  induction G with
  | nil => intro ws; rfl
  | cons x l ih => intro ws; rw [List.foldl_cons, ih]; exact orBits_len _ _
def fieldLabel (t : List UInt8) : List UInt8 := [102, 105, 101, 108, 100] ++ t
def saltLabel (t : List UInt8) : List UInt8 := [115, 97, 108, 116, 61] ++ t
/-- the key of a field: num is its number in decimal digits -/
def keyN (k : Int × Int) (num : List UInt8) (salted : Bool) (salt : List UInt8) : Int × Int :=
  let x := deriveP k.1 k.2 (fieldLabel num)
  bif salted then deriveP x.1 x.2 (saltLabel salt) else x
/-- the text that salts a field's key -/
def saltOf (p : ParL) (vals : List (List UInt8)) : List UInt8 := if 0 ≤ p.salt then vals.getD p.salt.toNat [] else []
/-- the array of field i -/
def fieldN (s : SchemaL) (p : ParL) (k : Int × Int) (vals : List (List UInt8)) (i : Nat) : BitsL :=
  if vals.getD i [] = [] then noBits else (bloomN p (keyN k (Lib.decDigits i) (decide (0 ≤ p.salt)) (saltOf p vals)) (gramsN s i (vals.getD i [])).1).1
theorem bigrams_two : ∀ (l : List UInt8), ∀ x ∈ bigrA l, x.length = 2
  | [], x, h => by simp [bigrA] at h
  | [a], x, h => by simp [bigrA] at h
  | a :: b :: l, x, h => by
    simp only [bigrA, List.mem_cons] at h
    rcases h with rfl | h
    · rfl
    · exact bigrams_two (b :: l) x h
theorem posL_two : ∀ (l : List UInt8) (j : Nat), ∀ x ∈ posL j l, x.length = 2
  | [], j, x, h => by simp [posL] at h
  | c :: l, j, x, h => by
    simp only [posL, List.mem_cons] at h
    rcases h with rfl | h
    · rfl
    · exact posL_two l (j + 1) x h
theorem gramsL_two (l : List UInt8) : ∀ x ∈ gramsL l, x.length = 2 := by
  intro x h
  unfold gramsL at h
  rw [set_mem] at h
  unfold gramsAll at h
  obtain ⟨t, _, ht⟩ := List.mem_flatMap.1 h
  exact bigrams_two _ _ ht
/-- the grams of a value in normal form: not too many, not too long -/
theorem grams_fit {s : SchemaL} {i : Int} {l : List UInt8} (h : normalB s i l = true) (hi : (findN s i).2 = 0) : (gramsN s i l).2 = 0 ∧ (gramsN s i l).1.length ≤ 80 ∧ (∀ g ∈ (gramsN s i l).1, g.length ≤ 100) ∧ l.length ≤ 64 := by
  unfold gramsN
  rw [if_pos hi, if_pos h]
  by_cases h0 : l = []
  · subst h0; simp [gramsK]
  · have ho : ownK (findN s i).1 s.rules l = true := by unfold normalB at h; rw [if_pos hi, if_neg h0] at h; exact h
    obtain ⟨g1, g2, g3⟩ := own_facts ho (findN_kind hi)
    refine ⟨rfl, ?_, ?_, g1⟩
    · unfold gramsK
      rw [if_neg h0]
      split
      · rw [posL_len]; omega
      · split
        · simp
        · have := grams_bound g1; show (gramsL l).length ≤ 80; omega
    · unfold gramsK
      rw [if_neg h0]
      split
      · intro g hg; rw [posL_two _ _ g hg]; omega
      · split
        · intro g hg; simp at hg; subst hg; simp; omega
        · intro g hg; rw [gramsL_two _ g hg]; omega
end Go.Proofs.YteijllklpneagaaGreatDoor
end
section
/- The deck of recordlinkmake: contracts of New, Word, Next, One, Few: whatever the list of at most 400 numbers, a number within its bounds is dealt, and the deck alone has changed. -/
set_option linter.unusedSimpArgs false
set_option linter.unusedVariables false
namespace Go.Proofs.YteijllklpneagaaGreatDoor
open Go.RowKit

theorem bits_u64_bd (op : BinOp) (x y : Int) : 0 ≤ bits op .u64 x y ∧ bits op .u64 x y < 18446744073709551616 := by
  have : ∃ e, bits op .u64 x y = IntKind.u64.wrap e := by unfold bits; exact ⟨_, rfl⟩
  obtain ⟨e, he⟩ := this
  rw [he]
  simp only [IntKind.wrap, IntKind.bits, IntKind.signed]
  simp
  omega

theorem grown_refl (w : World) (r : Option Nat) : w.grownBy w r := ⟨rfl, rfl, rfl, Nat.le_refl _, fun _ _ _ => rfl⟩
theorem grown_trans {w w1 w2 : World} {r : Option Nat} (h : w.grownBy w1 r) (h' : w1.grownBy w2 r) : w.grownBy w2 r :=
  ⟨h'.os.trans h.os, h'.tape.trans h.tape, h'.output.trans h.output, Nat.le_trans h.size h'.size, fun k hk hr => (h'.block k (Nat.lt_of_lt_of_le hk h.size) hr).trans (h.block k hk hr)⟩
theorem grown_drewN {w w1 : World} {r : Option Nat} (h : w.grownBy w1 r) (n : Nat) : w.grownBy (w1.drewN n) r := ⟨h.os, h.tape, h.output, h.size, h.block⟩
theorem grown_set {w w1 : World} {D i : Nat} {v : Value} (h : w.grownBy w1 (some D)) : w.grownBy (w1.setCell ⟨D, i, none⟩ v) (some D) :=
  grown_trans h ⟨rfl, rfl, rfl, by simp [World.setCell], fun k hk hr => heap_setCell_other _ _ _ _ (fun e => hr (by rw [e]))⟩
theorem grown_below {w w1 : World} {r : Option Nat} (h : Below w.heap.size w w1) : w.grownBy w1 r := ⟨h.os, h.tape, h.output, h.size, fun k hk _ => h.block k hk⟩
theorem grown_blk {w w1 : World} {D k : Nat} {o : Obj} (h : w.grownBy w1 (some D)) (ho : w.heap[k]? = some o) (hk : k ≠ D) : w1.heap[k]? = some o := by
  have hlt : k < w.heap.size := by
    rcases Nat.lt_or_ge k w.heap.size with h' | h'
    · exact h'
    · simp [Array.getElem?_eq_none h'] at ho
  rw [h.block k hlt (by simpa using hk)]; exact ho

/-- a slice of ints that can be read, in a block below D -/
def ListAt (w : World) (D : Nat) (s : Value) (n : Nat) : Prop :=
  ∃ a cap, s = .slice a n cap ∧ n ≤ 400 ∧ (0 < n → ∃ b off, a = some ⟨b, off, none⟩ ∧ b < D ∧ ∀ i, i < n → ∃ x : Int, w.cell? ⟨b, off + i, none⟩ = some (.int .i64 x))
theorem ListAt.same {w w1 : World} {D n : Nat} {s : Value} (h : ListAt w D s n) (hg : ∀ k, k < D → w1.heap[k]? = w.heap[k]?) : ListAt w1 D s n := by
  obtain ⟨a, cap, h1, h2, h3⟩ := h
  refine ⟨a, cap, h1, h2, fun hn => ?_⟩
  obtain ⟨b, off, h4, h5, h7⟩ := h3 hn
  refine ⟨b, off, h4, h5, fun i hi => ?_⟩
  obtain ⟨x, hx⟩ := h7 i hi
  exact ⟨x, (World.cell?_of_block (w := w) (a := ⟨b, off + i, none⟩) (hg b h5)).trans hx⟩
/-- a deck lies in block D -/
def DeckAt (w : World) (D : Nat) : Prop :=
  ∃ (s : Value) (n : Nat) (t st : Int), w.heap[D]? = some (.cells #[s, .int .i64 t, .int .u64 st] 91 (0, 0)) ∧ ListAt w D s n ∧ 0 ≤ t ∧ t ≤ n
theorem DeckAt.lt {w : World} {D : Nat} (h : DeckAt w D) : D < w.heap.size := by
  obtain ⟨s, n, t, st, h, _⟩ := h
  exact (Array.getElem?_eq_some_iff.1 h).1
theorem DeckAt.same {w w1 : World} {D : Nat} (h : DeckAt w D) (hg : ∀ k, k ≤ D → w1.heap[k]? = w.heap[k]?) : DeckAt w1 D := by
  obtain ⟨s, n, t, st, h1, h2, h3⟩ := h
  exact ⟨s, n, t, st, (hg D (Nat.le_refl _)).trans h1, h2.same fun k hk => hg k (Nat.le_of_lt hk), h3⟩
/-- a deck is as it was behind whatever leaves all that was there as it was -/
theorem DeckAt.below {w w1 : World} {D : Nat} (h : DeckAt w D) (hb : Below w.heap.size w w1) : DeckAt w1 D := by
  have hlt := h.lt
  exact h.same fun k hk => hb.block k (by omega)
/-- w' is w, but for the deck in block D, which has moved on, and for new blocks -/
structure Moved (D : Nat) (w w' : World) : Prop where
  grown : w.grownBy w' (some D)
  deck : DeckAt w' D
  lt : D < w.heap.size
theorem Moved.start {D : Nat} {w : World} (h : DeckAt w D) : Moved D w w := ⟨grown_refl _ _, h, h.lt⟩
theorem Moved.trans {D : Nat} {w w1 w2 : World} (h : Moved D w w1) (h' : Moved D w1 w2) : Moved D w w2 := ⟨grown_trans h.grown h'.grown, h'.deck, h.lt⟩
theorem Moved.below {D : Nat} {w w1 w2 : World} (h : Moved D w w1) (hb : Below w1.heap.size w1 w2) : Moved D w w2 := ⟨grown_trans h.grown (grown_below hb), h.deck.below hb, h.lt⟩
theorem Moved.alloc {D : Nat} {w w1 : World} (h : Moved D w w1) (o : Obj) : Moved D w (w1.alloc o) := h.below ((Below.refl _ _).alloc (Nat.le_refl _) _)
theorem Moved.drew {D : Nat} {w w1 : World} (h : Moved D w w1) : Moved D w w1.drew := h.below (Below.refl _ _).drew
theorem Moved.drewN {D : Nat} {w w1 : World} (h : Moved D w w1) (n : Nat) : Moved D w (w1.drewN n) := h.below (below_drewN (Below.refl _ _) n)
theorem Moved.set {D : Nat} {w w1 : World} (h : Moved D w w1) {a : Addr} (ha : w.heap.size ≤ a.block) (v : Value) : Moved D w (w1.setCell a v) := by
  have := h.lt
  refine ⟨⟨h.grown.os, h.grown.tape, h.grown.output, by simpa [World.setCell] using h.grown.size, fun k hk hr => ?_⟩, h.deck.same fun k hk => heap_setCell_other _ _ _ _ (by omega), this⟩
  rw [heap_setCell_other _ _ _ _ (by omega)]; exact h.grown.block k hk hr
theorem Moved.blk {D k : Nat} {w w1 : World} {o : Obj} (h : Moved D w w1) (hk : k ≠ D) (ho : w.heap[k]? = some o) : w1.heap[k]? = some o := grown_blk h.grown ho hk
theorem Moved.size {D : Nat} {w w1 : World} (h : Moved D w w1) : w.heap.size ≤ w1.heap.size := h.grown.size
/-- as seen from before the deck was made -/
theorem Moved.base {D B : Nat} {w0 w w1 : World} (h : Moved D w w1) (hb : Below B w0 w) (hB : B ≤ D) : Below B w0 w1 :=
  hb.trans ⟨h.grown.os, h.grown.tape, h.grown.output, h.grown.size, fun k hk => h.grown.block k (by have := h.lt; omega) (by simp; omega)⟩
def WordPost (D : Nat) (w : World) (e : Ending) (w' : World) : Prop :=
  ∃ r : Int, e = .returned (.int .u64 r) ∧ 0 ≤ r ∧ r < 18446744073709551616 ∧ Moved D w w'
theorem word_done {D n : Nat} {w w' : World} {s : Value} {r t st : Int} (hL : ListAt w D s n) (hg : w.grownBy w' (some D)) (hD : w'.heap[D]? = some (.cells #[s, .int .i64 t, .int .u64 st] 91 (0, 0)))
    (hlt : D < w.heap.size) (h0 : 0 ≤ t) (h1 : t ≤ n) (hr : 0 ≤ r ∧ r < 18446744073709551616) : WordPost D w (.returned (.int .u64 r)) w' :=
  ⟨r, rfl, hr.1, hr.2, hg, ⟨s, n, t, st, hD, hL.same fun k hk => hg.block k (by omega) (by simp; omega), h0, h1⟩, hlt⟩
set_option maxHeartbeats 400000 in
theorem word_more (D : Nat) (w : World) (b off n cap : Nat) (t st x : Int) (hD : w.heap[D]? = some (.cells #[.slice (some ⟨b, off, none⟩) n cap, .int .i64 t, .int .u64 st] 91 (0, 0)))
    (hL : ListAt w D (.slice (some ⟨b, off, none⟩) n cap) n) (hn : n ≤ 400) (h0 : 0 ≤ t) (h1 : t < n) (hb : b < D) (hx : w.cell? ⟨b, off + t.toNat, none⟩ = some (.int .i64 x)) :
    Calls Tryz.prog 47 #[.pointer (some ⟨D, 0, none⟩)] w (WordPost D w) := by
  obtain ⟨p0, p1, p2⟩ := cells3 hD
  obtain ⟨f0, f1, f2⟩ := free3 hD
  obtain ⟨t, rfl⟩ := Int.eq_ofNat_of_zero_le h0
  rw [Int.toNat_natCast] at hx
  have hlt := lt_of_blk hD
  have HD := Lib.hid hD; clear hD
  go_enter Tryz.func47, Tryz.ntmps47
  go_wp2
  go_quiet (fail)
  go_wp2
  go_quiet (fail)
  go_wp2
  go_quiet (fail)
  go_wp2
  go_ret
  exact word_done hL (grown_drewN (grown_set (grown_set (grown_drewN (grown_refl w _) _))) _) (blk_set (blk_set HD.out)) hlt (by omega) (by omega) (bits_u64_bd _ _ _)
set_option maxHeartbeats 400000 in
theorem word_end (D : Nat) (w : World) (a : Option Addr) (n cap : Nat) (t st : Int) (hD : w.heap[D]? = some (.cells #[.slice a n cap, .int .i64 t, .int .u64 st] 91 (0, 0)))
    (hL : ListAt w D (.slice a n cap) n) (hn : n ≤ 400) (h0 : 0 ≤ t) (h1 : t = n) :
    Calls Tryz.prog 47 #[.pointer (some ⟨D, 0, none⟩)] w (WordPost D w) := by
  subst h1
  obtain ⟨p0, p1, p2⟩ := cells3 hD
  obtain ⟨f0, f1, f2⟩ := free3 hD
  have hlt := lt_of_blk hD
  have HD := Lib.hid hD; clear hD
  go_enter Tryz.func47, Tryz.ntmps47
  go_wp2
  go_quiet (fail)
  go_wp2
  go_quiet (fail)
  go_wp2
  go_ret
  exact word_done hL (grown_drewN (grown_set (grown_drewN (grown_refl w _) _)) _) (blk_set HD.out) hlt (by omega) (by omega) (bits_u64_bd _ _ _)
theorem word_any (D : Nat) (w : World) (h : DeckAt w D) :
    Calls Tryz.prog 47 #[.pointer (some ⟨D, 0, none⟩)] w (WordPost D w) := by
  obtain ⟨s, n, t, st, hD, hL, h0, h1⟩ := h
  have hL' := hL
  obtain ⟨a, cap, rfl, hn, h2⟩ := hL
  by_cases ht : t = n
  · exact word_end D w a n cap t st hD hL' hn h0 ht
  · have ht' : t < n := by clear h2 hL'; omega
    obtain ⟨b, off, rfl, hb, hc⟩ := h2 (by clear h2 hL'; omega)
    obtain ⟨x, hx⟩ := hc t.toNat (by clear hc h2 hL'; omega)
    exact word_more D w b off n cap t st x hD hL' hn h0 ht' hb hx

theorem next_val {r k : Int} (h0 : 0 ≤ r) (h1 : r < 18446744073709551616) (hk : 1 ≤ k) : 0 ≤ (wrap64 (r / 2)).tmod k ∧ (wrap64 (r / 2)).tmod k < k := by
  have e : wrap64 (r / 2) = r / 2 := IntWalk.wrap64_in (r / 2) (by constructor <;> omega)
  have h2 : 0 ≤ r / 2 := by omega
  rw [e, Int.tmod_eq_emod_of_nonneg h2]
  exact ⟨Int.emod_nonneg _ (by omega), Int.emod_lt_of_pos _ (by omega)⟩
def NextPost (D : Nat) (w : World) (k : Int) (e : Ending) (w' : World) : Prop :=
  ∃ r : Int, e = .returned (.int .i64 r) ∧ 0 ≤ r ∧ r < k ∧ Moved D w w'
set_option maxHeartbeats 400000 in
theorem next_any (D : Nat) (w : World) (k : Int) (h : DeckAt w D) (hk : 1 ≤ k) (hk2 : k ≤ 1000000000) :
    Calls Tryz.prog 17 #[.pointer (some ⟨D, 0, none⟩), .int .i64 k] w (NextPost D w k) := by
  go_enter Tryz.func17, Tryz.ntmps17
  go_wp2_with fail
  refine (word_any D _ h).mono ?_
  rintro e w1 ⟨r, rfl, h0, h1, h2⟩
  have H1 := Lib.hid h1; clear h1
  have H2 := Lib.hid h2; clear h2
  go_wp2_with fail
  go_ret
  have hv := next_val h0 H1.out hk
  exact ⟨_, rfl, hv.1, hv.2, H2.out⟩
set_option maxHeartbeats 400000 in
theorem few_any (a : Option Addr) (n cap : Nat) (w : World) :
    Calls Tryz.prog 10 #[.slice a n cap] w fun e w' => e = .returned (.bool (decide (n ≤ 400))) ∧ w = w' := by
  go_enter Tryz.func10, Tryz.ntmps10
  go_wp2
  go_ret
  exact ⟨ret_bool (by simp; omega), rfl⟩
set_option maxHeartbeats 400000 in
theorem new_any (a : Option Addr) (n cap : Nat) (w : World) :
    Calls Tryz.prog 11 #[.slice a n cap] w fun e w' => e = .returned (.pointer (some ⟨w.heap.size, 0, none⟩)) ∧ w.alloc (.cells #[.slice a n cap, .int .i64 0, .int .u64 11400714819323198485] 91) = w' := by
  go_enter Tryz.func11, Tryz.ntmps11
  go_wp2
  go_ret
  exact ⟨rfl, rfl⟩
/-- a list that can be read, and no more than 400 numbers, makes a deck -/
theorem deck_new {w : World} {a : Option Addr} {n cap : Nat} (hn : n ≤ 400) (h : 0 < n → ∃ b off, a = some ⟨b, off, none⟩ ∧ b < w.heap.size ∧ ∀ i, i < n → ∃ x : Int, w.cell? ⟨b, off + i, none⟩ = some (.int .i64 x)) :
    DeckAt (w.alloc (.cells #[.slice a n cap, .int .i64 0, .int .u64 11400714819323198485] 91)) w.heap.size := by
  refine ⟨_, n, 0, _, blk_new rfl, ⟨a, cap, rfl, hn, fun h0 => ?_⟩, by omega, by omega⟩
  obtain ⟨b, off, h1, h2, h3⟩ := h h0
  refine ⟨b, off, h1, h2, fun i hi => ?_⟩
  obtain ⟨x, hx⟩ := h3 i hi
  exact ⟨x, (World.cell?_of_block (w := w) (a := ⟨b, off + i, none⟩) (((Below.refl _ _).alloc (Nat.le_refl _) _).block b h2)).trans hx⟩
end Go.Proofs.YteijllklpneagaaGreatDoor
end
section
/- A region that draws its order: an operation that yields in every world that meets S may be taken first, where S is asked only until operation k has come up (k waits for it, directly or through others). -/
set_option linter.unusedSimpArgs false
set_option linter.unusedVariables false
namespace Go.Proofs.YteijllklpneagaaGreatDoor
open Go
section
variable {P : Program} {ops : Array Oper} {Q : Exit → Act → World → Prop} {md : Region.Mode} {S : World → Prop} {k : Nat}
/-- whatever is listed, all that it waits for is listed -/
def Closed (md : Region.Mode) (ops : Array Oper) (l : Array Bool) : Prop :=
  ∀ j o, ops[j]? = some o → l.getD j false = true → ∀ e ∈ o.after, Region.binds md e = true → l.getD e.on false = true
def closedB (md : Region.Mode) (ops : Array Oper) (l : Array Bool) : Bool :=
  (List.range ops.size).all fun j => match ops[j]? with
    | none => true
    | some o => !l.getD j false || o.after.all fun e => !Region.binds md e || l.getD e.on false
theorem closed_spec {l : Array Bool} (h : closedB md ops l = true) : Closed md ops l := by
  intro j o ho hl e he hb
  have hj : j < ops.size := (Array.getElem?_eq_some_iff.1 ho).1
  have h1 := List.all_eq_true.1 h j (List.mem_range.2 hj)
  simp only [ho] at h1
  rw [hl] at h1
  simp only [Bool.not_true, Bool.false_or, Array.all_eq_true_iff_forall_mem] at h1
  have h2 := h1 e he
  rw [hb] at h2
  simpa using h2
theorem closed_step {l : Array Bool} {j : Nat} (h : Closed md ops l) (hj : j ∈ Region.ready md ops l) : Closed md ops (l.setIfInBounds j true) := by
  intro i o ho hl e he hb
  by_cases hij : i = j
  · subst hij
    obtain ⟨_, o', ho', hall⟩ := mem_ready.1 hj
    rw [ho] at ho'; cases ho'
    exact getD_set_true (hall e he hb)
  · rw [getD_set_ne false (fun e => hij e.symm)] at hl
    exact getD_set_true (h i o ho hl e he hb)
/-- k waits for i -/
def reachB (md : Region.Mode) (ops : Array Oper) : Nat → Nat → Nat → Bool
  | 0, _, _ => false
  | f + 1, i, k => match ops[k]? with
    | none => false
    | some o => o.after.any fun e => Region.binds md e && (e.on == i || reachB md ops f i e.on)
theorem reach_spec {l : Array Bool} (hc : Closed md ops l) : ∀ (f i k : Nat), reachB md ops f i k = true → l.getD k false = true → l.getD i false = true := by
  intro f
  induction f with
  | zero => intro i k h; simp [reachB] at h
  | succ f ih =>
    intro i k h hk
    unfold reachB at h
    cases ho : ops[k]? with
    | none => simp [ho] at h
    | some o =>
      simp only [ho] at h
      obtain ⟨e, he, hb⟩ := Array.any_eq_true'.1 h
      simp only [Bool.and_eq_true, Bool.or_eq_true, beq_iff_eq] at hb
      have h1 := hc k o ho hk e he hb.1
      rcases hb.2 with h2 | h2
      · rw [← h2]; exact h1
      · exact ih i e.on h2 h1
def wpAnyK (P : Program) (md : Region.Mode) (ops : Array Oper) (Q : Exit → Act → World → Prop) (S : World → Prop) (k : Nat) : Nat → Array Bool → Act → World → Prop
  | 0, listed, a, w => Region.ready md ops listed = [] ∧ Q .normal a w
  | fuel + 1, listed, a, w =>
    (Region.ready md ops listed = [] → Q .normal a w) ∧
    ∀ i ∈ Region.ready md ops listed, wpOp P ops Q i (fun a' w' => ((listed.setIfInBounds i true).getD k false = false → S w') ∧ wpAnyK P md ops Q S k fuel (listed.setIfInBounds i true) a' w') a w
theorem wpAny_of_k : ∀ (fuel : Nat) (listed : Array Bool) (a : Act) (w : World), wpAnyK P md ops Q S k fuel listed a w → wpAny P md ops Q fuel listed a w
  | 0, _, _, _, h => h
  | fuel + 1, _, _, _, h => ⟨h.1, fun i hi => wpOp_mono (fun a' w' h' => wpAny_of_k fuel _ a' w' h'.2) (h.2 i hi)⟩
theorem wpAnyK_first {i : Nat} {oi : Oper} {v : Value} (hi : ops[i]? = some oi) (hsel : ∀ (j : Nat) (o : Oper) cs b, ops[j]? = some o → o.op ≠ .select cs b)
    (hQ : ∀ c a w, Q (.panic c) (a.put oi.dst v) w → Q (.panic c) a w) (f : Nat) (hreach : reachB md ops f i k = true) (hik : i ≠ k) :
    ∀ (fuel : Nat) (listed : Array Bool) (a : Act) (w : World), Closed md ops listed →
      (∀ j oj, ops[j]? = some oj → j ≠ i → listed.getD j true = false → (∀ e ∈ oj.after, Region.binds md e = true → e.on ≠ i) → oi.apart ops oj = true) →
      i ∈ Region.ready md ops listed → YieldsIf P ops S oi v a → S w →
      wpAnyK P md ops Q S k fuel (listed.setIfInBounds i true) (a.put oi.dst v) w → wpAnyK P md ops Q S k (fuel + 1) listed a w := by
  intro fuel
  induction fuel with
  | zero =>
    intro listed a w _ _ hr hy hS H
    refine ⟨fun h => (by rw [h] at hr; cases hr), fun j hj => ?_⟩
    by_cases hji : j = i
    · subst hji; exact hy.wpOp hi hS ⟨fun _ => hS, H⟩
    · have := ready_mono hj hji
      rw [H.1] at this
      cases this
  | succ fuel ih =>
    intro listed a w hcl hfree hr hy hS H
    refine ⟨fun h => (by rw [h] at hr; cases hr), fun j hj => ?_⟩
    by_cases hji : j = i
    · subst hji; exact hy.wpOp hi hS ⟨fun _ => hS, H⟩
    · have h1 := H.2 j (ready_mono hj hji)
      have hcl' := closed_step hcl hj
      obtain ⟨hjun, oj, hoj, hall⟩ := mem_ready.1 hj
      have hil : i < listed.size := by
        have h0 := (mem_ready.1 hr).1
        rcases Nat.lt_or_ge i listed.size with h' | h'
        · exact h'
        · simp [Array.getElem?_eq_none h'] at h0
      have hif : (listed.setIfInBounds j true).getD i false = false := by
        rw [getD_set_ne false hji]
        have h0 := (mem_ready.1 hr).1
        simp [hil] at h0 ⊢; exact h0
      have hnot : ∀ e ∈ oj.after, Region.binds md e = true → e.on ≠ i := fun e he hb heq => by
        have h1 := hall e he hb
        have h0 := (mem_ready.1 hr).1
        rw [heq] at h1
        simp [hil] at h0 h1; rw [h0] at h1; cases h1
      have hkf : ((listed.setIfInBounds i true).setIfInBounds j true).getD k false = false := by
        have hne : (listed.setIfInBounds j true).getD k false = false := by
          cases hv : (listed.setIfInBounds j true).getD k false with
          | false => rfl
          | true => rw [reach_spec hcl' f i k hreach hv] at hif; cases hif
        rw [Array.setIfInBounds_comm _ _ (fun e => hji e.symm), getD_set_ne false hik]; exact hne
      have h2 := wpOp_putIf hoj (hfree j oj hoj hji hjun hnot) (fun cs b => hsel i oi cs b hi) (fun cs b => hsel j oj cs b hoj) hQ hy h1
      have hfree' : ∀ k ok, ops[k]? = some ok → k ≠ i → (listed.setIfInBounds j true).getD k true = false →
          (∀ e ∈ ok.after, Region.binds md e = true → e.on ≠ i) → oi.apart ops ok = true := fun k ok hk hki hun hno => by
        refine hfree k ok hk hki ?_ hno
        by_cases hjk : j = k
        · subst hjk; exact hjun
        · rw [getD_set_ne true hjk] at hun; exact hun
      refine wpOp_mono (fun a' w' h3 => ⟨fun _ => h3.2.1 hkf, ih (listed.setIfInBounds j true) a' w' hcl' hfree' (ready_mono hr (Ne.symm hji)) h3.1 (h3.2.1 hkf) ?_⟩) h2
      rw [Array.setIfInBounds_comm _ _ hji]
      exact h3.2.2
theorem wpAnyK_take {i : Nat} {oi : Oper} {v : Value} {fuel : Nat} {listed : Array Bool} {a : Act} {w : World} (hi : ops[i]? = some oi)
    (hs : Region.noSelect ops = true) (hf : Region.free md ops listed i = true) (hr : (Region.ready md ops listed).contains i = true)
    (hc : (closedB md ops listed && reachB md ops 12 i k && (i != k)) = true)
    (hQ : ∀ c a w, Q (.panic c) (a.put oi.dst v) w → Q (.panic c) a w) (hy : YieldsIf P ops S oi v a) (hS : S w)
    (h : wpAnyK P md ops Q S k fuel (listed.setIfInBounds i true) (a.put oi.dst v) w) : wpAnyK P md ops Q S k (fuel + 1) listed a w := by
  simp only [Bool.and_eq_true, bne_iff_ne, ne_eq] at hc
  exact wpAnyK_first hi (Region.noSelect_spec hs) hQ 12 hc.1.2 hc.2 fuel listed a w (closed_spec hc.1.1) (Region.free_spec hi hf) (by simpa using hr) hy hS h
theorem wpAnyK_all {rs : List Nat} {fuel : Nat} {listed : Array Bool} {a : Act} {w : World} (hr : Region.ready md ops listed = rs) (hne : rs ≠ [])
    (h : ∀ i ∈ rs, wpOp P ops Q i (fun a' w' => ((listed.setIfInBounds i true).getD k false = false → S w') ∧ wpAnyK P md ops Q S k fuel (listed.setIfInBounds i true) a' w') a w) : wpAnyK P md ops Q S k (fuel + 1) listed a w :=
  ⟨fun h0 => absurd (hr ▸ h0) hne, hr ▸ h⟩
theorem wpAnyK_done {listed : Array Bool} {a : Act} {w : World} (hr : Region.ready md ops listed = []) (h : Q .normal a w) :
    ∀ fuel, wpAnyK P md ops Q S k fuel listed a w
  | 0 => ⟨hr, h⟩
  | _ + 1 => ⟨fun _ => h, by rw [hr]; simp⟩
def AllReadyK (P : Program) (md : Region.Mode) (ops : Array Oper) (Q : Exit → Act → World → Prop) (S : World → Prop) (k fuel : Nat) (listed : Array Bool) (a : Act) (w : World) (rs : List Nat) : Prop :=
  ∀ i ∈ rs, wpOp P ops Q i (fun a' w' => ((listed.setIfInBounds i true).getD k false = false → S w') ∧ wpAnyK P md ops Q S k fuel (listed.setIfInBounds i true) a' w') a w
theorem AllReadyK.nil {fuel : Nat} {listed : Array Bool} {a : Act} {w : World} : AllReadyK P md ops Q S k fuel listed a w [] := fun _ h => by cases h
theorem AllReadyK.cons {fuel : Nat} {listed : Array Bool} {a : Act} {w : World} {i : Nat} {o : Oper} {rs : List Nat} (ho : ops[i]? = some o)
    (h : ∀ K' : Act → World → Prop, Shut (∀ a w, ((listed.setIfInBounds i true).getD k false = false → S w) → wpAnyK P md ops Q S k fuel (listed.setIfInBounds i true) a w → K' a w) → if Region.wanted o (yielded ops a.tmps) = true then Oper.wp P o a w K' Q else K' (a.put o.dst undef) w)
    (hs : AllReadyK P md ops Q S k fuel listed a w rs) : AllReadyK P md ops Q S k fuel listed a w (i :: rs) := fun j hj => by
  rcases List.mem_cons.1 hj with rfl | hj
  · exact wpOp_step ho (fun K' hK => h K' (fun a w hS hW => hK a w ⟨hS, hW⟩))
  · exact hs j hj
theorem wpAnyK_ready {rs : List Nat} {fuel : Nat} {listed : Array Bool} {a : Act} {w : World} (hr : Region.ready md ops listed = rs) (hne : rs ≠ [])
    (h : AllReadyK P md ops Q S k fuel listed a w rs) : wpAnyK P md ops Q S k (fuel + 1) listed a w := wpAnyK_all hr hne h
theorem wp_region_k {id : Nat} {a : Act} {w : World} (hm : P.follows .mixedOrders = true) (S : World → Prop) (k : Nat) (hS : S w.drew)
    (h : S w.drew → wpAnyK P .any ops Q S k ops.size (Array.replicate ops.size false) a w.drew) : (Code.region id ops true).wp P Q a w :=
  wp_region_any hm (wpAny_of_k _ _ _ _ (h hS))
theorem shutK {S : World → Prop} {W : Act → World → Prop} {c : Prop} {K' : Act → World → Prop} {a : Act} {w : World} (hK : Shut (∀ a w, (c → S w) → W a w → K' a w)) (hS : S w) (h : S w → W a w) : K' a w := hK.out _ _ (fun _ => hS) (h hS)
theorem shutK_off {S : World → Prop} {W : Act → World → Prop} {c : Prop} {K' : Act → World → Prop} {a : Act} {w : World} (hK : Shut (∀ a w, (c → S w) → W a w → K' a w)) (hc : ¬ c) (h : W a w) : K' a w := hK.out _ _ (fun h0 => absurd h0 hc) h
end
end Go.Proofs.YteijllklpneagaaGreatDoor
end
section
/- siphash, the program's: the rotations, the rounds, a word. -/
set_option linter.unusedSimpArgs false
set_option linter.unusedVariables false
set_option maxRecDepth 100000
namespace Go.Proofs.YteijllklpneagaaGreatDoor
open Go.RowKit
abbrev sipC (s : Sip) : Array Value := #[.int .u64 s.a, .int .u64 s.b, .int .u64 s.c, .int .u64 s.d]
set_option maxHeartbeats 400000 in
theorem rot13 (x : Int) (w : World) : Calls Tryz.prog 273 #[.int .u64 x, .int .i64 13] w fun e w' => e = .returned (.int .u64 (rotP 8192 2251799813685248 x)) ∧ w = w' := by
  have hb : bits .and .u64 13 63 = 13 := by decide +kernel
  go_enter Tryz.func273, Tryz.ntmps273
  go_wp2
  go_ret
  exact ⟨rfl, rfl⟩
set_option maxHeartbeats 400000 in
theorem rot32 (x : Int) (w : World) : Calls Tryz.prog 273 #[.int .u64 x, .int .i64 32] w fun e w' => e = .returned (.int .u64 (rotP 4294967296 4294967296 x)) ∧ w = w' := by
  have hb : bits .and .u64 32 63 = 32 := by decide +kernel
  go_enter Tryz.func273, Tryz.ntmps273
  go_wp2
  go_ret
  exact ⟨rfl, rfl⟩
set_option maxHeartbeats 400000 in
theorem rot16 (x : Int) (w : World) : Calls Tryz.prog 273 #[.int .u64 x, .int .i64 16] w fun e w' => e = .returned (.int .u64 (rotP 65536 281474976710656 x)) ∧ w = w' := by
  have hb : bits .and .u64 16 63 = 16 := by decide +kernel
  go_enter Tryz.func273, Tryz.ntmps273
  go_wp2
  go_ret
  exact ⟨rfl, rfl⟩
set_option maxHeartbeats 400000 in
theorem rot21 (x : Int) (w : World) : Calls Tryz.prog 273 #[.int .u64 x, .int .i64 21] w fun e w' => e = .returned (.int .u64 (rotP 2097152 8796093022208 x)) ∧ w = w' := by
  have hb : bits .and .u64 21 63 = 21 := by decide +kernel
  go_enter Tryz.func273, Tryz.ntmps273
  go_wp2
  go_ret
  exact ⟨rfl, rfl⟩
set_option maxHeartbeats 400000 in
theorem rot17 (x : Int) (w : World) : Calls Tryz.prog 273 #[.int .u64 x, .int .i64 17] w fun e w' => e = .returned (.int .u64 (rotP 131072 140737488355328 x)) ∧ w = w' := by
  have hb : bits .and .u64 17 63 = 17 := by decide +kernel
  go_enter Tryz.func273, Tryz.ntmps273
  go_wp2
  go_ret
  exact ⟨rfl, rfl⟩
theorem cellsS {w : World} {b : Nat} {x y z u : Value} {t : TypeId} {fr : Nat × Nat} (h : w.heap[b]? = some (.cells #[x, y, z, u] t fr)) :
    w.cell? ⟨b, 0, none⟩ = some x ∧ w.cell? ⟨b, 1, none⟩ = some y ∧ w.cell? ⟨b, 2, none⟩ = some z ∧ w.cell? ⟨b, 3, none⟩ = some u := by
  refine ⟨?_, ?_, ?_, ?_⟩ <;> (rw [cell_of_row _ _ _ _ _ _ h]; rfl)
theorem freeS {w : World} {b : Nat} {cs : Array Value} {t : TypeId} (h : w.heap[b]? = some (.cells cs t (0, 0))) :
    w.frozen? ⟨b, 0, none⟩ = false ∧ w.frozen? ⟨b, 1, none⟩ = false ∧ w.frozen? ⟨b, 2, none⟩ = false ∧ w.frozen? ⟨b, 3, none⟩ = false := ⟨frozen_of_row _ _ _ _ _ h, frozen_of_row _ _ _ _ _ h, frozen_of_row _ _ _ _ _ h, frozen_of_row _ _ _ _ _ h⟩
/-- s lies in block b; all but that block is as it was -/
def SipAt (w : World) (b : Nat) (s : Sip) (w' : World) : Prop := w'.heap[b]? = some (.cells (sipC s) 240 (0, 0)) ∧ w.grownBy w' (some b)
theorem SipAt.read {w w' : World} {b : Nat} {s : Sip} (h : SipAt w b s w') : (w'.cell? ⟨b, 0, none⟩ = some (.int .u64 s.a) ∧ w'.cell? ⟨b, 1, none⟩ = some (.int .u64 s.b) ∧ w'.cell? ⟨b, 2, none⟩ = some (.int .u64 s.c) ∧ w'.cell? ⟨b, 3, none⟩ = some (.int .u64 s.d)) ∧
    (w'.frozen? ⟨b, 0, none⟩ = false ∧ w'.frozen? ⟨b, 1, none⟩ = false ∧ w'.frozen? ⟨b, 2, none⟩ = false ∧ w'.frozen? ⟨b, 3, none⟩ = false) := ⟨cellsS h.1, freeS h.1⟩
theorem SipAt.set {w w' : World} {b i : Nat} {s s' : Sip} {v : Value} {n : Nat} (h : SipAt w b s w') (e : (sipC s).setIfInBounds i v = sipC s') : SipAt w b s' ((w'.drewN n).setCell ⟨b, i, none⟩ v) :=
  ⟨by rw [← e]; exact blk_set h.1, grown_set (grown_drewN h.2 n)⟩
/-- .. behind a region -/
theorem exitk_world {K : Act → World → Prop} {Q : Exit → Act → World → Prop} {x : Exit} {a : Act} {W : World} (h : ∀ w', w' = W → Exit.then K Q x a w') : Exit.then K Q x a W := h W rfl
def rndI : Nat → Sip → Sip
  | 0, s => s
  | n + 1, s => rndP (rndI n s)
set_option maxHeartbeats 4000000 in
theorem rounds_any (b : Nat) (s : Sip) (n : Nat) (w : World) (hb : w.heap[b]? = some (.cells (sipC s) 240 (0, 0))) (hn : n ≤ 4) :
    Calls Tryz.prog 235 #[.pointer (some ⟨b, 0, none⟩), .int .i64 n] w fun e w' => e = .returned (.tuple #[]) ∧ SipAt w b (rndI n s) w' := by
  have HB := Lib.hid hb; clear hb
  go_enter Tryz.func235, Tryz.ntmps235
  go_wp2_with fail
  go_loopw [5] (fun i wr => ∃ k : Nat, i = .int .i64 k ∧ k ≤ n ∧ SipAt w b (rndI k s) wr) (fun i _ => n - (intOf i).toNat)
  case atStart => exact ⟨0, rfl, by omega, HB.out, grown_refl _ _⟩
  case round =>
    obtain ⟨k, rfl, hk, hs⟩ := hrel
    have HS := Lib.hid hs; clear hs
    by_cases hlt : k < n
    · have hq : decide ((k : Int) < n) = true := by simp; omega
      obtain ⟨s0, hs0⟩ : ∃ s0, rndI k s = s0 := ⟨_, rfl⟩
      rw [hs0] at HS
      obtain ⟨a, b0, c, d⟩ := s0
      obtain ⟨⟨c0, c1, c2, c3⟩, f0, f1, f2, f3⟩ := HS.out.read
      dsimp only at c0 c1 c2 c3
      go_wp2_with fail
      refine wp_region_noPanic ?_
      refine wp_region_k (by kernel_rfl) (fun w' => w'.cell? ⟨b, 0, none⟩ = some (.int .u64 a) ∧ w'.cell? ⟨b, 1, none⟩ = some (.int .u64 b0) ∧ w'.cell? ⟨b, 2, none⟩ = some (.int .u64 c) ∧ w'.cell? ⟨b, 3, none⟩ = some (.int .u64 d) ∧ w'.frozen? ⟨b, 0, none⟩ = false ∧ w'.frozen? ⟨b, 1, none⟩ = false ∧ w'.frozen? ⟨b, 2, none⟩ = false ∧ w'.frozen? ⟨b, 3, none⟩ = false) 11 (⟨c0, c1, c2, c3, f0, f1, f2, f3⟩) (fun hHeld => ?_)
      refine wpAnyK_take (i := 0) (v := ?_) rfl (by kernel_rfl) (by kernel_rfl) (by kernel_rfl) (by kernel_rfl) (fun _ _ _ h => h) (Or.inl ⟨by rfl, ?_⟩) (by assumption) ?_
      rotate_left 1
      · (intro wS hSw; (try dsimp only at hSw); go_simp; try with_reducible rfl)
      try simp only [List.getElem_toArray, List.getElem_cons_zero, List.getElem_cons_succ, Act.put, List.setIfInBounds_toArray, List.set_cons_zero, List.set_cons_succ]
      refine wpAnyK_take (i := 1) (v := ?_) rfl (by kernel_rfl) (by kernel_rfl) (by kernel_rfl) (by kernel_rfl) (fun _ _ _ h => h) (Or.inl ⟨by rfl, ?_⟩) (by assumption) ?_
      rotate_left 1
      · (intro wS hSw; (try dsimp only at hSw); go_simp; try with_reducible rfl)
      try simp only [List.getElem_toArray, List.getElem_cons_zero, List.getElem_cons_succ, Act.put, List.setIfInBounds_toArray, List.set_cons_zero, List.set_cons_succ]
      refine wpAnyK_take (i := 2) (v := ?_) rfl (by kernel_rfl) (by kernel_rfl) (by kernel_rfl) (by kernel_rfl) (fun _ _ _ h => h) (Or.inl ⟨by rfl, ?_⟩) (by assumption) ?_
      rotate_left 1
      · (intro wS hSw; (try dsimp only at hSw); go_simp; try with_reducible rfl)
      try simp only [List.getElem_toArray, List.getElem_cons_zero, List.getElem_cons_succ, Act.put, List.setIfInBounds_toArray, List.set_cons_zero, List.set_cons_succ]
      refine wpAnyK_take (i := 3) (v := ?_) rfl (by kernel_rfl) (by kernel_rfl) (by kernel_rfl) (by kernel_rfl) (fun _ _ _ h => h) (Or.inl ⟨by rfl, ?_⟩) (by assumption) ?_
      rotate_left 1
      · (intro wS hSw; (try dsimp only at hSw); go_simp; try with_reducible rfl)
      try simp only [List.getElem_toArray, List.getElem_cons_zero, List.getElem_cons_succ, Act.put, List.setIfInBounds_toArray, List.set_cons_zero, List.set_cons_succ]
      refine wpAnyK_take (i := 4) (v := ?_) rfl (by kernel_rfl) (by kernel_rfl) (by kernel_rfl) (by kernel_rfl) (fun _ _ _ h => h) (Or.inl ⟨by rfl, ?_⟩) (by assumption) ?_
      rotate_left 1
      · (intro wS hSw; (try dsimp only at hSw); go_simp; try with_reducible rfl)
      try simp only [List.getElem_toArray, List.getElem_cons_zero, List.getElem_cons_succ, Act.put, List.setIfInBounds_toArray, List.set_cons_zero, List.set_cons_succ]
      refine wpAnyK_take (i := 5) (v := ?_) rfl (by kernel_rfl) (by kernel_rfl) (by kernel_rfl) (by kernel_rfl) (fun _ _ _ h => h) (Or.inl ⟨by rfl, ?_⟩) (by assumption) ?_
      rotate_left 1
      · (intro wS hSw; (try dsimp only at hSw); go_simp; try with_reducible rfl)
      try simp only [List.getElem_toArray, List.getElem_cons_zero, List.getElem_cons_succ, Act.put, List.setIfInBounds_toArray, List.set_cons_zero, List.set_cons_succ]
      refine wpAnyK_take (i := 6) (v := ?_) rfl (by kernel_rfl) (by kernel_rfl) (by kernel_rfl) (by kernel_rfl) (fun _ _ _ h => h) (Or.inl ⟨by rfl, ?_⟩) (by assumption) ?_
      rotate_left 1
      · (intro wS hSw; (try dsimp only at hSw); go_simp; try with_reducible rfl)
      try simp only [List.getElem_toArray, List.getElem_cons_zero, List.getElem_cons_succ, Act.put, List.setIfInBounds_toArray, List.set_cons_zero, List.set_cons_succ]
      refine wpAnyK_take (i := 7) (v := ?_) rfl (by kernel_rfl) (by kernel_rfl) (by kernel_rfl) (by kernel_rfl) (fun _ _ _ h => h) (Or.inl ⟨by rfl, ?_⟩) (by assumption) ?_
      rotate_left 1
      · (intro wS hSw; (try dsimp only at hSw); go_simp; try with_reducible rfl)
      try simp only [List.getElem_toArray, List.getElem_cons_zero, List.getElem_cons_succ, Act.put, List.setIfInBounds_toArray, List.set_cons_zero, List.set_cons_succ]
      refine wpAnyK_take (i := 8) (v := ?_) rfl (by kernel_rfl) (by kernel_rfl) (by kernel_rfl) (by kernel_rfl) (fun _ _ _ h => h) (Or.inl ⟨by rfl, ?_⟩) (by assumption) ?_
      rotate_left 1
      · (intro wS hSw; (try dsimp only at hSw); go_simp; try with_reducible rfl)
      try simp only [List.getElem_toArray, List.getElem_cons_zero, List.getElem_cons_succ, Act.put, List.setIfInBounds_toArray, List.set_cons_zero, List.set_cons_succ]
      refine wpAnyK_take (i := 9) (v := ?_) rfl (by kernel_rfl) (by kernel_rfl) (by kernel_rfl) (by kernel_rfl) (fun _ _ _ h => h) (Or.inl ⟨by rfl, ?_⟩) (by assumption) ?_
      rotate_left 1
      · (intro wS hSw; (try dsimp only at hSw); go_simp; try with_reducible rfl)
      try simp only [List.getElem_toArray, List.getElem_cons_zero, List.getElem_cons_succ, Act.put, List.setIfInBounds_toArray, List.set_cons_zero, List.set_cons_succ]
      refine wpAnyK_take (i := 10) (v := ?_) rfl (by kernel_rfl) (by kernel_rfl) (by kernel_rfl) (by kernel_rfl) (fun _ _ _ h => h) (Or.inl ⟨by rfl, ?_⟩) (by assumption) ?_
      rotate_left 1
      · (intro wS hSw; (try dsimp only at hSw); go_simp; try with_reducible rfl)
      try simp only [List.getElem_toArray, List.getElem_cons_zero, List.getElem_cons_succ, Act.put, List.setIfInBounds_toArray, List.set_cons_zero, List.set_cons_succ]
      refine wpAnyK_ready (rs := [11]) (by kernel_rfl) (by simp) ?_
      refine AllReadyK.cons rfl (fun K hK => ?_) AllReadyK.nil
      go_simp
      refine shutK_off hK (by decide) ?_
      clear hK K
      try simp only [List.getElem_toArray, List.getElem_cons_zero, List.getElem_cons_succ, Act.put, List.setIfInBounds_toArray, List.set_cons_zero, List.set_cons_succ]
      refine wpAnyK_done (by kernel_rfl) ?_ _
      refine NoPanic.normal ?_
      first | refine wp_world (fun w1 hw1 => ?_) | refine exitk_world (fun w1 hw1 => ?_)
      have hs : SipAt w b ⟨ad a b0, b0, c, d⟩ w1 := by rw [hw1]; first | exact HS.out.set (n := 0) rfl | exact HS.out.set (n := 1) rfl
      obtain ⟨x1, hx1⟩ : ∃ x, ad a b0 = x := ⟨_, rfl⟩
      rw [hx1] at hs
      have Hx1 := Lib.hid hx1; clear hx1
      clear hw1 HS c0 c1 c2 c3 f0 f1 f2 f3; have HS := Lib.hid hs; clear hs
      obtain ⟨⟨c0, c1, c2, c3⟩, f0, f1, f2, f3⟩ := HS.out.read
      dsimp only at c0 c1 c2 c3
      go_wp2_with fail
      refine wp_region_noPanic ?_
      refine wp_region_k (by kernel_rfl) (fun w' => w'.cell? ⟨b, 0, none⟩ = some (.int .u64 x1) ∧ w'.cell? ⟨b, 1, none⟩ = some (.int .u64 b0) ∧ w'.cell? ⟨b, 2, none⟩ = some (.int .u64 c) ∧ w'.cell? ⟨b, 3, none⟩ = some (.int .u64 d) ∧ w'.frozen? ⟨b, 0, none⟩ = false ∧ w'.frozen? ⟨b, 1, none⟩ = false ∧ w'.frozen? ⟨b, 2, none⟩ = false ∧ w'.frozen? ⟨b, 3, none⟩ = false) 13 (⟨c0, c1, c2, c3, f0, f1, f2, f3⟩) (fun hHeld => ?_)
      refine wpAnyK_take (i := 0) (v := ?_) rfl (by kernel_rfl) (by kernel_rfl) (by kernel_rfl) (by kernel_rfl) (fun _ _ _ h => h) (Or.inl ⟨by rfl, ?_⟩) (by assumption) ?_
      rotate_left 1
      · (intro wS hSw; (try dsimp only at hSw); go_simp; try with_reducible rfl)
      try simp only [List.getElem_toArray, List.getElem_cons_zero, List.getElem_cons_succ, Act.put, List.setIfInBounds_toArray, List.set_cons_zero, List.set_cons_succ]
      refine wpAnyK_take (i := 1) (v := ?_) rfl (by kernel_rfl) (by kernel_rfl) (by kernel_rfl) (by kernel_rfl) (fun _ _ _ h => h) (Or.inl ⟨by rfl, ?_⟩) (by assumption) ?_
      rotate_left 1
      · (intro wS hSw; (try dsimp only at hSw); go_simp; try with_reducible rfl)
      try simp only [List.getElem_toArray, List.getElem_cons_zero, List.getElem_cons_succ, Act.put, List.setIfInBounds_toArray, List.set_cons_zero, List.set_cons_succ]
      refine wpAnyK_take (i := 2) (v := ?_) rfl (by kernel_rfl) (by kernel_rfl) (by kernel_rfl) (by kernel_rfl) (fun _ _ _ h => h) (Or.inl ⟨by rfl, ?_⟩) (by assumption) ?_
      rotate_left 1
      · (intro wS hSw; (try dsimp only at hSw); go_simp; try with_reducible rfl)
      try simp only [List.getElem_toArray, List.getElem_cons_zero, List.getElem_cons_succ, Act.put, List.setIfInBounds_toArray, List.set_cons_zero, List.set_cons_succ]
      refine wpAnyK_take (i := 3) (v := ?_) rfl (by kernel_rfl) (by kernel_rfl) (by kernel_rfl) (by kernel_rfl) (fun _ _ _ h => h) (Or.inl ⟨by rfl, ?_⟩) (by assumption) ?_
      rotate_left 1
      · (intro wS hSw; (try dsimp only at hSw); go_simp; try with_reducible rfl)
      try simp only [List.getElem_toArray, List.getElem_cons_zero, List.getElem_cons_succ, Act.put, List.setIfInBounds_toArray, List.set_cons_zero, List.set_cons_succ]
      refine wpAnyK_take (i := 4) (v := ?_) rfl (by kernel_rfl) (by kernel_rfl) (by kernel_rfl) (by kernel_rfl) (fun _ _ _ h => h) (Or.inl ⟨by rfl, ?_⟩) (by assumption) ?_
      rotate_left 1
      · (intro wS hSw; (try dsimp only at hSw); go_simp; try with_reducible rfl)
      try simp only [List.getElem_toArray, List.getElem_cons_zero, List.getElem_cons_succ, Act.put, List.setIfInBounds_toArray, List.set_cons_zero, List.set_cons_succ]
      refine wpAnyK_take (i := 6) (v := ?_) rfl (by kernel_rfl) (by kernel_rfl) (by kernel_rfl) (by kernel_rfl) (fun _ _ _ h => h) (Or.inl ⟨by rfl, ?_⟩) (by assumption) ?_
      rotate_left 1
      · (intro wS hSw; (try dsimp only at hSw); go_simp; try with_reducible rfl)
      try simp only [List.getElem_toArray, List.getElem_cons_zero, List.getElem_cons_succ, Act.put, List.setIfInBounds_toArray, List.set_cons_zero, List.set_cons_succ]
      refine wpAnyK_take (i := 7) (v := ?_) rfl (by kernel_rfl) (by kernel_rfl) (by kernel_rfl) (by kernel_rfl) (fun _ _ _ h => h) (Or.inl ⟨by rfl, ?_⟩) (by assumption) ?_
      rotate_left 1
      · (intro wS hSw; (try dsimp only at hSw); go_simp; try with_reducible rfl)
      try simp only [List.getElem_toArray, List.getElem_cons_zero, List.getElem_cons_succ, Act.put, List.setIfInBounds_toArray, List.set_cons_zero, List.set_cons_succ]
      refine wpAnyK_take (i := 8) (v := ?_) rfl (by kernel_rfl) (by kernel_rfl) (by kernel_rfl) (by kernel_rfl) (fun _ _ _ h => h) (Or.inl ⟨by rfl, ?_⟩) (by assumption) ?_
      rotate_left 1
      · (intro wS hSw; (try dsimp only at hSw); go_simp; try with_reducible rfl)
      try simp only [List.getElem_toArray, List.getElem_cons_zero, List.getElem_cons_succ, Act.put, List.setIfInBounds_toArray, List.set_cons_zero, List.set_cons_succ]
      refine wpAnyK_take (i := 9) (v := ?_) rfl (by kernel_rfl) (by kernel_rfl) (by kernel_rfl) (by kernel_rfl) (fun _ _ _ h => h) (Or.inl ⟨by rfl, ?_⟩) (by assumption) ?_
      rotate_left 1
      · (intro wS hSw; (try dsimp only at hSw); go_simp; try with_reducible rfl)
      try simp only [List.getElem_toArray, List.getElem_cons_zero, List.getElem_cons_succ, Act.put, List.setIfInBounds_toArray, List.set_cons_zero, List.set_cons_succ]
      refine wpAnyK_ready (rs := [5]) (by kernel_rfl) (by simp) ?_
      refine AllReadyK.cons rfl (fun K hK => ?_) AllReadyK.nil
      go_simp
      refine (rot13 _ _).mono ?_; rintro e wq ⟨rfl, rfl⟩
      refine shutK hK (⟨c0, c1, c2, c3, f0, f1, f2, f3⟩) (fun hHeld => ?_)
      clear hK K
      try simp only [List.getElem_toArray, List.getElem_cons_zero, List.getElem_cons_succ, Act.put, List.setIfInBounds_toArray, List.set_cons_zero, List.set_cons_succ]
      refine wpAnyK_take (i := 10) (v := ?_) rfl (by kernel_rfl) (by kernel_rfl) (by kernel_rfl) (by kernel_rfl) (fun _ _ _ h => h) (Or.inl ⟨by rfl, ?_⟩) (by assumption) ?_
      rotate_left 1
      · (intro wS hSw; (try dsimp only at hSw); go_simp; try with_reducible rfl)
      try simp only [List.getElem_toArray, List.getElem_cons_zero, List.getElem_cons_succ, Act.put, List.setIfInBounds_toArray, List.set_cons_zero, List.set_cons_succ]
      refine wpAnyK_take (i := 11) (v := ?_) rfl (by kernel_rfl) (by kernel_rfl) (by kernel_rfl) (by kernel_rfl) (fun _ _ _ h => h) (Or.inl ⟨by rfl, ?_⟩) (by assumption) ?_
      rotate_left 1
      · (intro wS hSw; (try dsimp only at hSw); go_simp; try with_reducible rfl)
      try simp only [List.getElem_toArray, List.getElem_cons_zero, List.getElem_cons_succ, Act.put, List.setIfInBounds_toArray, List.set_cons_zero, List.set_cons_succ]
      refine wpAnyK_take (i := 12) (v := ?_) rfl (by kernel_rfl) (by kernel_rfl) (by kernel_rfl) (by kernel_rfl) (fun _ _ _ h => h) (Or.inl ⟨by rfl, ?_⟩) (by assumption) ?_
      rotate_left 1
      · (intro wS hSw; (try dsimp only at hSw); go_simp; try with_reducible rfl)
      try simp only [List.getElem_toArray, List.getElem_cons_zero, List.getElem_cons_succ, Act.put, List.setIfInBounds_toArray, List.set_cons_zero, List.set_cons_succ]
      refine wpAnyK_ready (rs := [13]) (by kernel_rfl) (by simp) ?_
      refine AllReadyK.cons rfl (fun K hK => ?_) AllReadyK.nil
      go_simp
      refine shutK_off hK (by decide) ?_
      clear hK K
      try simp only [List.getElem_toArray, List.getElem_cons_zero, List.getElem_cons_succ, Act.put, List.setIfInBounds_toArray, List.set_cons_zero, List.set_cons_succ]
      refine wpAnyK_done (by kernel_rfl) ?_ _
      refine NoPanic.normal ?_
      first | refine wp_world (fun w1 hw1 => ?_) | refine exitk_world (fun w1 hw1 => ?_)
      have hs : SipAt w b ⟨x1, xr (rotP 8192 2251799813685248 b0) x1, c, d⟩ w1 := by rw [hw1]; first | exact HS.out.set (n := 0) rfl | exact HS.out.set (n := 1) rfl
      obtain ⟨x2, hx2⟩ : ∃ x, xr (rotP 8192 2251799813685248 b0) x1 = x := ⟨_, rfl⟩
      rw [hx2] at hs
      have Hx2 := Lib.hid hx2; clear hx2
      clear hw1 HS c0 c1 c2 c3 f0 f1 f2 f3; have HS := Lib.hid hs; clear hs
      obtain ⟨⟨c0, c1, c2, c3⟩, f0, f1, f2, f3⟩ := HS.out.read
      dsimp only at c0 c1 c2 c3
      go_wp2_with fail
      refine (rot32 _ _).mono ?_; rintro e wq ⟨rfl, rfl⟩
      go_wp2_with fail
      first | refine wp_world (fun w1 hw1 => ?_) | refine exitk_world (fun w1 hw1 => ?_)
      have hs : SipAt w b ⟨rotP 4294967296 4294967296 x1, x2, c, d⟩ w1 := by rw [hw1]; first | exact HS.out.set (n := 0) rfl | exact HS.out.set (n := 1) rfl
      obtain ⟨x3, hx3⟩ : ∃ x, rotP 4294967296 4294967296 x1 = x := ⟨_, rfl⟩
      rw [hx3] at hs
      have Hx3 := Lib.hid hx3; clear hx3
      clear hw1 HS c0 c1 c2 c3 f0 f1 f2 f3; have HS := Lib.hid hs; clear hs
      obtain ⟨⟨c0, c1, c2, c3⟩, f0, f1, f2, f3⟩ := HS.out.read
      dsimp only at c0 c1 c2 c3
      go_wp2_with fail
      refine wp_region_noPanic ?_
      refine wp_region_k (by kernel_rfl) (fun w' => w'.cell? ⟨b, 0, none⟩ = some (.int .u64 x3) ∧ w'.cell? ⟨b, 1, none⟩ = some (.int .u64 x2) ∧ w'.cell? ⟨b, 2, none⟩ = some (.int .u64 c) ∧ w'.cell? ⟨b, 3, none⟩ = some (.int .u64 d) ∧ w'.frozen? ⟨b, 0, none⟩ = false ∧ w'.frozen? ⟨b, 1, none⟩ = false ∧ w'.frozen? ⟨b, 2, none⟩ = false ∧ w'.frozen? ⟨b, 3, none⟩ = false) 11 (⟨c0, c1, c2, c3, f0, f1, f2, f3⟩) (fun hHeld => ?_)
      refine wpAnyK_take (i := 0) (v := ?_) rfl (by kernel_rfl) (by kernel_rfl) (by kernel_rfl) (by kernel_rfl) (fun _ _ _ h => h) (Or.inl ⟨by rfl, ?_⟩) (by assumption) ?_
      rotate_left 1
      · (intro wS hSw; (try dsimp only at hSw); go_simp; try with_reducible rfl)
      try simp only [List.getElem_toArray, List.getElem_cons_zero, List.getElem_cons_succ, Act.put, List.setIfInBounds_toArray, List.set_cons_zero, List.set_cons_succ]
      refine wpAnyK_take (i := 1) (v := ?_) rfl (by kernel_rfl) (by kernel_rfl) (by kernel_rfl) (by kernel_rfl) (fun _ _ _ h => h) (Or.inl ⟨by rfl, ?_⟩) (by assumption) ?_
      rotate_left 1
      · (intro wS hSw; (try dsimp only at hSw); go_simp; try with_reducible rfl)
      try simp only [List.getElem_toArray, List.getElem_cons_zero, List.getElem_cons_succ, Act.put, List.setIfInBounds_toArray, List.set_cons_zero, List.set_cons_succ]
      refine wpAnyK_take (i := 2) (v := ?_) rfl (by kernel_rfl) (by kernel_rfl) (by kernel_rfl) (by kernel_rfl) (fun _ _ _ h => h) (Or.inl ⟨by rfl, ?_⟩) (by assumption) ?_
      rotate_left 1
      · (intro wS hSw; (try dsimp only at hSw); go_simp; try with_reducible rfl)
      try simp only [List.getElem_toArray, List.getElem_cons_zero, List.getElem_cons_succ, Act.put, List.setIfInBounds_toArray, List.set_cons_zero, List.set_cons_succ]
      refine wpAnyK_take (i := 3) (v := ?_) rfl (by kernel_rfl) (by kernel_rfl) (by kernel_rfl) (by kernel_rfl) (fun _ _ _ h => h) (Or.inl ⟨by rfl, ?_⟩) (by assumption) ?_
      rotate_left 1
      · (intro wS hSw; (try dsimp only at hSw); go_simp; try with_reducible rfl)
      try simp only [List.getElem_toArray, List.getElem_cons_zero, List.getElem_cons_succ, Act.put, List.setIfInBounds_toArray, List.set_cons_zero, List.set_cons_succ]
      refine wpAnyK_take (i := 4) (v := ?_) rfl (by kernel_rfl) (by kernel_rfl) (by kernel_rfl) (by kernel_rfl) (fun _ _ _ h => h) (Or.inl ⟨by rfl, ?_⟩) (by assumption) ?_
      rotate_left 1
      · (intro wS hSw; (try dsimp only at hSw); go_simp; try with_reducible rfl)
      try simp only [List.getElem_toArray, List.getElem_cons_zero, List.getElem_cons_succ, Act.put, List.setIfInBounds_toArray, List.set_cons_zero, List.set_cons_succ]
      refine wpAnyK_take (i := 5) (v := ?_) rfl (by kernel_rfl) (by kernel_rfl) (by kernel_rfl) (by kernel_rfl) (fun _ _ _ h => h) (Or.inl ⟨by rfl, ?_⟩) (by assumption) ?_
      rotate_left 1
      · (intro wS hSw; (try dsimp only at hSw); go_simp; try with_reducible rfl)
      try simp only [List.getElem_toArray, List.getElem_cons_zero, List.getElem_cons_succ, Act.put, List.setIfInBounds_toArray, List.set_cons_zero, List.set_cons_succ]
      refine wpAnyK_take (i := 6) (v := ?_) rfl (by kernel_rfl) (by kernel_rfl) (by kernel_rfl) (by kernel_rfl) (fun _ _ _ h => h) (Or.inl ⟨by rfl, ?_⟩) (by assumption) ?_
      rotate_left 1
      · (intro wS hSw; (try dsimp only at hSw); go_simp; try with_reducible rfl)
      try simp only [List.getElem_toArray, List.getElem_cons_zero, List.getElem_cons_succ, Act.put, List.setIfInBounds_toArray, List.set_cons_zero, List.set_cons_succ]
      refine wpAnyK_take (i := 7) (v := ?_) rfl (by kernel_rfl) (by kernel_rfl) (by kernel_rfl) (by kernel_rfl) (fun _ _ _ h => h) (Or.inl ⟨by rfl, ?_⟩) (by assumption) ?_
      rotate_left 1
      · (intro wS hSw; (try dsimp only at hSw); go_simp; try with_reducible rfl)
      try simp only [List.getElem_toArray, List.getElem_cons_zero, List.getElem_cons_succ, Act.put, List.setIfInBounds_toArray, List.set_cons_zero, List.set_cons_succ]
      refine wpAnyK_take (i := 8) (v := ?_) rfl (by kernel_rfl) (by kernel_rfl) (by kernel_rfl) (by kernel_rfl) (fun _ _ _ h => h) (Or.inl ⟨by rfl, ?_⟩) (by assumption) ?_
      rotate_left 1
      · (intro wS hSw; (try dsimp only at hSw); go_simp; try with_reducible rfl)
      try simp only [List.getElem_toArray, List.getElem_cons_zero, List.getElem_cons_succ, Act.put, List.setIfInBounds_toArray, List.set_cons_zero, List.set_cons_succ]
      refine wpAnyK_take (i := 9) (v := ?_) rfl (by kernel_rfl) (by kernel_rfl) (by kernel_rfl) (by kernel_rfl) (fun _ _ _ h => h) (Or.inl ⟨by rfl, ?_⟩) (by assumption) ?_
      rotate_left 1
      · (intro wS hSw; (try dsimp only at hSw); go_simp; try with_reducible rfl)
      try simp only [List.getElem_toArray, List.getElem_cons_zero, List.getElem_cons_succ, Act.put, List.setIfInBounds_toArray, List.set_cons_zero, List.set_cons_succ]
      refine wpAnyK_take (i := 10) (v := ?_) rfl (by kernel_rfl) (by kernel_rfl) (by kernel_rfl) (by kernel_rfl) (fun _ _ _ h => h) (Or.inl ⟨by rfl, ?_⟩) (by assumption) ?_
      rotate_left 1
      · (intro wS hSw; (try dsimp only at hSw); go_simp; try with_reducible rfl)
      try simp only [List.getElem_toArray, List.getElem_cons_zero, List.getElem_cons_succ, Act.put, List.setIfInBounds_toArray, List.set_cons_zero, List.set_cons_succ]
      refine wpAnyK_ready (rs := [11]) (by kernel_rfl) (by simp) ?_
      refine AllReadyK.cons rfl (fun K hK => ?_) AllReadyK.nil
      go_simp
      refine shutK_off hK (by decide) ?_
      clear hK K
      try simp only [List.getElem_toArray, List.getElem_cons_zero, List.getElem_cons_succ, Act.put, List.setIfInBounds_toArray, List.set_cons_zero, List.set_cons_succ]
      refine wpAnyK_done (by kernel_rfl) ?_ _
      refine NoPanic.normal ?_
      first | refine wp_world (fun w1 hw1 => ?_) | refine exitk_world (fun w1 hw1 => ?_)
      have hs : SipAt w b ⟨x3, x2, ad c d, d⟩ w1 := by rw [hw1]; first | exact HS.out.set (n := 0) rfl | exact HS.out.set (n := 1) rfl
      obtain ⟨x4, hx4⟩ : ∃ x, ad c d = x := ⟨_, rfl⟩
      rw [hx4] at hs
      have Hx4 := Lib.hid hx4; clear hx4
      clear hw1 HS c0 c1 c2 c3 f0 f1 f2 f3; have HS := Lib.hid hs; clear hs
      obtain ⟨⟨c0, c1, c2, c3⟩, f0, f1, f2, f3⟩ := HS.out.read
      dsimp only at c0 c1 c2 c3
      go_wp2_with fail
      refine wp_region_noPanic ?_
      refine wp_region_k (by kernel_rfl) (fun w' => w'.cell? ⟨b, 0, none⟩ = some (.int .u64 x3) ∧ w'.cell? ⟨b, 1, none⟩ = some (.int .u64 x2) ∧ w'.cell? ⟨b, 2, none⟩ = some (.int .u64 x4) ∧ w'.cell? ⟨b, 3, none⟩ = some (.int .u64 d) ∧ w'.frozen? ⟨b, 0, none⟩ = false ∧ w'.frozen? ⟨b, 1, none⟩ = false ∧ w'.frozen? ⟨b, 2, none⟩ = false ∧ w'.frozen? ⟨b, 3, none⟩ = false) 13 (⟨c0, c1, c2, c3, f0, f1, f2, f3⟩) (fun hHeld => ?_)
      refine wpAnyK_take (i := 0) (v := ?_) rfl (by kernel_rfl) (by kernel_rfl) (by kernel_rfl) (by kernel_rfl) (fun _ _ _ h => h) (Or.inl ⟨by rfl, ?_⟩) (by assumption) ?_
      rotate_left 1
      · (intro wS hSw; (try dsimp only at hSw); go_simp; try with_reducible rfl)
      try simp only [List.getElem_toArray, List.getElem_cons_zero, List.getElem_cons_succ, Act.put, List.setIfInBounds_toArray, List.set_cons_zero, List.set_cons_succ]
      refine wpAnyK_take (i := 1) (v := ?_) rfl (by kernel_rfl) (by kernel_rfl) (by kernel_rfl) (by kernel_rfl) (fun _ _ _ h => h) (Or.inl ⟨by rfl, ?_⟩) (by assumption) ?_
      rotate_left 1
      · (intro wS hSw; (try dsimp only at hSw); go_simp; try with_reducible rfl)
      try simp only [List.getElem_toArray, List.getElem_cons_zero, List.getElem_cons_succ, Act.put, List.setIfInBounds_toArray, List.set_cons_zero, List.set_cons_succ]
      refine wpAnyK_take (i := 2) (v := ?_) rfl (by kernel_rfl) (by kernel_rfl) (by kernel_rfl) (by kernel_rfl) (fun _ _ _ h => h) (Or.inl ⟨by rfl, ?_⟩) (by assumption) ?_
      rotate_left 1
      · (intro wS hSw; (try dsimp only at hSw); go_simp; try with_reducible rfl)
      try simp only [List.getElem_toArray, List.getElem_cons_zero, List.getElem_cons_succ, Act.put, List.setIfInBounds_toArray, List.set_cons_zero, List.set_cons_succ]
      refine wpAnyK_take (i := 3) (v := ?_) rfl (by kernel_rfl) (by kernel_rfl) (by kernel_rfl) (by kernel_rfl) (fun _ _ _ h => h) (Or.inl ⟨by rfl, ?_⟩) (by assumption) ?_
      rotate_left 1
      · (intro wS hSw; (try dsimp only at hSw); go_simp; try with_reducible rfl)
      try simp only [List.getElem_toArray, List.getElem_cons_zero, List.getElem_cons_succ, Act.put, List.setIfInBounds_toArray, List.set_cons_zero, List.set_cons_succ]
      refine wpAnyK_take (i := 4) (v := ?_) rfl (by kernel_rfl) (by kernel_rfl) (by kernel_rfl) (by kernel_rfl) (fun _ _ _ h => h) (Or.inl ⟨by rfl, ?_⟩) (by assumption) ?_
      rotate_left 1
      · (intro wS hSw; (try dsimp only at hSw); go_simp; try with_reducible rfl)
      try simp only [List.getElem_toArray, List.getElem_cons_zero, List.getElem_cons_succ, Act.put, List.setIfInBounds_toArray, List.set_cons_zero, List.set_cons_succ]
      refine wpAnyK_take (i := 6) (v := ?_) rfl (by kernel_rfl) (by kernel_rfl) (by kernel_rfl) (by kernel_rfl) (fun _ _ _ h => h) (Or.inl ⟨by rfl, ?_⟩) (by assumption) ?_
      rotate_left 1
      · (intro wS hSw; (try dsimp only at hSw); go_simp; try with_reducible rfl)
      try simp only [List.getElem_toArray, List.getElem_cons_zero, List.getElem_cons_succ, Act.put, List.setIfInBounds_toArray, List.set_cons_zero, List.set_cons_succ]
      refine wpAnyK_take (i := 7) (v := ?_) rfl (by kernel_rfl) (by kernel_rfl) (by kernel_rfl) (by kernel_rfl) (fun _ _ _ h => h) (Or.inl ⟨by rfl, ?_⟩) (by assumption) ?_
      rotate_left 1
      · (intro wS hSw; (try dsimp only at hSw); go_simp; try with_reducible rfl)
      try simp only [List.getElem_toArray, List.getElem_cons_zero, List.getElem_cons_succ, Act.put, List.setIfInBounds_toArray, List.set_cons_zero, List.set_cons_succ]
      refine wpAnyK_take (i := 8) (v := ?_) rfl (by kernel_rfl) (by kernel_rfl) (by kernel_rfl) (by kernel_rfl) (fun _ _ _ h => h) (Or.inl ⟨by rfl, ?_⟩) (by assumption) ?_
      rotate_left 1
      · (intro wS hSw; (try dsimp only at hSw); go_simp; try with_reducible rfl)
      try simp only [List.getElem_toArray, List.getElem_cons_zero, List.getElem_cons_succ, Act.put, List.setIfInBounds_toArray, List.set_cons_zero, List.set_cons_succ]
      refine wpAnyK_take (i := 9) (v := ?_) rfl (by kernel_rfl) (by kernel_rfl) (by kernel_rfl) (by kernel_rfl) (fun _ _ _ h => h) (Or.inl ⟨by rfl, ?_⟩) (by assumption) ?_
      rotate_left 1
      · (intro wS hSw; (try dsimp only at hSw); go_simp; try with_reducible rfl)
      try simp only [List.getElem_toArray, List.getElem_cons_zero, List.getElem_cons_succ, Act.put, List.setIfInBounds_toArray, List.set_cons_zero, List.set_cons_succ]
      refine wpAnyK_ready (rs := [5]) (by kernel_rfl) (by simp) ?_
      refine AllReadyK.cons rfl (fun K hK => ?_) AllReadyK.nil
      go_simp
      refine (rot16 _ _).mono ?_; rintro e wq ⟨rfl, rfl⟩
      refine shutK hK (⟨c0, c1, c2, c3, f0, f1, f2, f3⟩) (fun hHeld => ?_)
      clear hK K
      try simp only [List.getElem_toArray, List.getElem_cons_zero, List.getElem_cons_succ, Act.put, List.setIfInBounds_toArray, List.set_cons_zero, List.set_cons_succ]
      refine wpAnyK_take (i := 10) (v := ?_) rfl (by kernel_rfl) (by kernel_rfl) (by kernel_rfl) (by kernel_rfl) (fun _ _ _ h => h) (Or.inl ⟨by rfl, ?_⟩) (by assumption) ?_
      rotate_left 1
      · (intro wS hSw; (try dsimp only at hSw); go_simp; try with_reducible rfl)
      try simp only [List.getElem_toArray, List.getElem_cons_zero, List.getElem_cons_succ, Act.put, List.setIfInBounds_toArray, List.set_cons_zero, List.set_cons_succ]
      refine wpAnyK_take (i := 11) (v := ?_) rfl (by kernel_rfl) (by kernel_rfl) (by kernel_rfl) (by kernel_rfl) (fun _ _ _ h => h) (Or.inl ⟨by rfl, ?_⟩) (by assumption) ?_
      rotate_left 1
      · (intro wS hSw; (try dsimp only at hSw); go_simp; try with_reducible rfl)
      try simp only [List.getElem_toArray, List.getElem_cons_zero, List.getElem_cons_succ, Act.put, List.setIfInBounds_toArray, List.set_cons_zero, List.set_cons_succ]
      refine wpAnyK_take (i := 12) (v := ?_) rfl (by kernel_rfl) (by kernel_rfl) (by kernel_rfl) (by kernel_rfl) (fun _ _ _ h => h) (Or.inl ⟨by rfl, ?_⟩) (by assumption) ?_
      rotate_left 1
      · (intro wS hSw; (try dsimp only at hSw); go_simp; try with_reducible rfl)
      try simp only [List.getElem_toArray, List.getElem_cons_zero, List.getElem_cons_succ, Act.put, List.setIfInBounds_toArray, List.set_cons_zero, List.set_cons_succ]
      refine wpAnyK_ready (rs := [13]) (by kernel_rfl) (by simp) ?_
      refine AllReadyK.cons rfl (fun K hK => ?_) AllReadyK.nil
      go_simp
      refine shutK_off hK (by decide) ?_
      clear hK K
      try simp only [List.getElem_toArray, List.getElem_cons_zero, List.getElem_cons_succ, Act.put, List.setIfInBounds_toArray, List.set_cons_zero, List.set_cons_succ]
      refine wpAnyK_done (by kernel_rfl) ?_ _
      refine NoPanic.normal ?_
      first | refine wp_world (fun w1 hw1 => ?_) | refine exitk_world (fun w1 hw1 => ?_)
      have hs : SipAt w b ⟨x3, x2, x4, xr (rotP 65536 281474976710656 d) x4⟩ w1 := by rw [hw1]; first | exact HS.out.set (n := 0) rfl | exact HS.out.set (n := 1) rfl
      obtain ⟨x5, hx5⟩ : ∃ x, xr (rotP 65536 281474976710656 d) x4 = x := ⟨_, rfl⟩
      rw [hx5] at hs
      have Hx5 := Lib.hid hx5; clear hx5
      clear hw1 HS c0 c1 c2 c3 f0 f1 f2 f3; have HS := Lib.hid hs; clear hs
      obtain ⟨⟨c0, c1, c2, c3⟩, f0, f1, f2, f3⟩ := HS.out.read
      dsimp only at c0 c1 c2 c3
      go_wp2_with fail
      refine wp_region_noPanic ?_
      refine wp_region_k (by kernel_rfl) (fun w' => w'.cell? ⟨b, 0, none⟩ = some (.int .u64 x3) ∧ w'.cell? ⟨b, 1, none⟩ = some (.int .u64 x2) ∧ w'.cell? ⟨b, 2, none⟩ = some (.int .u64 x4) ∧ w'.cell? ⟨b, 3, none⟩ = some (.int .u64 x5) ∧ w'.frozen? ⟨b, 0, none⟩ = false ∧ w'.frozen? ⟨b, 1, none⟩ = false ∧ w'.frozen? ⟨b, 2, none⟩ = false ∧ w'.frozen? ⟨b, 3, none⟩ = false) 11 (⟨c0, c1, c2, c3, f0, f1, f2, f3⟩) (fun hHeld => ?_)
      refine wpAnyK_take (i := 0) (v := ?_) rfl (by kernel_rfl) (by kernel_rfl) (by kernel_rfl) (by kernel_rfl) (fun _ _ _ h => h) (Or.inl ⟨by rfl, ?_⟩) (by assumption) ?_
      rotate_left 1
      · (intro wS hSw; (try dsimp only at hSw); go_simp; try with_reducible rfl)
      try simp only [List.getElem_toArray, List.getElem_cons_zero, List.getElem_cons_succ, Act.put, List.setIfInBounds_toArray, List.set_cons_zero, List.set_cons_succ]
      refine wpAnyK_take (i := 1) (v := ?_) rfl (by kernel_rfl) (by kernel_rfl) (by kernel_rfl) (by kernel_rfl) (fun _ _ _ h => h) (Or.inl ⟨by rfl, ?_⟩) (by assumption) ?_
      rotate_left 1
      · (intro wS hSw; (try dsimp only at hSw); go_simp; try with_reducible rfl)
      try simp only [List.getElem_toArray, List.getElem_cons_zero, List.getElem_cons_succ, Act.put, List.setIfInBounds_toArray, List.set_cons_zero, List.set_cons_succ]
      refine wpAnyK_take (i := 2) (v := ?_) rfl (by kernel_rfl) (by kernel_rfl) (by kernel_rfl) (by kernel_rfl) (fun _ _ _ h => h) (Or.inl ⟨by rfl, ?_⟩) (by assumption) ?_
      rotate_left 1
      · (intro wS hSw; (try dsimp only at hSw); go_simp; try with_reducible rfl)
      try simp only [List.getElem_toArray, List.getElem_cons_zero, List.getElem_cons_succ, Act.put, List.setIfInBounds_toArray, List.set_cons_zero, List.set_cons_succ]
      refine wpAnyK_take (i := 3) (v := ?_) rfl (by kernel_rfl) (by kernel_rfl) (by kernel_rfl) (by kernel_rfl) (fun _ _ _ h => h) (Or.inl ⟨by rfl, ?_⟩) (by assumption) ?_
      rotate_left 1
      · (intro wS hSw; (try dsimp only at hSw); go_simp; try with_reducible rfl)
      try simp only [List.getElem_toArray, List.getElem_cons_zero, List.getElem_cons_succ, Act.put, List.setIfInBounds_toArray, List.set_cons_zero, List.set_cons_succ]
      refine wpAnyK_take (i := 4) (v := ?_) rfl (by kernel_rfl) (by kernel_rfl) (by kernel_rfl) (by kernel_rfl) (fun _ _ _ h => h) (Or.inl ⟨by rfl, ?_⟩) (by assumption) ?_
      rotate_left 1
      · (intro wS hSw; (try dsimp only at hSw); go_simp; try with_reducible rfl)
      try simp only [List.getElem_toArray, List.getElem_cons_zero, List.getElem_cons_succ, Act.put, List.setIfInBounds_toArray, List.set_cons_zero, List.set_cons_succ]
      refine wpAnyK_take (i := 5) (v := ?_) rfl (by kernel_rfl) (by kernel_rfl) (by kernel_rfl) (by kernel_rfl) (fun _ _ _ h => h) (Or.inl ⟨by rfl, ?_⟩) (by assumption) ?_
      rotate_left 1
      · (intro wS hSw; (try dsimp only at hSw); go_simp; try with_reducible rfl)
      try simp only [List.getElem_toArray, List.getElem_cons_zero, List.getElem_cons_succ, Act.put, List.setIfInBounds_toArray, List.set_cons_zero, List.set_cons_succ]
      refine wpAnyK_take (i := 6) (v := ?_) rfl (by kernel_rfl) (by kernel_rfl) (by kernel_rfl) (by kernel_rfl) (fun _ _ _ h => h) (Or.inl ⟨by rfl, ?_⟩) (by assumption) ?_
      rotate_left 1
      · (intro wS hSw; (try dsimp only at hSw); go_simp; try with_reducible rfl)
      try simp only [List.getElem_toArray, List.getElem_cons_zero, List.getElem_cons_succ, Act.put, List.setIfInBounds_toArray, List.set_cons_zero, List.set_cons_succ]
      refine wpAnyK_take (i := 7) (v := ?_) rfl (by kernel_rfl) (by kernel_rfl) (by kernel_rfl) (by kernel_rfl) (fun _ _ _ h => h) (Or.inl ⟨by rfl, ?_⟩) (by assumption) ?_
      rotate_left 1
      · (intro wS hSw; (try dsimp only at hSw); go_simp; try with_reducible rfl)
      try simp only [List.getElem_toArray, List.getElem_cons_zero, List.getElem_cons_succ, Act.put, List.setIfInBounds_toArray, List.set_cons_zero, List.set_cons_succ]
      refine wpAnyK_take (i := 8) (v := ?_) rfl (by kernel_rfl) (by kernel_rfl) (by kernel_rfl) (by kernel_rfl) (fun _ _ _ h => h) (Or.inl ⟨by rfl, ?_⟩) (by assumption) ?_
      rotate_left 1
      · (intro wS hSw; (try dsimp only at hSw); go_simp; try with_reducible rfl)
      try simp only [List.getElem_toArray, List.getElem_cons_zero, List.getElem_cons_succ, Act.put, List.setIfInBounds_toArray, List.set_cons_zero, List.set_cons_succ]
      refine wpAnyK_take (i := 9) (v := ?_) rfl (by kernel_rfl) (by kernel_rfl) (by kernel_rfl) (by kernel_rfl) (fun _ _ _ h => h) (Or.inl ⟨by rfl, ?_⟩) (by assumption) ?_
      rotate_left 1
      · (intro wS hSw; (try dsimp only at hSw); go_simp; try with_reducible rfl)
      try simp only [List.getElem_toArray, List.getElem_cons_zero, List.getElem_cons_succ, Act.put, List.setIfInBounds_toArray, List.set_cons_zero, List.set_cons_succ]
      refine wpAnyK_take (i := 10) (v := ?_) rfl (by kernel_rfl) (by kernel_rfl) (by kernel_rfl) (by kernel_rfl) (fun _ _ _ h => h) (Or.inl ⟨by rfl, ?_⟩) (by assumption) ?_
      rotate_left 1
      · (intro wS hSw; (try dsimp only at hSw); go_simp; try with_reducible rfl)
      try simp only [List.getElem_toArray, List.getElem_cons_zero, List.getElem_cons_succ, Act.put, List.setIfInBounds_toArray, List.set_cons_zero, List.set_cons_succ]
      refine wpAnyK_ready (rs := [11]) (by kernel_rfl) (by simp) ?_
      refine AllReadyK.cons rfl (fun K hK => ?_) AllReadyK.nil
      go_simp
      refine shutK_off hK (by decide) ?_
      clear hK K
      try simp only [List.getElem_toArray, List.getElem_cons_zero, List.getElem_cons_succ, Act.put, List.setIfInBounds_toArray, List.set_cons_zero, List.set_cons_succ]
      refine wpAnyK_done (by kernel_rfl) ?_ _
      refine NoPanic.normal ?_
      first | refine wp_world (fun w1 hw1 => ?_) | refine exitk_world (fun w1 hw1 => ?_)
      have hs : SipAt w b ⟨ad x3 x5, x2, x4, x5⟩ w1 := by rw [hw1]; first | exact HS.out.set (n := 0) rfl | exact HS.out.set (n := 1) rfl
      obtain ⟨x6, hx6⟩ : ∃ x, ad x3 x5 = x := ⟨_, rfl⟩
      rw [hx6] at hs
      have Hx6 := Lib.hid hx6; clear hx6
      clear hw1 HS c0 c1 c2 c3 f0 f1 f2 f3; have HS := Lib.hid hs; clear hs
      obtain ⟨⟨c0, c1, c2, c3⟩, f0, f1, f2, f3⟩ := HS.out.read
      dsimp only at c0 c1 c2 c3
      go_wp2_with fail
      refine wp_region_noPanic ?_
      refine wp_region_k (by kernel_rfl) (fun w' => w'.cell? ⟨b, 0, none⟩ = some (.int .u64 x6) ∧ w'.cell? ⟨b, 1, none⟩ = some (.int .u64 x2) ∧ w'.cell? ⟨b, 2, none⟩ = some (.int .u64 x4) ∧ w'.cell? ⟨b, 3, none⟩ = some (.int .u64 x5) ∧ w'.frozen? ⟨b, 0, none⟩ = false ∧ w'.frozen? ⟨b, 1, none⟩ = false ∧ w'.frozen? ⟨b, 2, none⟩ = false ∧ w'.frozen? ⟨b, 3, none⟩ = false) 13 (⟨c0, c1, c2, c3, f0, f1, f2, f3⟩) (fun hHeld => ?_)
      refine wpAnyK_take (i := 0) (v := ?_) rfl (by kernel_rfl) (by kernel_rfl) (by kernel_rfl) (by kernel_rfl) (fun _ _ _ h => h) (Or.inl ⟨by rfl, ?_⟩) (by assumption) ?_
      rotate_left 1
      · (intro wS hSw; (try dsimp only at hSw); go_simp; try with_reducible rfl)
      try simp only [List.getElem_toArray, List.getElem_cons_zero, List.getElem_cons_succ, Act.put, List.setIfInBounds_toArray, List.set_cons_zero, List.set_cons_succ]
      refine wpAnyK_take (i := 1) (v := ?_) rfl (by kernel_rfl) (by kernel_rfl) (by kernel_rfl) (by kernel_rfl) (fun _ _ _ h => h) (Or.inl ⟨by rfl, ?_⟩) (by assumption) ?_
      rotate_left 1
      · (intro wS hSw; (try dsimp only at hSw); go_simp; try with_reducible rfl)
      try simp only [List.getElem_toArray, List.getElem_cons_zero, List.getElem_cons_succ, Act.put, List.setIfInBounds_toArray, List.set_cons_zero, List.set_cons_succ]
      refine wpAnyK_take (i := 2) (v := ?_) rfl (by kernel_rfl) (by kernel_rfl) (by kernel_rfl) (by kernel_rfl) (fun _ _ _ h => h) (Or.inl ⟨by rfl, ?_⟩) (by assumption) ?_
      rotate_left 1
      · (intro wS hSw; (try dsimp only at hSw); go_simp; try with_reducible rfl)
      try simp only [List.getElem_toArray, List.getElem_cons_zero, List.getElem_cons_succ, Act.put, List.setIfInBounds_toArray, List.set_cons_zero, List.set_cons_succ]
      refine wpAnyK_take (i := 3) (v := ?_) rfl (by kernel_rfl) (by kernel_rfl) (by kernel_rfl) (by kernel_rfl) (fun _ _ _ h => h) (Or.inl ⟨by rfl, ?_⟩) (by assumption) ?_
      rotate_left 1
      · (intro wS hSw; (try dsimp only at hSw); go_simp; try with_reducible rfl)
      try simp only [List.getElem_toArray, List.getElem_cons_zero, List.getElem_cons_succ, Act.put, List.setIfInBounds_toArray, List.set_cons_zero, List.set_cons_succ]
      refine wpAnyK_take (i := 4) (v := ?_) rfl (by kernel_rfl) (by kernel_rfl) (by kernel_rfl) (by kernel_rfl) (fun _ _ _ h => h) (Or.inl ⟨by rfl, ?_⟩) (by assumption) ?_
      rotate_left 1
      · (intro wS hSw; (try dsimp only at hSw); go_simp; try with_reducible rfl)
      try simp only [List.getElem_toArray, List.getElem_cons_zero, List.getElem_cons_succ, Act.put, List.setIfInBounds_toArray, List.set_cons_zero, List.set_cons_succ]
      refine wpAnyK_take (i := 6) (v := ?_) rfl (by kernel_rfl) (by kernel_rfl) (by kernel_rfl) (by kernel_rfl) (fun _ _ _ h => h) (Or.inl ⟨by rfl, ?_⟩) (by assumption) ?_
      rotate_left 1
      · (intro wS hSw; (try dsimp only at hSw); go_simp; try with_reducible rfl)
      try simp only [List.getElem_toArray, List.getElem_cons_zero, List.getElem_cons_succ, Act.put, List.setIfInBounds_toArray, List.set_cons_zero, List.set_cons_succ]
      refine wpAnyK_take (i := 7) (v := ?_) rfl (by kernel_rfl) (by kernel_rfl) (by kernel_rfl) (by kernel_rfl) (fun _ _ _ h => h) (Or.inl ⟨by rfl, ?_⟩) (by assumption) ?_
      rotate_left 1
      · (intro wS hSw; (try dsimp only at hSw); go_simp; try with_reducible rfl)
      try simp only [List.getElem_toArray, List.getElem_cons_zero, List.getElem_cons_succ, Act.put, List.setIfInBounds_toArray, List.set_cons_zero, List.set_cons_succ]
      refine wpAnyK_take (i := 8) (v := ?_) rfl (by kernel_rfl) (by kernel_rfl) (by kernel_rfl) (by kernel_rfl) (fun _ _ _ h => h) (Or.inl ⟨by rfl, ?_⟩) (by assumption) ?_
      rotate_left 1
      · (intro wS hSw; (try dsimp only at hSw); go_simp; try with_reducible rfl)
      try simp only [List.getElem_toArray, List.getElem_cons_zero, List.getElem_cons_succ, Act.put, List.setIfInBounds_toArray, List.set_cons_zero, List.set_cons_succ]
      refine wpAnyK_take (i := 9) (v := ?_) rfl (by kernel_rfl) (by kernel_rfl) (by kernel_rfl) (by kernel_rfl) (fun _ _ _ h => h) (Or.inl ⟨by rfl, ?_⟩) (by assumption) ?_
      rotate_left 1
      · (intro wS hSw; (try dsimp only at hSw); go_simp; try with_reducible rfl)
      try simp only [List.getElem_toArray, List.getElem_cons_zero, List.getElem_cons_succ, Act.put, List.setIfInBounds_toArray, List.set_cons_zero, List.set_cons_succ]
      refine wpAnyK_ready (rs := [5]) (by kernel_rfl) (by simp) ?_
      refine AllReadyK.cons rfl (fun K hK => ?_) AllReadyK.nil
      go_simp
      refine (rot21 _ _).mono ?_; rintro e wq ⟨rfl, rfl⟩
      refine shutK hK (⟨c0, c1, c2, c3, f0, f1, f2, f3⟩) (fun hHeld => ?_)
      clear hK K
      try simp only [List.getElem_toArray, List.getElem_cons_zero, List.getElem_cons_succ, Act.put, List.setIfInBounds_toArray, List.set_cons_zero, List.set_cons_succ]
      refine wpAnyK_take (i := 10) (v := ?_) rfl (by kernel_rfl) (by kernel_rfl) (by kernel_rfl) (by kernel_rfl) (fun _ _ _ h => h) (Or.inl ⟨by rfl, ?_⟩) (by assumption) ?_
      rotate_left 1
      · (intro wS hSw; (try dsimp only at hSw); go_simp; try with_reducible rfl)
      try simp only [List.getElem_toArray, List.getElem_cons_zero, List.getElem_cons_succ, Act.put, List.setIfInBounds_toArray, List.set_cons_zero, List.set_cons_succ]
      refine wpAnyK_take (i := 11) (v := ?_) rfl (by kernel_rfl) (by kernel_rfl) (by kernel_rfl) (by kernel_rfl) (fun _ _ _ h => h) (Or.inl ⟨by rfl, ?_⟩) (by assumption) ?_
      rotate_left 1
      · (intro wS hSw; (try dsimp only at hSw); go_simp; try with_reducible rfl)
      try simp only [List.getElem_toArray, List.getElem_cons_zero, List.getElem_cons_succ, Act.put, List.setIfInBounds_toArray, List.set_cons_zero, List.set_cons_succ]
      refine wpAnyK_take (i := 12) (v := ?_) rfl (by kernel_rfl) (by kernel_rfl) (by kernel_rfl) (by kernel_rfl) (fun _ _ _ h => h) (Or.inl ⟨by rfl, ?_⟩) (by assumption) ?_
      rotate_left 1
      · (intro wS hSw; (try dsimp only at hSw); go_simp; try with_reducible rfl)
      try simp only [List.getElem_toArray, List.getElem_cons_zero, List.getElem_cons_succ, Act.put, List.setIfInBounds_toArray, List.set_cons_zero, List.set_cons_succ]
      refine wpAnyK_ready (rs := [13]) (by kernel_rfl) (by simp) ?_
      refine AllReadyK.cons rfl (fun K hK => ?_) AllReadyK.nil
      go_simp
      refine shutK_off hK (by decide) ?_
      clear hK K
      try simp only [List.getElem_toArray, List.getElem_cons_zero, List.getElem_cons_succ, Act.put, List.setIfInBounds_toArray, List.set_cons_zero, List.set_cons_succ]
      refine wpAnyK_done (by kernel_rfl) ?_ _
      refine NoPanic.normal ?_
      first | refine wp_world (fun w1 hw1 => ?_) | refine exitk_world (fun w1 hw1 => ?_)
      have hs : SipAt w b ⟨x6, x2, x4, xr (rotP 2097152 8796093022208 x5) x6⟩ w1 := by rw [hw1]; first | exact HS.out.set (n := 0) rfl | exact HS.out.set (n := 1) rfl
      obtain ⟨x7, hx7⟩ : ∃ x, xr (rotP 2097152 8796093022208 x5) x6 = x := ⟨_, rfl⟩
      rw [hx7] at hs
      have Hx7 := Lib.hid hx7; clear hx7
      clear hw1 HS c0 c1 c2 c3 f0 f1 f2 f3; have HS := Lib.hid hs; clear hs
      obtain ⟨⟨c0, c1, c2, c3⟩, f0, f1, f2, f3⟩ := HS.out.read
      dsimp only at c0 c1 c2 c3
      go_wp2_with fail
      refine wp_region_noPanic ?_
      refine wp_region_k (by kernel_rfl) (fun w' => w'.cell? ⟨b, 0, none⟩ = some (.int .u64 x6) ∧ w'.cell? ⟨b, 1, none⟩ = some (.int .u64 x2) ∧ w'.cell? ⟨b, 2, none⟩ = some (.int .u64 x4) ∧ w'.cell? ⟨b, 3, none⟩ = some (.int .u64 x7) ∧ w'.frozen? ⟨b, 0, none⟩ = false ∧ w'.frozen? ⟨b, 1, none⟩ = false ∧ w'.frozen? ⟨b, 2, none⟩ = false ∧ w'.frozen? ⟨b, 3, none⟩ = false) 11 (⟨c0, c1, c2, c3, f0, f1, f2, f3⟩) (fun hHeld => ?_)
      refine wpAnyK_take (i := 0) (v := ?_) rfl (by kernel_rfl) (by kernel_rfl) (by kernel_rfl) (by kernel_rfl) (fun _ _ _ h => h) (Or.inl ⟨by rfl, ?_⟩) (by assumption) ?_
      rotate_left 1
      · (intro wS hSw; (try dsimp only at hSw); go_simp; try with_reducible rfl)
      try simp only [List.getElem_toArray, List.getElem_cons_zero, List.getElem_cons_succ, Act.put, List.setIfInBounds_toArray, List.set_cons_zero, List.set_cons_succ]
      refine wpAnyK_take (i := 1) (v := ?_) rfl (by kernel_rfl) (by kernel_rfl) (by kernel_rfl) (by kernel_rfl) (fun _ _ _ h => h) (Or.inl ⟨by rfl, ?_⟩) (by assumption) ?_
      rotate_left 1
      · (intro wS hSw; (try dsimp only at hSw); go_simp; try with_reducible rfl)
      try simp only [List.getElem_toArray, List.getElem_cons_zero, List.getElem_cons_succ, Act.put, List.setIfInBounds_toArray, List.set_cons_zero, List.set_cons_succ]
      refine wpAnyK_take (i := 2) (v := ?_) rfl (by kernel_rfl) (by kernel_rfl) (by kernel_rfl) (by kernel_rfl) (fun _ _ _ h => h) (Or.inl ⟨by rfl, ?_⟩) (by assumption) ?_
      rotate_left 1
      · (intro wS hSw; (try dsimp only at hSw); go_simp; try with_reducible rfl)
      try simp only [List.getElem_toArray, List.getElem_cons_zero, List.getElem_cons_succ, Act.put, List.setIfInBounds_toArray, List.set_cons_zero, List.set_cons_succ]
      refine wpAnyK_take (i := 3) (v := ?_) rfl (by kernel_rfl) (by kernel_rfl) (by kernel_rfl) (by kernel_rfl) (fun _ _ _ h => h) (Or.inl ⟨by rfl, ?_⟩) (by assumption) ?_
      rotate_left 1
      · (intro wS hSw; (try dsimp only at hSw); go_simp; try with_reducible rfl)
      try simp only [List.getElem_toArray, List.getElem_cons_zero, List.getElem_cons_succ, Act.put, List.setIfInBounds_toArray, List.set_cons_zero, List.set_cons_succ]
      refine wpAnyK_take (i := 4) (v := ?_) rfl (by kernel_rfl) (by kernel_rfl) (by kernel_rfl) (by kernel_rfl) (fun _ _ _ h => h) (Or.inl ⟨by rfl, ?_⟩) (by assumption) ?_
      rotate_left 1
      · (intro wS hSw; (try dsimp only at hSw); go_simp; try with_reducible rfl)
      try simp only [List.getElem_toArray, List.getElem_cons_zero, List.getElem_cons_succ, Act.put, List.setIfInBounds_toArray, List.set_cons_zero, List.set_cons_succ]
      refine wpAnyK_take (i := 5) (v := ?_) rfl (by kernel_rfl) (by kernel_rfl) (by kernel_rfl) (by kernel_rfl) (fun _ _ _ h => h) (Or.inl ⟨by rfl, ?_⟩) (by assumption) ?_
      rotate_left 1
      · (intro wS hSw; (try dsimp only at hSw); go_simp; try with_reducible rfl)
      try simp only [List.getElem_toArray, List.getElem_cons_zero, List.getElem_cons_succ, Act.put, List.setIfInBounds_toArray, List.set_cons_zero, List.set_cons_succ]
      refine wpAnyK_take (i := 6) (v := ?_) rfl (by kernel_rfl) (by kernel_rfl) (by kernel_rfl) (by kernel_rfl) (fun _ _ _ h => h) (Or.inl ⟨by rfl, ?_⟩) (by assumption) ?_
      rotate_left 1
      · (intro wS hSw; (try dsimp only at hSw); go_simp; try with_reducible rfl)
      try simp only [List.getElem_toArray, List.getElem_cons_zero, List.getElem_cons_succ, Act.put, List.setIfInBounds_toArray, List.set_cons_zero, List.set_cons_succ]
      refine wpAnyK_take (i := 7) (v := ?_) rfl (by kernel_rfl) (by kernel_rfl) (by kernel_rfl) (by kernel_rfl) (fun _ _ _ h => h) (Or.inl ⟨by rfl, ?_⟩) (by assumption) ?_
      rotate_left 1
      · (intro wS hSw; (try dsimp only at hSw); go_simp; try with_reducible rfl)
      try simp only [List.getElem_toArray, List.getElem_cons_zero, List.getElem_cons_succ, Act.put, List.setIfInBounds_toArray, List.set_cons_zero, List.set_cons_succ]
      refine wpAnyK_take (i := 8) (v := ?_) rfl (by kernel_rfl) (by kernel_rfl) (by kernel_rfl) (by kernel_rfl) (fun _ _ _ h => h) (Or.inl ⟨by rfl, ?_⟩) (by assumption) ?_
      rotate_left 1
      · (intro wS hSw; (try dsimp only at hSw); go_simp; try with_reducible rfl)
      try simp only [List.getElem_toArray, List.getElem_cons_zero, List.getElem_cons_succ, Act.put, List.setIfInBounds_toArray, List.set_cons_zero, List.set_cons_succ]
      refine wpAnyK_take (i := 9) (v := ?_) rfl (by kernel_rfl) (by kernel_rfl) (by kernel_rfl) (by kernel_rfl) (fun _ _ _ h => h) (Or.inl ⟨by rfl, ?_⟩) (by assumption) ?_
      rotate_left 1
      · (intro wS hSw; (try dsimp only at hSw); go_simp; try with_reducible rfl)
      try simp only [List.getElem_toArray, List.getElem_cons_zero, List.getElem_cons_succ, Act.put, List.setIfInBounds_toArray, List.set_cons_zero, List.set_cons_succ]
      refine wpAnyK_take (i := 10) (v := ?_) rfl (by kernel_rfl) (by kernel_rfl) (by kernel_rfl) (by kernel_rfl) (fun _ _ _ h => h) (Or.inl ⟨by rfl, ?_⟩) (by assumption) ?_
      rotate_left 1
      · (intro wS hSw; (try dsimp only at hSw); go_simp; try with_reducible rfl)
      try simp only [List.getElem_toArray, List.getElem_cons_zero, List.getElem_cons_succ, Act.put, List.setIfInBounds_toArray, List.set_cons_zero, List.set_cons_succ]
      refine wpAnyK_ready (rs := [11]) (by kernel_rfl) (by simp) ?_
      refine AllReadyK.cons rfl (fun K hK => ?_) AllReadyK.nil
      go_simp
      refine shutK_off hK (by decide) ?_
      clear hK K
      try simp only [List.getElem_toArray, List.getElem_cons_zero, List.getElem_cons_succ, Act.put, List.setIfInBounds_toArray, List.set_cons_zero, List.set_cons_succ]
      refine wpAnyK_done (by kernel_rfl) ?_ _
      refine NoPanic.normal ?_
      first | refine wp_world (fun w1 hw1 => ?_) | refine exitk_world (fun w1 hw1 => ?_)
      have hs : SipAt w b ⟨x6, x2, ad x4 x2, x7⟩ w1 := by rw [hw1]; first | exact HS.out.set (n := 0) rfl | exact HS.out.set (n := 1) rfl
      obtain ⟨x8, hx8⟩ : ∃ x, ad x4 x2 = x := ⟨_, rfl⟩
      rw [hx8] at hs
      have Hx8 := Lib.hid hx8; clear hx8
      clear hw1 HS c0 c1 c2 c3 f0 f1 f2 f3; have HS := Lib.hid hs; clear hs
      obtain ⟨⟨c0, c1, c2, c3⟩, f0, f1, f2, f3⟩ := HS.out.read
      dsimp only at c0 c1 c2 c3
      go_wp2_with fail
      refine wp_region_noPanic ?_
      refine wp_region_k (by kernel_rfl) (fun w' => w'.cell? ⟨b, 0, none⟩ = some (.int .u64 x6) ∧ w'.cell? ⟨b, 1, none⟩ = some (.int .u64 x2) ∧ w'.cell? ⟨b, 2, none⟩ = some (.int .u64 x8) ∧ w'.cell? ⟨b, 3, none⟩ = some (.int .u64 x7) ∧ w'.frozen? ⟨b, 0, none⟩ = false ∧ w'.frozen? ⟨b, 1, none⟩ = false ∧ w'.frozen? ⟨b, 2, none⟩ = false ∧ w'.frozen? ⟨b, 3, none⟩ = false) 13 (⟨c0, c1, c2, c3, f0, f1, f2, f3⟩) (fun hHeld => ?_)
      refine wpAnyK_take (i := 0) (v := ?_) rfl (by kernel_rfl) (by kernel_rfl) (by kernel_rfl) (by kernel_rfl) (fun _ _ _ h => h) (Or.inl ⟨by rfl, ?_⟩) (by assumption) ?_
      rotate_left 1
      · (intro wS hSw; (try dsimp only at hSw); go_simp; try with_reducible rfl)
      try simp only [List.getElem_toArray, List.getElem_cons_zero, List.getElem_cons_succ, Act.put, List.setIfInBounds_toArray, List.set_cons_zero, List.set_cons_succ]
      refine wpAnyK_take (i := 1) (v := ?_) rfl (by kernel_rfl) (by kernel_rfl) (by kernel_rfl) (by kernel_rfl) (fun _ _ _ h => h) (Or.inl ⟨by rfl, ?_⟩) (by assumption) ?_
      rotate_left 1
      · (intro wS hSw; (try dsimp only at hSw); go_simp; try with_reducible rfl)
      try simp only [List.getElem_toArray, List.getElem_cons_zero, List.getElem_cons_succ, Act.put, List.setIfInBounds_toArray, List.set_cons_zero, List.set_cons_succ]
      refine wpAnyK_take (i := 2) (v := ?_) rfl (by kernel_rfl) (by kernel_rfl) (by kernel_rfl) (by kernel_rfl) (fun _ _ _ h => h) (Or.inl ⟨by rfl, ?_⟩) (by assumption) ?_
      rotate_left 1
      · (intro wS hSw; (try dsimp only at hSw); go_simp; try with_reducible rfl)
      try simp only [List.getElem_toArray, List.getElem_cons_zero, List.getElem_cons_succ, Act.put, List.setIfInBounds_toArray, List.set_cons_zero, List.set_cons_succ]
      refine wpAnyK_take (i := 3) (v := ?_) rfl (by kernel_rfl) (by kernel_rfl) (by kernel_rfl) (by kernel_rfl) (fun _ _ _ h => h) (Or.inl ⟨by rfl, ?_⟩) (by assumption) ?_
      rotate_left 1
      · (intro wS hSw; (try dsimp only at hSw); go_simp; try with_reducible rfl)
      try simp only [List.getElem_toArray, List.getElem_cons_zero, List.getElem_cons_succ, Act.put, List.setIfInBounds_toArray, List.set_cons_zero, List.set_cons_succ]
      refine wpAnyK_take (i := 4) (v := ?_) rfl (by kernel_rfl) (by kernel_rfl) (by kernel_rfl) (by kernel_rfl) (fun _ _ _ h => h) (Or.inl ⟨by rfl, ?_⟩) (by assumption) ?_
      rotate_left 1
      · (intro wS hSw; (try dsimp only at hSw); go_simp; try with_reducible rfl)
      try simp only [List.getElem_toArray, List.getElem_cons_zero, List.getElem_cons_succ, Act.put, List.setIfInBounds_toArray, List.set_cons_zero, List.set_cons_succ]
      refine wpAnyK_take (i := 6) (v := ?_) rfl (by kernel_rfl) (by kernel_rfl) (by kernel_rfl) (by kernel_rfl) (fun _ _ _ h => h) (Or.inl ⟨by rfl, ?_⟩) (by assumption) ?_
      rotate_left 1
      · (intro wS hSw; (try dsimp only at hSw); go_simp; try with_reducible rfl)
      try simp only [List.getElem_toArray, List.getElem_cons_zero, List.getElem_cons_succ, Act.put, List.setIfInBounds_toArray, List.set_cons_zero, List.set_cons_succ]
      refine wpAnyK_take (i := 7) (v := ?_) rfl (by kernel_rfl) (by kernel_rfl) (by kernel_rfl) (by kernel_rfl) (fun _ _ _ h => h) (Or.inl ⟨by rfl, ?_⟩) (by assumption) ?_
      rotate_left 1
      · (intro wS hSw; (try dsimp only at hSw); go_simp; try with_reducible rfl)
      try simp only [List.getElem_toArray, List.getElem_cons_zero, List.getElem_cons_succ, Act.put, List.setIfInBounds_toArray, List.set_cons_zero, List.set_cons_succ]
      refine wpAnyK_take (i := 8) (v := ?_) rfl (by kernel_rfl) (by kernel_rfl) (by kernel_rfl) (by kernel_rfl) (fun _ _ _ h => h) (Or.inl ⟨by rfl, ?_⟩) (by assumption) ?_
      rotate_left 1
      · (intro wS hSw; (try dsimp only at hSw); go_simp; try with_reducible rfl)
      try simp only [List.getElem_toArray, List.getElem_cons_zero, List.getElem_cons_succ, Act.put, List.setIfInBounds_toArray, List.set_cons_zero, List.set_cons_succ]
      refine wpAnyK_take (i := 9) (v := ?_) rfl (by kernel_rfl) (by kernel_rfl) (by kernel_rfl) (by kernel_rfl) (fun _ _ _ h => h) (Or.inl ⟨by rfl, ?_⟩) (by assumption) ?_
      rotate_left 1
      · (intro wS hSw; (try dsimp only at hSw); go_simp; try with_reducible rfl)
      try simp only [List.getElem_toArray, List.getElem_cons_zero, List.getElem_cons_succ, Act.put, List.setIfInBounds_toArray, List.set_cons_zero, List.set_cons_succ]
      refine wpAnyK_ready (rs := [5]) (by kernel_rfl) (by simp) ?_
      refine AllReadyK.cons rfl (fun K hK => ?_) AllReadyK.nil
      go_simp
      refine (rot17 _ _).mono ?_; rintro e wq ⟨rfl, rfl⟩
      refine shutK hK (⟨c0, c1, c2, c3, f0, f1, f2, f3⟩) (fun hHeld => ?_)
      clear hK K
      try simp only [List.getElem_toArray, List.getElem_cons_zero, List.getElem_cons_succ, Act.put, List.setIfInBounds_toArray, List.set_cons_zero, List.set_cons_succ]
      refine wpAnyK_take (i := 10) (v := ?_) rfl (by kernel_rfl) (by kernel_rfl) (by kernel_rfl) (by kernel_rfl) (fun _ _ _ h => h) (Or.inl ⟨by rfl, ?_⟩) (by assumption) ?_
      rotate_left 1
      · (intro wS hSw; (try dsimp only at hSw); go_simp; try with_reducible rfl)
      try simp only [List.getElem_toArray, List.getElem_cons_zero, List.getElem_cons_succ, Act.put, List.setIfInBounds_toArray, List.set_cons_zero, List.set_cons_succ]
      refine wpAnyK_take (i := 11) (v := ?_) rfl (by kernel_rfl) (by kernel_rfl) (by kernel_rfl) (by kernel_rfl) (fun _ _ _ h => h) (Or.inl ⟨by rfl, ?_⟩) (by assumption) ?_
      rotate_left 1
      · (intro wS hSw; (try dsimp only at hSw); go_simp; try with_reducible rfl)
      try simp only [List.getElem_toArray, List.getElem_cons_zero, List.getElem_cons_succ, Act.put, List.setIfInBounds_toArray, List.set_cons_zero, List.set_cons_succ]
      refine wpAnyK_take (i := 12) (v := ?_) rfl (by kernel_rfl) (by kernel_rfl) (by kernel_rfl) (by kernel_rfl) (fun _ _ _ h => h) (Or.inl ⟨by rfl, ?_⟩) (by assumption) ?_
      rotate_left 1
      · (intro wS hSw; (try dsimp only at hSw); go_simp; try with_reducible rfl)
      try simp only [List.getElem_toArray, List.getElem_cons_zero, List.getElem_cons_succ, Act.put, List.setIfInBounds_toArray, List.set_cons_zero, List.set_cons_succ]
      refine wpAnyK_ready (rs := [13]) (by kernel_rfl) (by simp) ?_
      refine AllReadyK.cons rfl (fun K hK => ?_) AllReadyK.nil
      go_simp
      refine shutK_off hK (by decide) ?_
      clear hK K
      try simp only [List.getElem_toArray, List.getElem_cons_zero, List.getElem_cons_succ, Act.put, List.setIfInBounds_toArray, List.set_cons_zero, List.set_cons_succ]
      refine wpAnyK_done (by kernel_rfl) ?_ _
      refine NoPanic.normal ?_
      first | refine wp_world (fun w1 hw1 => ?_) | refine exitk_world (fun w1 hw1 => ?_)
      have hs : SipAt w b ⟨x6, xr (rotP 131072 140737488355328 x2) x8, x8, x7⟩ w1 := by rw [hw1]; first | exact HS.out.set (n := 0) rfl | exact HS.out.set (n := 1) rfl
      obtain ⟨x9, hx9⟩ : ∃ x, xr (rotP 131072 140737488355328 x2) x8 = x := ⟨_, rfl⟩
      rw [hx9] at hs
      have Hx9 := Lib.hid hx9; clear hx9
      clear hw1 HS c0 c1 c2 c3 f0 f1 f2 f3; have HS := Lib.hid hs; clear hs
      obtain ⟨⟨c0, c1, c2, c3⟩, f0, f1, f2, f3⟩ := HS.out.read
      dsimp only at c0 c1 c2 c3
      go_wp2_with fail
      refine (rot32 _ _).mono ?_; rintro e wq ⟨rfl, rfl⟩
      go_wp2_with fail
      go_roundw
      case rel =>
        refine ⟨k + 1, by go_num, by omega, ?_⟩
        have hs : SipAt w b ⟨x6, x9, rotP 4294967296 4294967296 x8, x7⟩ (w1.setCell ⟨b, 2, none⟩ (.int .u64 (rotP 4294967296 4294967296 x8))) := HS.out.set (n := 0) rfl
        have e : (⟨x6, x9, rotP 4294967296 4294967296 x8, x7⟩ : Sip) = rndP ⟨a, b0, c, d⟩ := by rw [← Hx9.out, ← Hx8.out, ← Hx7.out, ← Hx6.out, ← Hx5.out, ← Hx4.out, ← Hx3.out, ← Hx2.out, ← Hx1.out]; rfl
        rw [rndI, hs0, ← e]; exact hs
      case measure => simp [intOf]; omega
    · have hq : decide ((k : Int) < n) = false := by simp; omega
      obtain rfl : k = n := by omega
      go_wp2_with fail
      go_end0
      exact ⟨rfl, HS.out⟩
set_option maxHeartbeats 1000000 in
theorem sword_any (b : Nat) (s : Sip) (m : Int) (w : World) (hb : w.heap[b]? = some (.cells (sipC s) 240 (0, 0))) :
    Calls Tryz.prog 233 #[.pointer (some ⟨b, 0, none⟩), .int .u64 m] w fun e w' => e = .returned (.tuple #[]) ∧ SipAt w b (wordP s m) w' := by
  have hs : SipAt w b s w := ⟨hb, grown_refl _ _⟩
  have HS := Lib.hid hs; clear hs hb
  obtain ⟨⟨c0, c1, c2, c3⟩, f0, f1, f2, f3⟩ := HS.out.read
  go_enter Tryz.func233, Tryz.ntmps233
  go_wp2_with fail
  have hs1 : SipAt w b ⟨s.a, s.b, s.c, xr s.d m⟩ (w.setCell ⟨b, 3, none⟩ (.int .u64 (xr s.d m))) := HS.out.set (n := 0) rfl
  refine (rounds_any b ⟨s.a, s.b, s.c, xr s.d m⟩ 2 _ hs1.1 (by omega)).mono ?_
  rintro e w1 ⟨rfl, hs2⟩
  have hs3 : SipAt w b (rndP (rndP ⟨s.a, s.b, s.c, xr s.d m⟩)) w1 := ⟨hs2.1, grown_trans hs1.2 hs2.2⟩
  obtain ⟨t, ht⟩ : ∃ t, rndP (rndP ⟨s.a, s.b, s.c, xr s.d m⟩) = t := ⟨_, rfl⟩
  rw [ht] at hs3
  have hw : wordP s m = ⟨xr t.a m, t.b, t.c, t.d⟩ := by rw [← ht]; rfl
  have HW := Lib.hid hw
  clear hs1 hs2 ht hw HS c0 c1 c2 c3 f0 f1 f2 f3
  have HS := Lib.hid hs3; clear hs3
  obtain ⟨⟨c0, c1, c2, c3⟩, f0, f1, f2, f3⟩ := HS.out.read
  go_wp2_with fail
  go_end0
  exact ⟨rfl, by rw [HW.out]; exact HS.out.set (n := 0) rfl⟩
/-- a slice of bytes -/
abbrev encB (c : UInt8) : List Value := [byteV c]
set_option maxHeartbeats 1000000 in
theorem snumber_any (S : Nat → Prop) (v : Value) (l : List UInt8) (w : World) (h : Vec w S 1 encB v l) (hl : l.length ≤ 8) :
    Calls Tryz.prog 234 #[v] w fun e w' => e = .returned (.int .u64 (numP 0 0 l)) ∧ w = w' := by
  obtain ⟨a, cap, rfl⟩ := h.slice
  have HV := Lib.hid h; clear h
  go_enter Tryz.func234, Tryz.ntmps234
  go_wp2_with fail
  go_loopw [3, 4, 5, 8] (fun m _ _ i wr => wr = w ∧ ∃ (k : Nat) (mm : Int), i = .int .i64 k ∧ k ≤ l.length ∧ m = .int .u64 mm ∧ Hid (numP k mm (l.drop k) = numP 0 0 l)) (fun _ _ _ i _ => l.length - (intOf i).toNat)
  case atStart => exact ⟨rfl, 0, 0, rfl, by omega, rfl, Lib.hid rfl⟩
  case round =>
    obtain ⟨rfl, k, mm, rfl, hk, rfl, HT⟩ := hrel
    by_cases hlt : k < l.length
    · have hq : decide ((k : Int) < l.length) = true := by simp; omega
      obtain ⟨b, off, rfl, hb, hc⟩ := HV.out.get k hlt
      have c0 := hc 0 _ rfl
      rw [Nat.mul_one, Nat.add_zero] at c0
      unfold byteV at c0
      go_wp2_with fail
      go_roundw
      case rel => exact ⟨trivial, k + 1, _, by go_num, by omega, rfl, Lib.hid (by rw [← HT.out, List.drop_eq_getElem_cons hlt]; rfl)⟩
      case measure => simp [intOf]; omega
    · have hq : decide ((k : Int) < l.length) = false := by simp; omega
      have hd : l.drop k = [] := List.drop_eq_nil_of_le (by omega)
      rw [hd] at HT
      obtain rfl : mm = numP 0 0 l := HT.out
      clear HT hd
      go_wp2_with fail
      go_ret
      exact ⟨rfl, rfl⟩
end Go.Proofs.YteijllklpneagaaGreatDoor
end
section
/- append of a slice to a row that the call owns: of none or of some elements, wherever they lie. -/
set_option linter.unusedSimpArgs false
set_option linter.unusedVariables false
namespace Go.Proofs.YteijllklpneagaaGreatDoor
open Go
theorem run_load_zero {P : Program} (a : Addr) (w : World) : Sem.run P (loadCells a 0) w = .ok #[] w := rfl
theorem run_append_zero {P : Program} {w : World} (base : Nat) (t ty e : TypeId) (i : TypeInfo) (size : Nat) (ht : P.underlying t = some (.slice e)) (hi : P.info? e = some i)
    (v : Value) (n : Nat) (xs : List Value) (hown : w.ownsRow base e size v n xs) (ad : Option Addr) (c : Nat) :
    (Builtin.append_ #[t, t] ty #[v, .slice ad 0 c]).run P w = .ok v w := by
  have lz := fun a => run_load_zero (P := P) a w
  rcases hown.2 with ⟨rfl, rfl⟩ | ⟨g, cap, cur, rfl, _, _, hnc, _⟩
  · cases ad <;> simp [Builtin.append_, run_underlying ht, sizeOf, typeInfo, hi, Builtin.lenOf, Builtin.firstCells, lz, Sem.run_pure, Result.andThen]
  · cases ad <;> simp [Builtin.append_, run_underlying ht, sizeOf, typeInfo, hi, Builtin.lenOf, Builtin.firstCells, hnc, storeCells, lz, Sem.run_pure, Result.andThen]
theorem wp_append_zero {P : Program} {w : World} {o : Oper} {a : Act} {K : Act → World → Prop} {Q : Exit → Act → World → Prop} (s x : Operand) (t : TypeId)
    (ho : o.op = .call { callee := .builtin .append, args := #[s, x], argTypes := #[t, t] })
    (base : Nat) (e : TypeId) (i : TypeInfo) (size : Nat) (ht : P.underlying t = some (.slice e)) (hi : P.info? e = some i)
    (v : Value) (n : Nat) (xs : List Value) (hs : a.eval s = v) (hown : w.ownsRow base e size v n xs) (ad : Option Addr) (c : Nat) (hx : a.eval x = .slice ad 0 c)
    (h : K (a.put o.dst v) w) : Oper.wp P o a w K Q := by
  have hrun := run_append_zero (P := P) (w := w) base t o.type e i size ht hi v n xs hown ad c
  unfold Oper.wp execOp
  simp only [ho, resolve, invoke, builtin, Sem.run_bind, Sem.run_pure, Result.andThen_ok, List.map_toArray, List.map_cons, List.map_nil, hs, hx, hrun]
  exact h
/-- a slice's elements can be read: m of them, of size cells each -/
def Reads (w : World) (size : Nat) (u : Value) (m : Nat) (news : List Value) : Prop :=
  ∃ ad c, u = .slice ad m c ∧ news.length = m * size ∧ (0 < m → ∃ A, ad = some A ∧ ∀ j v, news[j]? = some v → w.cell? (A.add j) = some v)
/-- append of whatever slice -/
theorem wp_append_reads {P : Program} {w : World} {o : Oper} {a : Act} {K : Act → World → Prop} {Q : Exit → Act → World → Prop} (s x : Operand) (t : TypeId)
    (ho : o.op = .call { callee := .builtin .append, args := #[s, x], argTypes := #[t, t] })
    (base : Nat) (e : TypeId) (z : Value) (size bytes : Nat) (ht : P.underlying t = some (.slice e)) (hinfo : (P.info? e).map (fun i => (i.zero, i.size, i.bytes)) = some (some z, size, bytes))
    (hzs : z.cells.size = size) (hsz : 0 < size)
    (v : Value) (n : Nat) (xs : List Value) (hs : a.eval s = v) (hown : w.ownsRow base e size v n xs)
    (u : Value) (m : Nat) (news : List Value) (hx : a.eval x = u) (hr : Reads w size u m news) (h1 : ∀ u ∈ news, u.oneCell' = true)
    (h63 : n + m ≤ maxLen) (hbytes : (n + m) * bytes ≤ 140737488355328) (hbase : base ≤ w.heap.size)
    (h : ∀ v' w', w'.ownsRow base e size v' (n + m) (xs ++ news) → w.grownBy w' v.ownBlock → (v'.ownBlock = none ∨ v.ownBlock = v'.ownBlock ∨ v'.ownBlock = some w.heap.size) → K (a.put o.dst v') w') : Oper.wp P o a w K Q := by
  obtain ⟨ad, c, rfl, hl, hc⟩ := hr
  obtain ⟨i, hi, hz, h2, h3⟩ := info_parts hinfo
  by_cases hm : m = 0
  · subst hm
    have hn : news = [] := List.length_eq_zero_iff.1 (by omega)
    subst hn
    refine wp_append_zero s x t ho base e i size ht hi v n xs hs hown ad c hx (h v w (by simpa using hown) ⟨rfl, rfl, rfl, Nat.le_refl _, fun _ _ _ => rfl⟩ (.inr (.inl rfl)))
  · obtain ⟨A, rfl, hcell⟩ := hc (by omega)
    refine wp_append_lies w s x t ho base e i z size bytes ht hi hz h2 h3 hzs hsz v n xs hs hown A m c news hx hl hcell h1 (by omega) h63 hbytes hbase _ rfl fun g cap w' ho' hg hat hlt => ?_
    rcases hat with h4 | h4
    · exact h _ w' ho' hg (.inr (.inl h4))
    · exact h _ w' ho' hg (.inr (.inr (by rw [h4]; rfl)))
end Go.Proofs.YteijllklpneagaaGreatDoor
end
section
/- Rows that the call owns, as lists: append of a list to them. -/
set_option linter.unusedSimpArgs false
set_option linter.unusedVariables false
namespace Go.Proofs.YteijllklpneagaaGreatDoor
open Go.RowKit
variable {α : Type}
/-- v is a row of elements of type e, which lies in blocks made since w0; what lay in w0 is as it was -/
def OwnV (e : TypeId) (size : Nat) (enc : α → List Value) (w0 : World) (v : Value) (L : List α) (w : World) : Prop :=
  w.ownsRow w0.heap.size e size v L.length (L.flatMap enc) ∧ Below w0.heap.size w0 w
theorem own_below' {w w' : World} {B e size n : Nat} {v : Value} {xs : List Value} (h : w.ownsRow B e size v n xs) (hb : Below w.heap.size w w') : w'.ownsRow B e size v n xs := by
  refine ⟨h.1, ?_⟩
  rcases h.2 with h0 | ⟨g, cap, cur, hv, hg, hh, rest⟩
  · exact .inl h0
  · exact .inr ⟨g, cap, cur, hv, hg, (hb.block g (lt_of_blk hh)).trans hh, rest⟩
theorem OwnV.below {e size : Nat} {enc : α → List Value} {w0 w w' : World} {v : Value} {L : List α} (h : OwnV e size enc w0 v L w) (hb : Below w.heap.size w w') : OwnV e size enc w0 v L w' :=
  ⟨own_below' h.1 hb, h.2.trans (hb.mono h.2.size)⟩
theorem OwnV.start (e size : Nat) (enc : α → List Value) (w0 : World) : OwnV e size enc w0 (.slice none 0 0) [] w0 := ⟨⟨by simp, .inl ⟨rfl, rfl⟩⟩, Below.refl _ _⟩
theorem OwnV.nil {e size : Nat} {enc : α → List Value} {w0 w : World} (hb : Below w0.heap.size w0 w) : OwnV e size enc w0 (.slice none 0 0) [] w := ⟨⟨by simp, .inl ⟨rfl, rfl⟩⟩, hb⟩
theorem OwnV.vec {e size : Nat} {enc : α → List Value} (hk : ∀ x, (enc x).length = size) {w0 w : World} {v : Value} {L : List α} (h : OwnV e size enc w0 v L w) : Vec w (fun b => w0.heap.size ≤ b) size enc v L :=
  Vec.owns hk h.1 fun b hb _ => hb
theorem OwnV.form {e size : Nat} {enc : α → List Value} {w0 w : World} {v : Value} {L : List α} (h : OwnV e size enc w0 v L w) : (v = .slice none 0 0 ∧ L = []) ∨ ∃ g cap, v = .slice (some ⟨g, 0, none⟩) L.length cap ∧ L.length ≤ cap ∧ cap ≤ maxLen ∧ g < w.heap.size := by
  rcases h.1.2 with ⟨rfl, h0⟩ | ⟨g, cap, cur, rfl, _, hh, h1, h2, _⟩
  · exact .inl ⟨rfl, List.length_eq_zero_iff.1 h0⟩
  · exact .inr ⟨g, cap, rfl, h1, h2, lt_of_blk hh⟩
/-- one element that lies at the head of a block -/
theorem reads_block {w : World} {g : Nat} {t : TypeId} {fr : Nat × Nat} {size c : Nat} {xs : List Value} (h : w.heap[g]? = some (.cells xs.toArray t fr)) (hl : xs.length = size) : Reads w size (.slice (some ⟨g, 0, none⟩) 1 c) 1 xs :=
  ⟨_, c, rfl, by omega, fun _ => ⟨_, rfl, fun j u hj => by rw [add_plain, cell_of_row _ _ _ _ _ _ h, Nat.zero_add]; simpa using hj⟩⟩
section
variable {P : Program} {w : World} {o : Oper} {a : Act} {K : Act → World → Prop} {Q : Exit → Act → World → Prop}
/-- append of a list, as an operation -/
theorem wp_append_v (s x : Operand) (t : TypeId) (ho : o.op = .call { callee := .builtin .append, args := #[s, x], argTypes := #[t, t] })
    (e : TypeId) (z : Value) (size bytes : Nat) (enc : α → List Value) (hk : ∀ x, (enc x).length = size) (h1 : ∀ x, ∀ u ∈ enc x, u.oneCell' = true) (ht : P.underlying t = some (.slice e)) (hinfo : (P.info? e).map (fun i => (i.zero, i.size, i.bytes)) = some (some z, size, bytes))
    (hzs : z.cells.size = size) (hsz : 0 < size) (hby : bytes ≤ 128) {w0 : World} {v u : Value} {A B : List α} (hs : a.eval s = v) (hown : OwnV e size enc w0 v A w) (hx : a.eval x = u) (hr : Reads w size u B.length (B.flatMap enc)) (hn : A.length + B.length ≤ 1000000000)
    (h : ∀ v' w', OwnV e size enc w0 v' (A ++ B) w' → (∀ k o, some k ≠ v.ownBlock → w.heap[k]? = some o → w'.heap[k]? = some o) → w.heap.size ≤ w'.heap.size → K (a.put o.dst v') w') : Oper.wp P o a w K Q := by
  refine wp_append_reads s x t ho w0.heap.size e z size bytes ht hinfo hzs hsz v A.length (A.flatMap enc) hs hown.1 u B.length (B.flatMap enc) hx hr (fun u hu => ?_) (by unfold maxLen; omega) ?_ hown.2.size ?_
  · obtain ⟨y, _, hy⟩ := List.mem_flatMap.1 hu
    exact h1 y u hy
  · exact Nat.le_trans (Nat.mul_le_mul hn hby) (by decide)
  · intro v' w' ho' hg hat
    refine h v' w' ⟨by rw [List.length_append, List.flatMap_append]; exact ho', hown.2.grown hg hown.2.size fun k hk => ?_⟩ (fun k o hk hko => (hg.block k (lt_of_blk hko) hk).trans hko) hg.size
    rcases hown.1.2 with ⟨rfl, _⟩ | ⟨g, cap, cur, rfl, hg1, _⟩
    · simp [Value.ownBlock] at hk
    · have : g = k := by simpa [Value.ownBlock] using hk
      omega
end
end Go.Proofs.YteijllklpneagaaGreatDoor
end
section
/- siphash, the program's: Sum, Parts, Derive. -/
set_option linter.unusedSimpArgs false
set_option linter.unusedVariables false
set_option maxRecDepth 100000
namespace Go.Proofs.YteijllklpneagaaGreatDoor
open Go.RowKit

theorem infoBy : (Tryz.prog.info? 5).map (fun i => (i.zero, i.size, i.bytes)) = some (some (.int .u8 0), 1, 1) := by kernel_rfl
/-- all but the first m elements of a row -/
theorem Vec.dropped {α : Type} {w : World} {S : Nat → Prop} {enc : α → List Value} {b off n cap : Nat} {L : List α} (h : Vec w S 1 enc (.slice (some ⟨b, off, none⟩) n cap) L) (m : Nat) (hm : m ≤ L.length) (p : Prop) [Decidable p] (hp : p → m = L.length) (c : Nat) (hc : L.length - m ≤ c) :
    Vec w S 1 enc (.slice (if p then some ⟨b, off, none⟩ else some ⟨b, off + m, none⟩) (L.length - m) c) (L.drop m) := by
  obtain ⟨a', cap', h1, h2, h3⟩ := h
  cases h1
  refine ⟨_, c, by rw [List.length_drop], by rw [List.length_drop]; exact hc, fun h0 => ?_⟩
  rw [List.length_drop] at h0
  have hnp : ¬ p := fun hp' => by have := hp hp'; omega
  rw [if_neg hnp]
  obtain ⟨b', off', e, hS, hb, hcell⟩ := h3 (by omega)
  cases e
  refine ⟨b, off + m, rfl, hS, hb, fun j x hj i u hu => ?_⟩
  have := hcell (m + j) x (by rw [List.getElem?_drop] at hj; exact hj) i u hu
  rw [Nat.mul_one] at this ⊢
  rwa [← Nat.add_assoc] at this
theorem Vec.taken {α : Type} {w : World} {S : Nat → Prop} {k : Nat} {enc : α → List Value} {a : Option Addr} {n cap : Nat} {L : List α} (h : Vec w S k enc (.slice a n cap) L) (m c : Nat) (hm : m ≤ L.length) (hc : m ≤ c) : Vec w S k enc (.slice a m c) (L.take m) := by
  obtain ⟨a', cap', h1, h2, h3⟩ := h
  cases h1
  refine ⟨a, c, by rw [List.length_take, Nat.min_eq_left hm], by rw [List.length_take]; omega, fun h0 => ?_⟩
  rw [List.length_take] at h0
  obtain ⟨b, off, h4, h5, h5', h6⟩ := h3 (by omega)
  refine ⟨b, off, h4, h5, h5', fun j x hj => h6 j x ?_⟩
  rw [List.getElem?_take] at hj
  split at hj
  · exact hj
  · cases hj
theorem Vec.grown {α : Type} {w w' : World} {S : Nat → Prop} {k : Nat} {enc : α → List Value} {v : Value} {L : List α} {b : Nat} (h : Vec w S k enc v L) (hS : ∀ x, S x → x ≠ b) (g : w.grownBy w' (some b)) : Vec w' S k enc v L :=
  h.move g.size fun x hx hs => ⟨g.block x hx (by have := hS x hs; simp; omega), hs⟩
def lenOfV : Value → Nat
  | .slice _ n _ => n
  | _ => 0
theorem SipAt.base {w W w' : World} {b B : Nat} {s : Sip} (h : SipAt W b s w') (hb : Below B w W) (hB : B ≤ b) (hW : B ≤ W.heap.size) : Below B w w' :=
  hb.trans ⟨h.2.os, h.2.tape, h.2.output, h.2.size, fun k hk => h.2.block k (by omega) (by simp; omega)⟩
theorem eachP_step (s : Sip) (l : List UInt8) (n : Nat) : eachP s l (n + 1) = eachP (wordP s (numP 0 0 (l.take 8))) (l.drop 8) n := rfl
theorem eachP_more (s : Sip) (l : List UInt8) (h : 8 ≤ l.length) : eachP s l (l.length / 8) = eachP (wordP s (numP 0 0 (l.take 8))) (l.drop 8) ((l.drop 8).length / 8) := by
  rw [show l.length / 8 = (l.drop 8).length / 8 + 1 by rw [List.length_drop]; omega, eachP_step]
theorem eachP_end (s : Sip) (l : List UInt8) (h : l.length < 8) : eachP s l (l.length / 8) = (s, l) := by
  rw [show l.length / 8 = 0 by omega]; rfl
theorem sumP_of (ka kb : Int) (l : List UInt8) (s : Sip) (r : List UInt8) (h : eachP ⟨xr ka 8317987319222330741, xr kb 7237128888997146477, xr ka 7816392313619706465, xr kb 8387220255154660723⟩ l (l.length / 8) = (s, r)) (u : Sip)
    (hu : wordP s (bits .or .u64 (numP 0 0 r) (IntKind.u64.wrap ((l.length : Int) * 72057594037927936))) = u) (v : Sip) (hv : rndI 4 ⟨u.a, u.b, xr u.c 255, u.d⟩ = v) : xr (xr (xr v.a v.b) v.c) v.d = sumP ka kb l := by
  unfold sumP
  rw [h]
  dsimp only
  rw [hu, ← hv]; rfl
set_option maxHeartbeats 4000000 in
theorem ssum_any (S : Nat → Prop) (ka kb : Int) (v : Value) (l : List UInt8) (w : World) (h : Vec w S 1 encB v l) (hl : l.length ≤ 1000000000) :
    Calls Tryz.prog 175 #[.agg #[.int .u64 ka, .int .u64 kb], v] w fun e w' => e = .returned (.int .u64 (sumP ka kb l)) ∧ Below w.heap.size w w' := by
  obtain ⟨a, cap, rfl⟩ := h.slice
  have HV := Lib.hid (h.any.move (S' := fun b => b < w.heap.size) (w' := w) (Nat.le_refl _) fun b hb _ => ⟨rfl, hb⟩); clear h
  go_enter Tryz.func175, Tryz.ntmps175
  go_wp2_with fail
  refine wp_world (fun W hW => ?_)
  have hb0 : Below w.heap.size w W := by rw [hW]; exact ((Below.refl _ _).alloc (Nat.le_refl _) _).alloc (by simp) _
  have hs0 : SipAt W (w.heap.size + 1) ⟨xr ka 8317987319222330741, xr kb 7237128888997146477, xr ka 7816392313619706465, xr kb 8387220255154660723⟩ W := by rw [hW]; exact ⟨blk_new (by simp), grown_refl _ _⟩
  have hv0 := HV.out.below hb0
  clear hW HV
  have HB0 := Lib.hid hb0; have HS0 := Lib.hid hs0; have HV0 := Lib.hid hv0
  clear hb0 hs0 hv0
  go_loopw [1] (fun v wr => ∃ (r : List UInt8) (s : Sip), Vec wr (fun b => b < w.heap.size) 1 encB v r ∧ SipAt W (w.heap.size + 1) s wr ∧ Hid (eachP s r (r.length / 8) = eachP ⟨xr ka 8317987319222330741, xr kb 7237128888997146477, xr ka 7816392313619706465, xr kb 8387220255154660723⟩ l (l.length / 8)) ∧ r.length ≤ l.length) (fun v _ => lenOfV v)
  case atStart => exact ⟨l, _, HV0.out, HS0.out, Lib.hid rfl, Nat.le_refl _⟩
  case round =>
    obtain ⟨r, s, hv, hs, HE, hrl⟩ := hrel
    obtain ⟨ar, cr, rfl⟩ := hv.slice
    have HV := Lib.hid hv; have HS := Lib.hid hs
    have hcr : r.length ≤ cr := hv.len.2
    clear hv hs
    by_cases hlt : 8 ≤ r.length
    · have hq : decide ((8 : Int) ≤ r.length) = true := by simp; omega
      have hc8 : (8 : Int) ≤ (cr : Int) := by omega
      obtain ⟨ba, oa, rfl, _, _⟩ := HV.out.get 0 (by omega)
      go_wp2_with fail
      refine (snumber_any _ _ (r.take 8) _ (HV.out.taken 8 cr hlt (by omega)) (by simp; omega)).mono ?_
      rintro e wq ⟨rfl, rfl⟩
      go_wp2_with fail
      refine (sword_any _ s _ _ HS.out.1).mono ?_
      rintro e w1 ⟨rfl, hs1⟩
      have HV1 := Lib.hid (HV.out.grown (b := w.heap.size + 1) (fun x hx => by omega) hs1.2)
      have HS1 := Lib.hid (show SipAt W (w.heap.size + 1) (wordP s (numP 0 0 (r.take 8))) w1 from ⟨hs1.1, grown_trans HS.out.2 hs1.2⟩)
      clear hs1 HS HV
      go_wp2_with fail
      go_roundw
      case rel => exact ⟨r.drop 8, _, HV1.out.dropped 8 hlt (cr = 8) (fun h => by omega) (cr - 8) (by omega), HS1.out, Lib.hid (by rw [← HE.out, eachP_more s r hlt]), by rw [List.length_drop]; omega⟩
      case measure => simp only [lenOfV]; omega
    · have hq : decide ((8 : Int) ≤ r.length) = false := by simp; omega
      have hE := HE.out
      rw [eachP_end s r (by omega)] at hE
      have HE2 := Lib.hid hE.symm
      clear hE HE
      go_wp2_with fail
      refine (snumber_any _ _ r _ HV.out (by omega)).mono ?_
      rintro e wq ⟨rfl, rfl⟩
      go_wp2_with fail
      refine (sword_any _ s _ _ HS.out.1).mono ?_
      rintro e w1 ⟨rfl, hs1⟩
      obtain ⟨u, hu⟩ : ∃ u, wordP s (bits .or .u64 (numP 0 0 r) (IntKind.u64.wrap ((l.length : Int) * 72057594037927936))) = u := ⟨_, rfl⟩
      rw [hu] at hs1
      have HU := Lib.hid hu
      have HS1 := Lib.hid (show SipAt W (w.heap.size + 1) u w1 from ⟨hs1.1, grown_trans HS.out.2 hs1.2⟩)
      clear hs1 HS HV hu
      obtain ⟨⟨c0, c1, c2, c3⟩, f0, f1, f2, f3⟩ := HS1.out.read
      go_wp2_with fail
      have hs2 : SipAt W (w.heap.size + 1) ⟨u.a, u.b, xr u.c 255, u.d⟩ (w1.setCell ⟨w.heap.size + 1, 2, none⟩ (.int .u64 (xr u.c 255))) := HS1.out.set (n := 0) rfl
      refine (rounds_any _ ⟨u.a, u.b, xr u.c 255, u.d⟩ 4 _ hs2.1 (by omega)).mono ?_
      rintro e w2 ⟨rfl, hs3⟩
      obtain ⟨v, hv⟩ : ∃ v, rndI 4 ⟨u.a, u.b, xr u.c 255, u.d⟩ = v := ⟨_, rfl⟩
      rw [hv] at hs3
      have HVv := Lib.hid hv
      have HS3 := Lib.hid (show SipAt W (w.heap.size + 1) v w2 from ⟨hs3.1, grown_trans hs2.2 hs3.2⟩)
      clear hs2 hs3 hv HS1 c0 c1 c2 c3 f0 f1 f2 f3
      obtain ⟨⟨c0, c1, c2, c3⟩, f0, f1, f2, f3⟩ := HS3.out.read
      go_wp2_with fail
      go_ret
      refine ⟨?_, HS3.out.base HB0.out (by omega) HB0.out.size⟩
      rw [← sumP_of ka kb l s r HE2.out u HU.out v HVv.out]
      rfl
end Go.Proofs.YteijllklpneagaaGreatDoor
end
section
/- Rows that are made while the deck moves on: append to them. -/
set_option linter.unusedSimpArgs false
set_option linter.unusedVariables false
namespace Go.Proofs.YteijllklpneagaaGreatDoor
open Go.RowKit
variable {α : Type}
/-- v is a row of elements of type e, in blocks made since wA; what lay in wA is as it was, but for the deck in block D -/
def OwnM (D e size : Nat) (enc : α → List Value) (wA : World) (v : Value) (L : List α) (w : World) : Prop :=
  w.ownsRow wA.heap.size e size v L.length (L.flatMap enc) ∧ Moved D wA w
theorem OwnM.moved {D e size : Nat} {enc : α → List Value} {wA w w' : World} {v : Value} {L : List α} (h : OwnM D e size enc wA v L w) (m : Moved D w w') : OwnM D e size enc wA v L w' := by
  refine ⟨⟨h.1.1, ?_⟩, h.2.trans m⟩
  rcases h.1.2 with h0 | ⟨g, cap, cur, hv, hg, hh, rest⟩
  · exact .inl h0
  · exact .inr ⟨g, cap, cur, hv, hg, m.blk (by have := h.2.lt; omega) hh, rest⟩
theorem OwnM.below {D e size : Nat} {enc : α → List Value} {wA w w' : World} {v : Value} {L : List α} (h : OwnM D e size enc wA v L w) (hb : Below w.heap.size w w') : OwnM D e size enc wA v L w' :=
  h.moved ((Moved.start h.2.deck).below hb)
theorem OwnM.nil {D e size : Nat} {enc : α → List Value} {wA w : World} (m : Moved D wA w) : OwnM D e size enc wA (.slice none 0 0) [] w := ⟨⟨by simp, .inl ⟨rfl, rfl⟩⟩, m⟩
theorem OwnM.vec {D e size : Nat} {enc : α → List Value} (hk : ∀ x, (enc x).length = size) {wA w : World} {v : Value} {L : List α} (h : OwnM D e size enc wA v L w) : Vec w (fun b => wA.heap.size ≤ b) size enc v L :=
  Vec.owns hk h.1 fun b hb _ => hb
theorem Moved.grown' {D : Nat} {wA w w' : World} {row : Option Nat} (h : Moved D wA w) (hg : w.grownBy w' row) (hr : ∀ k, row = some k → wA.heap.size ≤ k) : Moved D wA w' := by
  have hlt := h.lt
  refine ⟨⟨hg.os.trans h.grown.os, hg.tape.trans h.grown.tape, hg.output.trans h.grown.output, Nat.le_trans h.size hg.size, fun k hk hne => ?_⟩, h.deck.same fun k hk => hg.block k (by have := h.size; omega) (fun e => by have := hr k e.symm; omega), hlt⟩
  rw [hg.block k (by have := h.size; omega) (fun e => by have := hr k e.symm; omega)]
  exact h.grown.block k hk hne
section
variable {P : Program} {w : World} {o : Oper} {a : Act} {K : Act → World → Prop} {Q : Exit → Act → World → Prop}
theorem wp_append_m (s x : Operand) (t : TypeId) (ho : o.op = .call { callee := .builtin .append, args := #[s, x], argTypes := #[t, t] })
    (D e : Nat) (z : Value) (size bytes : Nat) (enc : α → List Value) (hk : ∀ x, (enc x).length = size) (h1 : ∀ x, ∀ u ∈ enc x, u.oneCell' = true) (ht : P.underlying t = some (.slice e)) (hinfo : (P.info? e).map (fun i => (i.zero, i.size, i.bytes)) = some (some z, size, bytes))
    (hzs : z.cells.size = size) (hsz : 0 < size) (hby : bytes ≤ 128) {wA : World} {v u : Value} {A B : List α} (hs : a.eval s = v) (hown : OwnM D e size enc wA v A w) (hx : a.eval x = u) (hr : Reads w size u B.length (B.flatMap enc)) (hn : A.length + B.length ≤ 1000000000)
    (h : ∀ v' w', OwnM D e size enc wA v' (A ++ B) w' → (∀ k o, some k ≠ v.ownBlock → w.heap[k]? = some o → w'.heap[k]? = some o) → K (a.put o.dst v') w') : Oper.wp P o a w K Q := by
  refine wp_append_reads s x t ho wA.heap.size e z size bytes ht hinfo hzs hsz v A.length (A.flatMap enc) hs hown.1 u B.length (B.flatMap enc) hx hr (fun u hu => ?_) (by unfold maxLen; omega) ?_ hown.2.size ?_
  · obtain ⟨y, _, hy⟩ := List.mem_flatMap.1 hu
    exact h1 y u hy
  · exact Nat.le_trans (Nat.mul_le_mul hn hby) (by decide)
  · intro v' w' ho' hg hat
    refine h v' w' ⟨by rw [List.length_append, List.flatMap_append]; exact ho', hown.2.grown' hg fun k hk => ?_⟩ (fun k o hk hko => (hg.block k (lt_of_blk hko) hk).trans hko)
    rcases hown.1.2 with ⟨rfl, _⟩ | ⟨g, cap, cur, rfl, hg1, _⟩
    · simp [Value.ownBlock] at hk
    · have : g = k := by simpa [Value.ownBlock] using hk
      omega
theorem wpList_append_m {ops : Array Oper} {rest : List Oper} (hgd : o.guard = none) (s x : Operand) (t : TypeId) (ho : o.op = .call { callee := .builtin .append, args := #[s, x], argTypes := #[t, t] })
    (D e : Nat) (z : Value) (size bytes : Nat) (enc : α → List Value) (hk : ∀ x, (enc x).length = size) (h1 : ∀ x, ∀ u ∈ enc x, u.oneCell' = true) (ht : P.underlying t = some (.slice e)) (hinfo : (P.info? e).map (fun i => (i.zero, i.size, i.bytes)) = some (some z, size, bytes))
    (hzs : z.cells.size = size) (hsz : 0 < size) (hby : bytes ≤ 128) {wA : World} {v u : Value} {A B : List α} (hs : a.eval s = v) (hown : OwnM D e size enc wA v A w) (hx : a.eval x = u) (hr : Reads w size u B.length (B.flatMap enc)) (hn : A.length + B.length ≤ 1000000000)
    (h : ∀ v' w', OwnM D e size enc wA v' (A ++ B) w' → (∀ k o, some k ≠ v.ownBlock → w.heap[k]? = some o → w'.heap[k]? = some o) → wpList P ops Q rest (a.put o.dst v') w') : wpList P ops Q (o :: rest) a w :=
  wpList_plain hgd fun _ hK => wp_append_m s x t ho D e z size bytes enc hk h1 ht hinfo hzs hsz hby hs hown hx hr hn fun v' w' h2 h3 => hK _ _ (h v' w' h2 h3)
theorem wpList_append_v {ops : Array Oper} {rest : List Oper} (hgd : o.guard = none) (s x : Operand) (t : TypeId) (ho : o.op = .call { callee := .builtin .append, args := #[s, x], argTypes := #[t, t] })
    (e : TypeId) (z : Value) (size bytes : Nat) (enc : α → List Value) (hk : ∀ x, (enc x).length = size) (h1 : ∀ x, ∀ u ∈ enc x, u.oneCell' = true) (ht : P.underlying t = some (.slice e)) (hinfo : (P.info? e).map (fun i => (i.zero, i.size, i.bytes)) = some (some z, size, bytes))
    (hzs : z.cells.size = size) (hsz : 0 < size) (hby : bytes ≤ 128) {w0 : World} {v u : Value} {A B : List α} (hs : a.eval s = v) (hown : OwnV e size enc w0 v A w) (hx : a.eval x = u) (hr : Reads w size u B.length (B.flatMap enc)) (hn : A.length + B.length ≤ 1000000000)
    (h : ∀ v' w', OwnV e size enc w0 v' (A ++ B) w' → (∀ k o, some k ≠ v.ownBlock → w.heap[k]? = some o → w'.heap[k]? = some o) → w.heap.size ≤ w'.heap.size → wpList P ops Q rest (a.put o.dst v') w') : wpList P ops Q (o :: rest) a w :=
  wpList_plain hgd fun _ hK => wp_append_v s x t ho e z size bytes enc hk h1 ht hinfo hzs hsz hby hs hown hx hr hn fun v' w' h2 h3 h4 => hK _ _ (h v' w' h2 h3 h4)
end
end Go.Proofs.YteijllklpneagaaGreatDoor
end
section
/- siphash, the program's: Parts, Derive. -/
set_option linter.unusedSimpArgs false
set_option linter.unusedVariables false
set_option maxRecDepth 100000
namespace Go.Proofs.YteijllklpneagaaGreatDoor
open Go.RowKit
theorem flatB (l : List UInt8) : l.flatMap encB = l.map byteV := by
  induction l with
  | nil => rfl
  | cons a l ih => simp only [List.flatMap_cons, List.map_cons, ih]; rfl
theorem strCells_mk (l : List UInt8) : Lib.strCells ⟨l.toArray⟩ = l.flatMap encB := by rw [flatB]; simp [Lib.strCells, byteV]
theorem partP_short (t : List UInt8) (h : t.length ≤ 60000) : partP t = [UInt8.ofNat (t.length / 256), UInt8.ofNat t.length] ++ t := by
  unfold partP
  rw [Nat.min_eq_left (by omega), List.take_of_length_le (by omega)]; rfl
theorem sparts_len (L : List (List UInt8)) (h : ∀ t ∈ L, t.length ≤ 60000) : (L.flatMap partP).length ≤ 60002 * L.length := by
  induction L with
  | nil => simp
  | cons a L ih =>
    have h1 := h a (by simp)
    have h2 := ih fun t ht => h t (by simp [ht])
    rw [List.flatMap_cons, List.length_append, partP_short a h1]
    simp only [List.length_append, List.length_cons, List.length_nil]; omega
theorem reads_row {w : World} {g : Nat} {t : TypeId} {fr : Nat × Nat} {c n : Nat} {xs : List Value} (h : w.heap[g]? = some (.cells xs.toArray t fr)) (hn : n = xs.length) : Reads w 1 (.slice (some ⟨g, 0, none⟩) n c) n xs := by
  subst hn
  exact ⟨_, c, rfl, by omega, fun _ => ⟨_, rfl, fun j u hj => by rw [add_plain, cell_of_row _ _ _ _ _ _ h, Nat.zero_add]; simpa using hj⟩⟩
theorem extract_all (t : List UInt8) : (⟨t.toArray⟩ : ByteArray).extract 0 t.length = ⟨t.toArray⟩ := by
  apply ByteArray.ext; simp [ByteArray.data_extract]
theorem one_encB : ∀ (x : UInt8), ∀ u ∈ encB x, u.oneCell' = true := by intro x u hu; simp [byteV] at hu; subst hu; rfl
theorem cells2K {w : World} {b : Nat} {x y : Value} {t : TypeId} {fr : Nat × Nat} (h : w.heap[b]? = some (.cells #[x, y] t fr)) : w.cell? ⟨b, 0, none⟩ = some x ∧ w.cell? ⟨b, 1, none⟩ = some y := by
  refine ⟨?_, ?_⟩ <;> (rw [cell_of_row _ _ _ _ _ _ h]; rfl)
section
variable {P : Program} {w : World} {ops : Array Oper} {rest : List Oper} {o : Oper} {a : Act} {Q : Exit → Act → World → Prop}
/-- append of a text to a row of bytes -/
theorem wpList_append_s (hgd : o.guard = none) (sl x : Operand) (t u : TypeId) (ho : o.op = .call { callee := .builtin .append, args := #[sl, x], argTypes := #[t, u] })
    (e : TypeId) (ht : P.underlying t = some (.slice e)) (hu : P.underlying u = some .string) (hinfo : (P.info? e).map (fun i => (i.zero, i.size, i.bytes)) = some (some (.int .u8 0), 1, 1)) {w0 : World} {v : Value} {A : List UInt8} (l : List UInt8) (hs : a.eval sl = v)
    (hown : OwnV e 1 encB w0 v A w) (hx : a.eval x = strV l) (hn : A.length + l.length ≤ 1000000000)
    (h : ∀ v' w', OwnV e 1 encB w0 v' (A ++ l) w' → w.heap.size ≤ w'.heap.size → wpList P ops Q rest (a.put o.dst v') w') : wpList P ops Q (o :: rest) a w := by
  obtain ⟨i, hi, hz, h2, h3⟩ := info_parts hinfo
  have hsz : (⟨l.toArray⟩ : ByteArray).size = l.length := by simp [ByteArray.size]
  refine Lib.wpList_append_own_string w hgd sl x t u ho w0.heap.size e i ht hu hi hz h2 h3 v A.length (A.flatMap encB) hs hown.1 ⟨l.toArray⟩ hx (by unfold maxLen; omega) (by omega) hown.2.size ?_
  intro v' w' ho' hg _
  rw [hsz, strCells_mk] at ho'
  refine h v' w' ⟨by rw [List.length_append, List.flatMap_append]; exact ho', hown.2.grown hg hown.2.size fun k hk => ?_⟩ hg.size
  rcases hown.1.2 with ⟨rfl, _⟩ | ⟨g, cap, cur, rfl, hg1, _⟩
  · simp [Value.ownBlock] at hk
  · have : g = k := by simpa [Value.ownBlock] using hk
    omega
end
set_option maxHeartbeats 4000000 in
theorem sparts_any (S : Nat → Prop) (ka kb : Int) (v : Value) (L : List (List UInt8)) (w : World) (h : Vec w S 1 encS v L) (hl : ∀ t ∈ L, t.length ≤ 60000) (hn : L.length ≤ 1000) :
    Calls Tryz.prog 130 #[.agg #[.int .u64 ka, .int .u64 kb], v] w fun e w' => e = .returned (.int .u64 (partsP ka kb L)) ∧ Below w.heap.size w w' := by
  obtain ⟨a, cap, rfl⟩ := h.slice
  have HV := Lib.hid h.any; clear h
  have HL := Lib.hid hl; clear hl
  go_enter Tryz.func130, Tryz.ntmps130
  go_wp2_with fail
  refine wp_world (fun W hW => ?_)
  have hb0 : Below w.heap.size w W := by rw [hW]; exact (Below.refl _ _).alloc (Nat.le_refl _) _
  have hk : W.heap[w.heap.size]? = some (.cells #[.int .u64 ka, .int .u64 kb] 45 (0, 0)) := by rw [hW]; exact blk_new rfl
  have HV0 := Lib.hid (HV.out.below hb0)
  have HB0 := Lib.hid hb0; have HK := Lib.hid hk
  clear hW hb0 hk HV
  go_loopw [5, 7, 10] (fun v _ i wr => ∃ k : Nat, i = .int .i64 k ∧ k ≤ L.length ∧ OwnV 5 1 encB W v ((L.take k).flatMap partP) wr) (fun _ _ i _ => L.length - (intOf i).toNat)
  case atStart => exact ⟨0, rfl, by omega, OwnV.start _ _ _ _⟩
  case round =>
    obtain ⟨k, rfl, hk, ho⟩ := hrel
    have HO := Lib.hid ho; clear ho
    by_cases hlt : k < L.length
    · have hq : decide ((k : Int) < L.length) = true := by simp; omega
      obtain ⟨t, ht⟩ : ∃ t, L[k] = t := ⟨_, rfl⟩
      have htl : t.length ≤ 60000 := HL.out t (by rw [← ht]; exact List.getElem_mem _)
      obtain ⟨b, off, rfl, hb, hc⟩ := (HV0.out.below HO.out.2).get k hlt
      have c0 := hc 0 _ rfl
      rw [Nat.mul_one, Nat.add_zero, ht] at c0
      clear hc
      have hm : min (t.length : Int) 65535 = (t.length : Int) := by omega
      have hx := extract_all t
      obtain ⟨x, ex⟩ : ∃ x, UInt8.ofNat (t.length / 256) = x := ⟨_, rfl⟩
      obtain ⟨y, ey⟩ : ∃ y, UInt8.ofNat t.length = y := ⟨_, rfl⟩
      have hxa : (t.length : Int) / 256 = (x.toNat : Int) := by rw [← ex, UInt8.toNat_ofNat']; omega
      have hya : (t.length : Int) % 256 = (y.toNat : Int) := by rw [← ey, UInt8.toNat_ofNat']; omega
      have hp := partP_short t htl
      rw [ex, ey] at hp
      have hts : L.take (k + 1) = L.take k ++ [t] := by rw [List.take_succ_eq_append_getElem hlt, ht]
      have htk := sparts_len (L.take k) fun u hu => HL.out u (List.mem_of_mem_take hu)
      rw [List.length_take] at htk
      have HP := Lib.hid hp; have HTs := Lib.hid hts
      clear hp hts ex ey
      obtain ⟨P, hP⟩ : ∃ P, (L.take k).flatMap partP = P := ⟨_, rfl⟩
      rw [hP] at HO htk
      have HPP := Lib.hid hP; clear hP
      have HO1 := Lib.hid (HO.out.below ((Below.refl _ _).alloc (Nat.le_refl _) (.cells #[.int .u8 (x.toNat : Int), .int .u8 (y.toNat : Int)] 5)))
      have HR1 := Lib.hid (reads_row (xs := [x, y].flatMap encB) (n := 2) (c := 2) (heap_alloc_new wr (.cells #[.int .u8 (x.toNat : Int), .int .u8 (y.toNat : Int)] 5)) rfl)
      have hz0 := HO.out.2.size
      have hlen : P.length + ([x, y] : List UInt8).length ≤ 1000000000 := by simp only [List.length_cons, List.length_nil]; omega
      have hlen2 : (P ++ [x, y]).length + t.length ≤ 1000000000 := by rw [List.length_append]; simp only [List.length_cons, List.length_nil]; omega
      go_wp2_with (at_builtin; first | (refine wpList_append_v rfl (.tmp 19) (.tmp 27) 55 rfl 5 (.int .u8 0) 1 1 encB (fun _ => rfl) one_encB Tryz.underlying55 infoBy rfl (by decide) (by decide) (w0 := W) (v := u5) (A := P) (B := [x, y]) rfl HO1.out rfl HR1.out hlen ?_; intro v2 w2 ho2 hk2 hz2) | (refine wpList_append_s rfl (.tmp 29) (.tmp 30) 55 9 rfl 5 Tryz.underlying55 Tryz.underlying9 infoBy (w0 := W) (v := v2) (A := P ++ [x, y]) t rfl ho2 rfl hlen2 ?_; intro v3 w3 ho3 hz3))
      go_roundw
      case rel => exact ⟨k + 1, by go_num, by omega, by rw [HTs.out, List.flatMap_append, HPP.out, List.flatMap_cons, List.flatMap_nil, List.append_nil, HP.out, ← List.append_assoc]; exact ho3⟩
      case measure => simp [intOf]; omega
    · have hq : decide ((k : Int) < L.length) = false := by simp; omega
      have htk := sparts_len L fun u hu => HL.out u hu
      rw [List.take_of_length_le (by omega)] at HO
      have hz0 := HO.out.2.size
      have hk2 : wr.heap[w.heap.size]? = some (.cells #[.int .u64 ka, .int .u64 kb] 45 (0, 0)) := blk_below HO.out.2 (lt_of_blk HK.out) HK.out
      obtain ⟨k0, k1⟩ := cells2K hk2
      go_wp2_with fail
      refine (ssum_any _ ka kb _ (L.flatMap partP) _ (OwnV.vec (size := 1) (enc := encB) (fun _ => rfl) HO.out) (by omega)).mono ?_
      rintro e w2 ⟨rfl, hb2⟩
      go_wp2_with fail
      go_ret
      exact ⟨rfl, HB0.out.trans ((HO.out.2.mono HB0.out.size).trans (hb2.mono (by have := HB0.out.size; omega)))⟩
theorem wpk_name {P : Program} {md : Region.Mode} {ops : Array Oper} {Q : Exit → Act → World → Prop} {S : World → Prop} {k fuel : Nat} {listed : Array Bool} {a : Act} {W : World} (h : ∀ w', w' = W → wpAnyK P md ops Q S k fuel listed a w') : wpAnyK P md ops Q S k fuel listed a W := h W rfl
/-- two texts that lie in one block -/
theorem sparts_two (ka kb : Int) (x y : List UInt8) (hx : x.length ≤ 60000) (hy : y.length ≤ 60000) (w : World) (g : Nat) (h : w.heap[g]? = some (.cells #[strV x, strV y] 9 (0, 0))) :
    Calls Tryz.prog 130 #[.agg #[.int .u64 ka, .int .u64 kb], .slice (some ⟨g, 0, none⟩) 2 2] w fun e w' => e = .returned (.int .u64 (partsP ka kb [x, y])) ∧ Below w.heap.size w w' := by
  refine sparts_any Any1 ka kb _ [x, y] w ⟨_, 2, rfl, by simp, fun _ => ⟨g, 0, rfl, trivial, lt_of_blk h, fun j z hj i u hu => ?_⟩⟩ (by intro t ht; simp at ht; rcases ht with rfl | rfl <;> omega) (by simp)
  rw [cell_of_row _ _ _ _ _ _ h]
  match j, i, hj, hu with
  | 0, 0, hj, hu => simp at hj; subst hj; simpa using hu
  | 1, 0, hj, hu => simp at hj; subst hj; simpa using hu
  | 0, i + 1, hj, hu => simp at hu
  | 1, i + 1, hj, hu => simp at hu
  | j + 2, _, hj, _ => simp at hj
set_option maxHeartbeats 4000000 in
theorem sderive_any (ka kb : Int) (l : List UInt8) (w : World) (hl : l.length ≤ 60000) :
    Calls Tryz.prog 179 #[.agg #[.int .u64 ka, .int .u64 kb], strV l] w fun e w' => e = .returned (.agg #[.int .u64 (deriveP ka kb l).1, .int .u64 (deriveP ka kb l).2]) ∧ Below w.heap.size w w' := by
  obtain ⟨p, hp⟩ : ∃ p, partsP ka kb [l, [97]] = p := ⟨_, rfl⟩
  obtain ⟨q, hq⟩ : ∃ q, partsP ka kb [l, [98]] = q := ⟨_, rfl⟩
  have hpq : deriveP ka kb l = (p, q) := by rw [← hp, ← hq]; rfl
  rw [hpq]
  have HP := Lib.hid hp; have HQ := Lib.hid hq
  clear hp hq hpq
  go_enter Tryz.func179, Tryz.ntmps179
  go_wp2_with fail
  refine wp_world (fun W hW => ?_)
  have hb0 : Below w.heap.size w W := by rw [hW]; exact ((Below.refl _ _).alloc (Nat.le_refl _) _).alloc (by simp) _
  have hk0 : W.heap[w.heap.size]? = some (.cells #[.int .u64 ka, .int .u64 kb] 45 (0, 0)) := by rw [hW]; exact blk_old (blk_new rfl)
  have hz0 : W.heap[w.heap.size + 1]? = some (.cells #[.int .u64 0, .int .u64 0] 45 (0, 0)) := by rw [hW]; exact blk_new (by simp)
  have hW0 := lt_of_blk hk0
  obtain ⟨k0, k1⟩ := cells2K hk0
  clear hW
  have bD : Below W.heap.size W W.drew := (Below.refl _ _).drew
  refine wp_region_noPanic ?_
  refine wp_region_k (by kernel_rfl) (fun w' => w'.cell? ⟨w.heap.size, 0, none⟩ = some (.int .u64 ka) ∧ w'.cell? ⟨w.heap.size, 1, none⟩ = some (.int .u64 kb)) 9 (⟨k0, k1⟩) (fun hHeld => ?_)
  refine wpAnyK_take (i := 0) (v := ?_) rfl (by kernel_rfl) (by kernel_rfl) (by kernel_rfl) (by kernel_rfl) (fun _ _ _ h => h) (Or.inl ⟨by rfl, ?_⟩) (by assumption) ?_
  rotate_left 1
  · (intro wS hSw; (try dsimp only at hSw); go_simp; try with_reducible rfl)
  try simp only [List.getElem_toArray, List.getElem_cons_zero, List.getElem_cons_succ, Act.put, List.setIfInBounds_toArray, List.set_cons_zero, List.set_cons_succ]
  refine wpAnyK_take (i := 1) (v := ?_) rfl (by kernel_rfl) (by kernel_rfl) (by kernel_rfl) (by kernel_rfl) (fun _ _ _ h => h) (Or.inl ⟨by rfl, ?_⟩) (by assumption) ?_
  rotate_left 1
  · (intro wS hSw; (try dsimp only at hSw); go_simp; try with_reducible rfl)
  try simp only [List.getElem_toArray, List.getElem_cons_zero, List.getElem_cons_succ, Act.put, List.setIfInBounds_toArray, List.set_cons_zero, List.set_cons_succ]
  refine wpAnyK_take (i := 4) (v := ?_) rfl (by kernel_rfl) (by kernel_rfl) (by kernel_rfl) (by kernel_rfl) (fun _ _ _ h => h) (Or.inl ⟨by rfl, ?_⟩) (by assumption) ?_
  rotate_left 1
  · (intro wS hSw; (try dsimp only at hSw); go_simp; try with_reducible rfl)
  try simp only [List.getElem_toArray, List.getElem_cons_zero, List.getElem_cons_succ, Act.put, List.setIfInBounds_toArray, List.set_cons_zero, List.set_cons_succ]
  refine wpAnyK_take (i := 5) (v := ?_) rfl (by kernel_rfl) (by kernel_rfl) (by kernel_rfl) (by kernel_rfl) (fun _ _ _ h => h) (Or.inl ⟨by rfl, ?_⟩) (by assumption) ?_
  rotate_left 1
  · (intro wS hSw; (try dsimp only at hSw); go_simp; try with_reducible rfl)
  try simp only [List.getElem_toArray, List.getElem_cons_zero, List.getElem_cons_succ, Act.put, List.setIfInBounds_toArray, List.set_cons_zero, List.set_cons_succ]
  refine wpAnyK_ready (rs := [2, 6]) (by kernel_rfl) (by simp) ?_
  refine AllReadyK.cons rfl (fun K hK => ?_) (AllReadyK.cons rfl (fun K hK => ?_) AllReadyK.nil)
  focus
    go_simp
    refine shutK hK (⟨((bD.alloc bD.size _).cell (p := ⟨w.heap.size, 0, none⟩) hW0).trans k0, ((bD.alloc bD.size _).cell (p := ⟨w.heap.size, 1, none⟩) hW0).trans k1⟩) (fun hHeld => ?_)
    clear hK K
    try simp only [List.getElem_toArray, List.getElem_cons_zero, List.getElem_cons_succ, Act.put, List.setIfInBounds_toArray, List.set_cons_zero, List.set_cons_succ]
    refine wpk_name (fun W1 hW1 => ?_)
    have b1 : Below W.heap.size W W1 := by rw [hW1]; exact bD.alloc bD.size (.cells #[strV l, strV [97]] 9)
    have g1 : W1.heap[W.heap.size]? = some (.cells #[strV l, strV [97]] 9 (0, 0)) := by rw [hW1]; exact blk_new rfl
    clear hW1
    refine wpAnyK_ready (rs := [3, 6]) (by kernel_rfl) (by simp) ?_
    refine AllReadyK.cons rfl (fun K hK => ?_) (AllReadyK.cons rfl (fun K hK => ?_) AllReadyK.nil)
    focus
      go_simp
      refine (sparts_two ka kb l [97] hl (by decide) _ _ g1).mono ?_
      rintro e w2 ⟨rfl, hb⟩
      have b2 := b1.trans (hb.mono b1.size)
      clear hb
      refine shutK hK (⟨(b2.cell (p := ⟨w.heap.size, 0, none⟩) hW0).trans k0, (b2.cell (p := ⟨w.heap.size, 1, none⟩) hW0).trans k1⟩) (fun hHeld => ?_)
      clear hK K
      try simp only [List.getElem_toArray, List.getElem_cons_zero, List.getElem_cons_succ, Act.put, List.setIfInBounds_toArray, List.set_cons_zero, List.set_cons_succ]
      refine wpAnyK_ready (rs := [6]) (by kernel_rfl) (by simp) ?_
      refine AllReadyK.cons rfl (fun K hK => ?_) AllReadyK.nil
      go_simp
      refine shutK hK (⟨((b2.alloc b2.size _).cell (p := ⟨w.heap.size, 0, none⟩) hW0).trans k0, ((b2.alloc b2.size _).cell (p := ⟨w.heap.size, 1, none⟩) hW0).trans k1⟩) (fun hHeld => ?_)
      clear hK K
      try simp only [List.getElem_toArray, List.getElem_cons_zero, List.getElem_cons_succ, Act.put, List.setIfInBounds_toArray, List.set_cons_zero, List.set_cons_succ]
      refine wpk_name (fun W3 hW3 => ?_)
      have b3 : Below W.heap.size W W3 := by rw [hW3]; exact b2.alloc b2.size (.cells #[strV l, strV [98]] 9)
      have g3 : W3.heap[w2.heap.size]? = some (.cells #[strV l, strV [98]] 9 (0, 0)) := by rw [hW3]; exact blk_new rfl
      clear hW3
    rotate_left 1
    focus
      go_simp
      refine shutK hK (⟨((b1.alloc b1.size _).cell (p := ⟨w.heap.size, 0, none⟩) hW0).trans k0, ((b1.alloc b1.size _).cell (p := ⟨w.heap.size, 1, none⟩) hW0).trans k1⟩) (fun hHeld => ?_)
      clear hK K
      try simp only [List.getElem_toArray, List.getElem_cons_zero, List.getElem_cons_succ, Act.put, List.setIfInBounds_toArray, List.set_cons_zero, List.set_cons_succ]
      refine wpk_name (fun W2 hW2 => ?_)
      have b2 : Below W.heap.size W W2 := by rw [hW2]; exact b1.alloc b1.size (.cells #[strV l, strV [98]] 9)
      have g3 : W2.heap[W1.heap.size]? = some (.cells #[strV l, strV [98]] 9 (0, 0)) := by rw [hW2]; exact blk_new rfl
      have g1' : W2.heap[W.heap.size]? = some (.cells #[strV l, strV [97]] 9 (0, 0)) := by rw [hW2]; exact blk_old g1
      clear hW2
      refine wpAnyK_ready (rs := [3]) (by kernel_rfl) (by simp) ?_
      refine AllReadyK.cons rfl (fun K hK => ?_) AllReadyK.nil
      go_simp
      refine (sparts_two ka kb l [97] hl (by decide) _ _ g1').mono ?_
      rintro e W3 ⟨rfl, hb⟩
      have b3 := b2.trans (hb.mono b2.size)
      have g3 := blk_below hb (lt_of_blk g3) g3
      clear hb
      refine shutK hK (⟨(b3.cell (p := ⟨w.heap.size, 0, none⟩) hW0).trans k0, (b3.cell (p := ⟨w.heap.size, 1, none⟩) hW0).trans k1⟩) (fun hHeld => ?_)
      clear hK K
      try simp only [List.getElem_toArray, List.getElem_cons_zero, List.getElem_cons_succ, Act.put, List.setIfInBounds_toArray, List.set_cons_zero, List.set_cons_succ]
  rotate_left 2
  focus
    go_simp
    refine shutK hK (⟨((bD.alloc bD.size _).cell (p := ⟨w.heap.size, 0, none⟩) hW0).trans k0, ((bD.alloc bD.size _).cell (p := ⟨w.heap.size, 1, none⟩) hW0).trans k1⟩) (fun hHeld => ?_)
    clear hK K
    try simp only [List.getElem_toArray, List.getElem_cons_zero, List.getElem_cons_succ, Act.put, List.setIfInBounds_toArray, List.set_cons_zero, List.set_cons_succ]
    refine wpk_name (fun W1 hW1 => ?_)
    have b1 : Below W.heap.size W W1 := by rw [hW1]; exact bD.alloc bD.size (.cells #[strV l, strV [98]] 9)
    have g3 : W1.heap[W.heap.size]? = some (.cells #[strV l, strV [98]] 9 (0, 0)) := by rw [hW1]; exact blk_new rfl
    clear hW1
    refine wpAnyK_ready (rs := [2]) (by kernel_rfl) (by simp) ?_
    refine AllReadyK.cons rfl (fun K hK => ?_) AllReadyK.nil
    go_simp
    refine shutK hK (⟨((b1.alloc b1.size _).cell (p := ⟨w.heap.size, 0, none⟩) hW0).trans k0, ((b1.alloc b1.size _).cell (p := ⟨w.heap.size, 1, none⟩) hW0).trans k1⟩) (fun hHeld => ?_)
    clear hK K
    try simp only [List.getElem_toArray, List.getElem_cons_zero, List.getElem_cons_succ, Act.put, List.setIfInBounds_toArray, List.set_cons_zero, List.set_cons_succ]
    refine wpk_name (fun W2 hW2 => ?_)
    have b2 : Below W.heap.size W W2 := by rw [hW2]; exact b1.alloc b1.size (.cells #[strV l, strV [97]] 9)
    have g1 : W2.heap[W1.heap.size]? = some (.cells #[strV l, strV [97]] 9 (0, 0)) := by rw [hW2]; exact blk_new rfl
    have g3' : W2.heap[W.heap.size]? = some (.cells #[strV l, strV [98]] 9 (0, 0)) := by rw [hW2]; exact blk_old g3
    clear hW2
    refine wpAnyK_ready (rs := [3]) (by kernel_rfl) (by simp) ?_
    refine AllReadyK.cons rfl (fun K hK => ?_) AllReadyK.nil
    go_simp
    refine (sparts_two ka kb l [97] hl (by decide) _ _ g1).mono ?_
    rintro e W3 ⟨rfl, hb⟩
    have b3 := b2.trans (hb.mono b2.size)
    have g3 := blk_below hb (lt_of_blk g3') g3'
    clear hb
    refine shutK hK (⟨(b3.cell (p := ⟨w.heap.size, 0, none⟩) hW0).trans k0, (b3.cell (p := ⟨w.heap.size, 1, none⟩) hW0).trans k1⟩) (fun hHeld => ?_)
    clear hK K
    try simp only [List.getElem_toArray, List.getElem_cons_zero, List.getElem_cons_succ, Act.put, List.setIfInBounds_toArray, List.set_cons_zero, List.set_cons_succ]
  all_goals
    refine wpAnyK_ready (rs := [7]) (by kernel_rfl) (by simp) ?_
    refine AllReadyK.cons rfl (fun K hK => ?_) AllReadyK.nil
    go_simp
    refine (sparts_two ka kb l [98] hl (by decide) _ _ g3).mono ?_; rintro e w4 ⟨rfl, hb⟩; have b4 := b3.trans (hb.mono b3.size); clear hb; rw [HP.out, HQ.out]
    refine shutK hK (⟨(b4.cell (p := ⟨w.heap.size, 0, none⟩) hW0).trans k0, (b4.cell (p := ⟨w.heap.size, 1, none⟩) hW0).trans k1⟩) (fun hHeld => ?_)
    clear hK K
    try simp only [List.getElem_toArray, List.getElem_cons_zero, List.getElem_cons_succ, Act.put, List.setIfInBounds_toArray, List.set_cons_zero, List.set_cons_succ]
    refine wpAnyK_take (i := 8) (v := ?_) rfl (by kernel_rfl) (by kernel_rfl) (by kernel_rfl) (by kernel_rfl) (fun _ _ _ h => h) (Or.inl ⟨by rfl, ?_⟩) (by assumption) ?_
    rotate_left 1
    · (intro wS hSw; (try dsimp only at hSw); go_simp; try with_reducible rfl)
    try simp only [List.getElem_toArray, List.getElem_cons_zero, List.getElem_cons_succ, Act.put, List.setIfInBounds_toArray, List.set_cons_zero, List.set_cons_succ]
    have hz4 := blk_below b4 (lt_of_blk hz0) hz0
    have hz5 := lt_of_blk hz4
    obtain ⟨z0, z1⟩ := cells2K hz4
    have y0 := frozen_of_row _ _ 0 _ _ hz4
    have y1 := frozen_of_row _ _ 1 _ _ hz4
    refine wpAnyK_ready (rs := [9]) (by kernel_rfl) (by simp) ?_
    refine AllReadyK.cons rfl (fun K hK => ?_) AllReadyK.nil
    go_simp
    refine shutK_off hK (by decide) ?_
    clear hK K
    try simp only [List.getElem_toArray, List.getElem_cons_zero, List.getElem_cons_succ, Act.put, List.setIfInBounds_toArray, List.set_cons_zero, List.set_cons_succ]
    refine wpAnyK_done (by kernel_rfl) ?_ _
    refine NoPanic.normal ?_
    go_wp2_with fail
    exact bodyPost_row1 rfl rfl (blk_set (i := 1) (v := .int .u64 q) (blk_set (i := 0) (v := .int .u64 p) hz4)) Tryz.underlying45 rfl (by kernel_rfl)
      ⟨rfl, ((hb0.trans (b4.mono hb0.size)).setCell (p := ⟨w.heap.size + 1, 0, none⟩) (Nat.le_succ _) _).setCell (p := ⟨w.heap.size + 1, 1, none⟩) (Nat.le_succ _) _⟩
end Go.Proofs.YteijllklpneagaaGreatDoor
end
section
/- bitset, the program's: lengths, valid arrays, new arrays. -/
set_option linter.unusedSimpArgs false
set_option linter.unusedVariables false
set_option maxRecDepth 100000
namespace Go.Proofs.YteijllklpneagaaGreatDoor
open Go.RowKit
set_option maxHeartbeats 400000 in
theorem right_any (n : Int) (w : World) (hn : -1000000000000000000 ≤ n) (hn2 : n ≤ 1000000000000000000) :
    Calls Tryz.prog 134 #[.int .i64 n] w fun e w' => e = .returned (.bool (rightB n)) ∧ w = w' := by
  unfold rightB
  by_cases h1 : 64 ≤ n
  · by_cases h2 : n ≤ 512
    · have e1 : decide ((64 : Int) ≤ n) = true := by simpa using h1
      have e2 : decide (n ≤ (512 : Int)) = true := by simpa using h2
      rw [e1, e2]
      go_enter Tryz.func134, Tryz.ntmps134
      go_wp2_with fail
      go_ret
      exact ⟨rfl, rfl⟩
    · have e1 : decide ((64 : Int) ≤ n) = true := by simpa using h1
      have e2 : decide (n ≤ (512 : Int)) = false := by simpa using h2
      rw [e1, e2]
      go_enter Tryz.func134, Tryz.ntmps134
      go_wp2_with fail
      go_ret
      exact ⟨rfl, rfl⟩
  · have e1 : decide ((64 : Int) ≤ n) = false := by simpa using h1
    rw [e1]
    go_enter Tryz.func134, Tryz.ntmps134
    go_wp2_with fail
    go_ret
    exact ⟨rfl, rfl⟩
/-- words of an array -/
abbrev encU (x : Int) : List Value := [.int .u64 x]
theorem made_words (m : Nat) : madeCells #[.int .u64 0] m = ((List.replicate m (0 : Int)).flatMap encU).toArray := by
  apply Array.ext'
  have : ∀ k, (List.replicate k (0 : Int)).flatMap encU = List.replicate k (.int .u64 0) := by
    intro k; induction k with
    | zero => rfl
    | succ k ih => rw [List.replicate_succ, List.flatMap_cons, ih]; rfl
  rw [this]
  unfold madeCells
  rw [Array.toList_map, Array.toList_range]
  refine List.ext_getElem (by simp) fun i h1 h2 => ?_
  simp [Nat.mod_one]
def NewPost (n : Int) (w : World) (e : Ending) (w' : World) : Prop := ∃ (g m : Nat), e = .returned (.tuple #[.agg #[.int .i64 n, .slice (some ⟨g, 0, none⟩) m m], .int .i64 0]) ∧ n = 64 * m ∧ w.heap.size ≤ g ∧ w'.heap[g]? = some (.cells ((zeroW n).flatMap encU).toArray 43 (0, 0)) ∧ Below w.heap.size w w'
theorem infoU : (Tryz.prog.info? 43).map (fun i => (i.zero, i.size, i.bytes)) = some (some (.int .u64 0), 1, 8) := by kernel_rfl
set_option maxHeartbeats 1000000 in
theorem bnew_yes (n : Int) (w : World) (h : rightB n = true) : Calls Tryz.prog 103 #[.int .i64 n] w (NewPost n w) := by
  have h0 := h
  simp only [rightB, Bool.and_eq_true, decide_eq_true_iff, beq_iff_eq] at h0
  obtain ⟨⟨h1, h2⟩, h3⟩ := h0
  obtain ⟨m, hm⟩ : ∃ m : Nat, n = 64 * m := ⟨(n / 64).toNat, by omega⟩
  have hdiv : n / 64 = (m : Int) := by omega
  have hz : zeroW n = List.replicate m 0 := by unfold zeroW; rw [hdiv]; rfl
  have hmk := run_make_row' (P := Tryz.prog) 86 43 (.int .u64 0) 8 Tryz.underlying86 infoU rfl .i64 .i64 m (by omega) (by omega)
  rw [made_words] at hmk
  have HR := Lib.hid h; have HM := Lib.hid hm; have HZ := Lib.hid hz
  clear h hm h3 hz
  go_enter Tryz.func103, Tryz.ntmps103
  go_wp2_with fail
  refine (right_any n _ (by omega) (by omega)).mono ?_
  rw [HR.out]
  rintro e w1 ⟨rfl, rfl⟩
  go_wp2_with fail
  exact bodyPost_row2 rfl rfl (blk_old (blk_new rfl)) Tryz.underlying88 rfl (by kernel_rfl)
    ⟨w.heap.size + 1, m, rfl, HM.out, Nat.le_succ _, by rw [HZ.out]; exact blk_new (by simp), ((Below.refl _ _).alloc (Nat.le_refl _) _).alloc (by simp) _⟩
/-- an array of bits: its two cells -/
def BitsAt (w : World) (S : Nat → Prop) (v : Value) (b : BitsL) : Prop := ∃ s, v = .agg #[.int .i64 b.len, s] ∧ Vec w S 1 encU s b.words
def validB (b : BitsL) : Bool := rightB b.len && ((b.words.length : Int) == b.len / 64)
set_option maxHeartbeats 1000000 in
theorem bvalid_any (S : Nat → Prop) (v : Value) (b : BitsL) (w : World) (h : BitsAt w S v b) (hn : -1000000000000000000 ≤ b.len) (hn2 : b.len ≤ 1000000000000000000) :
    Calls Tryz.prog 92 #[v] w fun e w' => e = .returned (.bool (validB b)) ∧ Below w.heap.size w w' := by
  obtain ⟨s, rfl, hv⟩ := h
  obtain ⟨a, cap, rfl⟩ := hv.slice
  clear hv
  unfold validB
  cases hr : rightB b.len
  · have HR := Lib.hid hr; clear hr
    go_enter Tryz.func92, Tryz.ntmps92
    go_wp2_with fail
    refine (right_any _ _ hn hn2).mono ?_
    rw [HR.out]
    rintro e w1 ⟨rfl, rfl⟩
    go_wp2_with fail
    go_ret
    exact ⟨rfl, (Below.refl _ _).alloc (Nat.le_refl _) _⟩
  · have h0 := hr
    simp only [rightB, Bool.and_eq_true, decide_eq_true_iff, beq_iff_eq] at h0
    obtain ⟨⟨h1, h2⟩, h3⟩ := h0
    have HR := Lib.hid hr; clear hr h3
    go_enter Tryz.func92, Tryz.ntmps92
    go_wp2_with fail
    refine (right_any _ _ hn hn2).mono ?_
    rw [HR.out]
    rintro e w1 ⟨rfl, rfl⟩
    go_wp2_with fail
    go_ret
    exact ⟨rfl, (Below.refl _ _).alloc (Nat.le_refl _) _⟩
set_option maxHeartbeats 1000000 in
theorem bcheck_yes (p : ParL) (w : World) (h : ParOk p) :
    Calls Tryz.prog 93 #[.agg #[.int .i64 p.len, .int .i64 p.hashes, .int .i64 p.salt]] w fun e w' => e = .returned (.int .i64 0) ∧ Below w.heap.size w w' := by
  have hr := h.right
  have e1 : decide (p.hashes < (1 : Int)) = false := by have := h.h1; simp; omega
  have e2 : decide ((16 : Int) < p.hashes) = false := by have := h.h2; simp; omega
  have e3 : decide (p.salt < (-1 : Int)) = false := by have := h.s1; simp; omega
  have e4 : decide ((5 : Int) ≤ p.salt) = false := by have := h.s2; simp; omega
  clear h
  go_enter Tryz.func93, Tryz.ntmps93
  go_wp2_with fail
  refine (bnew_yes _ _ hr).mono ?_
  rintro e w1 ⟨g, m, rfl, -, hg, -, hb⟩
  have HB := Lib.hid (((Below.refl w.heap.size w).alloc (Nat.le_refl _) (.cells #[.int .i64 p.len, .int .i64 p.hashes, .int .i64 p.salt] 85)).trans (hb.mono (by simp)))
  have HX := Lib.hid (blk_below (b := w.heap.size) (o := .cells #[.int .i64 p.len, .int .i64 p.hashes, .int .i64 p.salt] 85 (0, 0)) hb (by simp) (blk_new rfl))
  clear hb hg
  have z0 := lt_of_blk HX.out
  obtain ⟨p0, p1, p2⟩ := cells3 HX.out
  go_wp2_with fail
  go_ret
  exact ⟨rfl, HB.out.alloc HB.out.size _⟩
end Go.Proofs.YteijllklpneagaaGreatDoor
end
section
/- Plain: comparing arrays and encoded records; which are valid. -/
set_option linter.unusedSimpArgs false
set_option linter.unusedVariables false
namespace Go.Proofs.YteijllklpneagaaGreatDoor
open Go.RowKit
theorem getD_at {α : Type} (l : List α) (d : α) {i : Nat} (h : i < l.length) : l.getD i d = l[i] := by rw [List.getD, List.getElem?_eq_getElem h]; rfl
def cmp3 (x y : Int) : Int := if x < y then -1 else if y < x then 1 else 0
theorem cmp3_self (x : Int) : cmp3 x x = 0 := by unfold cmp3; simp
theorem cmp3_eq {x y : Int} (h : cmp3 x y = 0) : x = y := by
  unfold cmp3 at h
  split at h
  · simp at h
  · split at h
    · simp at h
    · omega
def cmpW : List Int → List Int → Int
  | [], [] => 0
  | [], _ :: _ => -1
  | _ :: _, [] => 1
  | x :: a, y :: b => if cmp3 x y = 0 then cmpW a b else cmp3 x y
theorem cmpW_self : ∀ a : List Int, cmpW a a = 0
  | [] => rfl
  | x :: a => by unfold cmpW; rw [if_pos (cmp3_self x)]; exact cmpW_self a
theorem cmpW_eq : ∀ a b : List Int, cmpW a b = 0 → a = b
  | [], [], _ => rfl
  | [], _ :: _, h => by simp [cmpW] at h
  | _ :: _, [], h => by simp [cmpW] at h
  | x :: a, y :: b, h => by
    unfold cmpW at h
    split at h
    next h1 => rw [cmp3_eq h1, cmpW_eq a b h]
    next h1 => exact absurd h h1
theorem cmpW_nilr : ∀ a : List Int, cmpW a [] = if a.length = 0 then 0 else 1
  | [] => rfl
  | _ :: _ => rfl
theorem cmpW_nill : ∀ b : List Int, cmpW [] b = if b.length = 0 then 0 else -1
  | [] => rfl
  | _ :: _ => rfl
theorem cmpW_drop {a b : List Int} {k : Nat} (h1 : k < a.length) (h2 : k < b.length) : cmpW (a.drop k) (b.drop k) = if cmp3 (a.getD k 0) (b.getD k 0) = 0 then cmpW (a.drop (k + 1)) (b.drop (k + 1)) else cmp3 (a.getD k 0) (b.getD k 0) := by
  rw [List.drop_eq_getElem_cons h1, List.drop_eq_getElem_cons h2, getD_at _ _ h1, getD_at _ _ h2]; rfl
/-- the first that is not zero -/
def orN : List Int → Int
  | [] => 0
  | x :: l => if x = 0 then orN l else x
def cmpB (a b : BitsL) : Int := orN [cmp3 a.len b.len, cmp3 a.words.length b.words.length, cmpW a.words b.words]
theorem cmpB_self (a : BitsL) : cmpB a a = 0 := by simp [cmpB, orN, cmp3_self, cmpW_self]
theorem orN_zero : ∀ {l : List Int}, orN l = 0 → ∀ x ∈ l, x = 0
  | [], _, x, h => by simp at h
  | y :: l, h, x, hx => by
    unfold orN at h
    split at h
    next h1 =>
      rcases List.mem_cons.1 hx with rfl | hx
      · exact h1
      · exact orN_zero h x hx
    next h1 => exact absurd h h1
theorem cmpB_eq {a b : BitsL} (h : cmpB a b = 0) : a = b := by
  obtain ⟨n, u⟩ := a; obtain ⟨m, v⟩ := b
  have h1 := orN_zero h (cmp3 n m) (by simp)
  have h2 := orN_zero h (cmpW u v) (by simp)
  rw [cmp3_eq h1, cmpW_eq _ _ h2]
/-- two lists of arrays are equal -/
def sameAt (A B : List BitsL) (j : Nat) : Bool := decide (cmpB (A.getD j noBits) (B.getD j noBits) = 0)
def sameF (A B : List BitsL) : Bool := decide (A.length = B.length) && (List.range A.length).all (sameAt A B)
def sameE (a b : EncL) : Bool := decide (a.id = b.id) && (decide (a.ver = b.ver) && sameF a.fields b.fields)
theorem sameF_self (A : List BitsL) : sameF A A = true := by simp [sameF, sameAt, cmpB_self]
theorem sameE_self (a : EncL) : sameE a a = true := by simp [sameE, sameF_self]
def noneB (b : BitsL) : Bool := decide (b.len = 0) && decide (b.words.length = 0)
def badB (b : BitsL) : Bool := !noneB b && !validB b
def evalidB (e : EncL) : Bool := decide (1 ≤ e.id) && decide (e.id ≤ 1048576) && decide (1 ≤ e.ver) && decide (e.ver ≤ 1048576) && decide (1 ≤ e.fields.length) && decide (e.fields.length ≤ 5) && !(e.fields.any badB)
end Go.Proofs.YteijllklpneagaaGreatDoor
end
