/- Parts of one proof: SchD, SchE, SchF, SchI, SchK, SchL, SchM, GramPlain, IterL, Iter, SchG, SchH, GramA, SchN, GramC, GramB, GramD, RecPlain, EncPlain, MakeA. -/
import Derived.Test.YtoeplomdcannlaaGreatDoorPartEb2
import Derived.Sort.KeysCollected
import Derived.Sort.Walk0
import Derived.Shelf.SlIter.Nil
import Derived.Shelf.SortM.Plain
import Derived.Shelf.SortM.SortNone
import Derived.Ground.GgzProg
import Derived.Ground.SlgmProg
import Derived.Maps.OwnSet
import Derived.StringKeys
import Derived.Lib.ItoaNum
set_option linter.unusedSimpArgs false
set_option linter.unusedVariables false
namespace Go.Proofs.YtoeplomdcannlaaGreatDoor
section
set_option maxRecDepth 100000
open Go.RowKit Cal
attribute [local go_sem] toList_mk mk_size
/-- what is done with the values of kind k -/
def kindAt (k : Int) : Array Value := if k = 1 then kind1 else if k = 2 then kind2 else if k = 3 then kind3 else if k = 4 then kind4 else kind0
/-- the kind of a field, and the error -/
def findN (s : SchemaL) (f : Int) : Int × Int := if checkS s = 0 then (if 0 ≤ f ∧ f < s.fields.length then ((s.fields.getD f.toNat default).2, 0) else (0, 2)) else (0, checkS s)
def findV (p : Int × Int) : Value := .tuple #[.agg (kindAt p.1), .int .i64 p.2]
theorem check_fields {s : SchemaL} (h : checkS s = 0) : (1 ≤ s.fields.length ∧ s.fields.length ≤ 5) ∧ fieldsB s.fields = true ∧ checkR s.rules = 0 := by
  unfold checkS at h
  split at h
  · omega
  · split at h
    · rename_i h1 h2; exact ⟨by omega, h2, h⟩
    · omega
theorem field_kind {F : List F2} (h : fieldsB F = true) (j : Nat) (hj : j < F.length) : 1 ≤ (F.getD j default).2 ∧ (F.getD j default).2 ≤ 4 := by
  have := List.all_eq_true.1 h j (List.mem_range.2 hj)
  unfold fieldAtB at this
  simp only [Bool.and_eq_true, decide_eq_true_iff] at this
  exact ⟨this.1.2, this.2⟩
theorem heap_setRow {w : World} {g : Nat} {old cs : Array Value} {t : TypeId} {fr : Nat × Nat} (h : w.heap[g]? = some (.cells old t fr)) : (w.setRow g cs).heap[g]? = some (.cells cs t fr) := by
  have hlt := lt_of_blk h
  have h' : w.heap[g] = .cells old t fr := by simpa [Array.getElem?_eq_getElem hlt] using h
  show (w.heap.modify g _)[g]? = _
  rw [Array.getElem?_eq_getElem (by simpa using hlt), Array.getElem_modify_self, h']
theorem below_setRow {B g : Nat} {a w : World} {cs : Array Value} (h : Below B a w) (hg : B ≤ g) : Below B a (w.setRow g cs) := by
  refine ⟨h.os, h.tape, h.output, by simpa [World.setRow] using h.size, fun k hk => ?_⟩
  show (w.heap.modify g _)[k]? = _
  rw [Array.getElem?_modify, if_neg (by omega)]
  exact h.block k hk
set_option maxHeartbeats 1000000 in
theorem find_bad (S : Nat → Prop) (vf vt vn vs : Value) (s : SchemaL) (f : Int) (w : World) (h : SchemaAt w S vf vt vn vs s) (hc : checkS s ≠ 0) :
    Calls Tryz.prog 131 #[.agg #[vf, vt, vn, vs], .int .i64 f] w fun e w' => e = .returned (findV (findN s f)) ∧ Below w.heap.size w w' := by
  have HS := Lib.hid h.any
  have HF := Lib.hid (show findN s f = (0, checkS s) by unfold findN; rw [if_neg hc])
  have hne : (checkS s != 0) = true := by simpa using hc
  clear h hc
  go_enter Tryz.func131, Tryz.ntmps131
  go_wp2_with fail
  refine (scheck_any Any1 vf vt vn vs s _ (HS.out.below (((Below.refl _ _).alloc (Nat.le_refl _) _).alloc (by simp) _))).mono ?_
  obtain ⟨c, hcc⟩ : ∃ c, checkS s = c := ⟨_, rfl⟩
  rw [hcc] at hne HF ⊢
  clear hcc
  rintro e w1 ⟨rfl, hb1⟩
  have X1 : w1.heap[w.heap.size + 1]? = some (.cells kind0 167 (0, 0)) := blk_below hb1 (by simp) (heap_alloc2_new _ _ _)
  have HB1 := Lib.hid ((((Below.refl w.heap.size w).alloc (Nat.le_refl _) (.cells #[vf, vt, vn, vs] 33)).alloc (by simp) (.cells kind0 167)).trans (hb1.mono (by simp; omega)))
  have HX1 := Lib.hid X1
  have z1 := lt_of_blk X1
  clear hb1 X1
  go_wp2_with (refine wpList_store_row rfl 167 (.tmp 4) (.tmp 11) rfl (w.heap.size + 1) kind0 rfl rfl 167 kind0 HX1.out (by kernel_rfl) (by kernel_rfl) (by kernel_rfl) ?_)
  exact bodyPost_row2 rfl rfl (heap_setRow HX1.out) Tryz.underlying167 rfl (by kernel_rfl) ⟨by rw [HF.out]; rfl, below_setRow HB1.out (by omega)⟩
set_option maxHeartbeats 1000000 in
theorem find_out (S : Nat → Prop) (vf vt vn vs : Value) (s : SchemaL) (f : Int) (w : World) (h : SchemaAt w S vf vt vn vs s) (hc : checkS s = 0) (hf : f < 0 ∨ (s.fields.length : Int) ≤ f) :
    Calls Tryz.prog 131 #[.agg #[vf, vt, vn, vs], .int .i64 f] w fun e w' => e = .returned (findV (findN s f)) ∧ Below w.heap.size w w' := by
  obtain ⟨af, cf, rfl⟩ := h.1.slice
  have HS := Lib.hid h.any
  have HF := Lib.hid (show findN s f = (0, 2) by unfold findN; rw [if_pos hc, if_neg (by omega)])
  have HC := Lib.hid hc
  clear h hc
  have hf' : f < 0 ∨ (0 ≤ f ∧ (s.fields.length : Int) ≤ f) := by omega
  clear hf
  rcases hf' with hf | ⟨hf0, hf⟩
  all_goals
    go_enter Tryz.func131, Tryz.ntmps131
    go_wp2_with fail
    refine (scheck_any Any1 _ vt vn vs s _ (HS.out.below (((Below.refl _ _).alloc (Nat.le_refl _) _).alloc (by simp) _))).mono ?_
    rw [HC.out]
    rintro e w1 ⟨rfl, hb1⟩
    have X0 : w1.heap[w.heap.size]? = some (.cells #[.slice af s.fields.length cf, vt, vn, vs] 33 (0, 0)) := blk_below hb1 (by simp; omega) (heap_alloc2_old _ _ _)
    have X1 : w1.heap[w.heap.size + 1]? = some (.cells kind0 167 (0, 0)) := blk_below hb1 (by simp) (heap_alloc2_new _ _ _)
    have HB1 := Lib.hid ((((Below.refl w.heap.size w).alloc (Nat.le_refl _) (.cells #[.slice af s.fields.length cf, vt, vn, vs] 33)).alloc (by simp) (.cells kind0 167)).trans (hb1.mono (by simp; omega)))
    have HX1 := Lib.hid X1
    have z1 := lt_of_blk X1; have z0 := lt_of_blk X0
    obtain ⟨p0, p1, p2, p3⟩ := cells4 X0
    clear hb1 X1 X0
    go_wp2_with (refine wpList_store_row rfl 167 (.tmp 4) (.tmp 22) rfl (w.heap.size + 1) kind0 rfl rfl 167 kind0 HX1.out (by kernel_rfl) (by kernel_rfl) (by kernel_rfl) ?_)
    exact bodyPost_row2 rfl rfl (heap_setRow HX1.out) Tryz.underlying167 rfl (by kernel_rfl) ⟨by rw [HF.out]; rfl, below_setRow HB1.out (by omega)⟩
theorem setRow_other {w : World} {g k : Nat} {cs : Array Value} (h : k ≠ g) : (w.setRow g cs).heap[k]? = w.heap[k]? := by
  show (w.heap.modify g _)[k]? = _
  rw [Array.getElem?_modify, if_neg (fun e => h e.symm)]
theorem index_kind (kd : Int) (h1 : 1 ≤ kd) (h4 : kd ≤ 4) : ∀ w, (Instr.index 203 (.agg kindsV) (.int .i64 kd)).run Tryz.prog w = .ok (.agg (kindAt kd)) w := by
  obtain rfl | rfl | rfl | rfl : kd = 1 ∨ kd = 2 ∨ kd = 3 ∨ kd = 4 := by omega
  · exact fun w => by kernel_rfl
  · exact fun w => by kernel_rfl
  · exact fun w => by kernel_rfl
  · exact fun w => by kernel_rfl
theorem kindAt_one (kd : Int) : (kindAt kd).all (·.oneCell') = true ∧ (kindAt kd).size = 4 := by
  unfold kindAt
  repeat' split
  all_goals exact ⟨by kernel_rfl, by kernel_rfl⟩
set_option maxHeartbeats 4000000 in
theorem find_in' (S : Nat → Prop) (vf vt vn vs : Value) (s : SchemaL) (f : Nat) (w : World) (h : SchemaAt w S vf vt vn vs s) (hc : checkS s = 0) (hf : f < s.fields.length) :
    Calls Tryz.prog 131 #[.agg #[vf, vt, vn, vs], .int .i64 f] w fun e w' => e = .returned (findV (findN s f)) ∧ Below w.heap.size w w' := by
  obtain ⟨af, cf, rfl⟩ := h.1.slice
  obtain ⟨⟨g1, g2⟩, g3, g4⟩ := check_fields hc
  obtain ⟨b, off, rfl, _, hb, hcc⟩ := vec_cell2 h.1 (by omega)
  have hc1 := hcc f hf 1 _ rfl
  obtain ⟨k1, k4⟩ := field_kind g3 f hf
  have HF' := Lib.hid (show findN s f = ((s.fields.getD f default).2, 0) by unfold findN; rw [if_pos hc, if_pos (by omega)]; simp)
  obtain ⟨kd, hkd⟩ : ∃ kd, (s.fields.getD f default).2 = kd := ⟨_, rfl⟩
  rw [hkd] at HF' hc1 k1 k4
  have HF := HF'
  have HS := Lib.hid h.any
  have HC := Lib.hid hc
  have hix := index_kind kd k1 k4
  obtain ⟨ko, ks⟩ := kindAt_one kd
  have KO := Lib.hid ko; have KS := Lib.hid ks
  have HIX := Lib.hid hix
  have HC1 := Lib.hid hc1
  clear h hc g3 g4 hcc hkd HF' ko ks hix hc1
  have hlt' : (f : Int) < (s.fields.length : Int) := by omega
  go_enter Tryz.func131, Tryz.ntmps131
  go_wp2_with fail
  refine (scheck_any Any1 _ vt vn vs s _ (HS.out.below (((Below.refl _ _).alloc (Nat.le_refl _) _).alloc (by simp) _))).mono ?_
  rw [HC.out]
  rintro e w1 ⟨rfl, hb1⟩
  have X0 : w1.heap[w.heap.size]? = some (.cells #[.slice (some ⟨b, off, none⟩) s.fields.length cf, vt, vn, vs] 33 (0, 0)) := blk_below hb1 (by simp; omega) (heap_alloc2_old _ _ _)
  have X1 : w1.heap[w.heap.size + 1]? = some (.cells kind0 167 (0, 0)) := blk_below hb1 (by simp) (heap_alloc2_new _ _ _)
  have HB1 := Lib.hid ((((Below.refl w.heap.size w).alloc (Nat.le_refl _) (.cells #[.slice (some ⟨b, off, none⟩) s.fields.length cf, vt, vn, vs] 33)).alloc (by simp) (.cells kind0 167)).trans (hb1.mono (by simp; omega)))
  have c1 : w1.cell? ⟨b, off + f * 2 + 1, none⟩ = some (.int .i64 kd) := (HB1.out.cell (p := ⟨b, off + f * 2 + 1, none⟩) hb).trans HC1.out
  have HX1 := Lib.hid X1
  have z1 := lt_of_blk X1; have z0 := lt_of_blk X0
  have zb : b < w1.heap.size := Nat.lt_of_lt_of_le hb HB1.out.size
  obtain ⟨p0, p1, p2, p3⟩ := cells4 X0
  clear hb1 X1 X0
  go_wp2_with fail
  refine wp_region_noPanic ?_
  refine wp_region_held_drew (S := (fun w' => w'.cell? ⟨w.heap.size, 0, none⟩ = some (.slice (some ⟨b, off, none⟩) s.fields.length cf) ∧ w'.cell? ⟨b, off + f * 2 + 1, none⟩ = some (.int .i64 kd))) (by kernel_rfl) (⟨p0, c1⟩) (fun hHeld => ?_)
  refine tH 1 (h := ?_)
  try simp only [List.getElem_toArray, List.getElem_cons_zero, List.getElem_cons_succ, Act.put, List.setIfInBounds_toArray, List.set_cons_zero, List.set_cons_succ]
  refine tH 2 (h := ?_)
  try simp only [List.getElem_toArray, List.getElem_cons_zero, List.getElem_cons_succ, Act.put, List.setIfInBounds_toArray, List.set_cons_zero, List.set_cons_succ]
  refine tH 3 (h := ?_)
  try simp only [List.getElem_toArray, List.getElem_cons_zero, List.getElem_cons_succ, Act.put, List.setIfInBounds_toArray, List.set_cons_zero, List.set_cons_succ]
  refine tH 4 (h := ?_)
  try simp only [List.getElem_toArray, List.getElem_cons_zero, List.getElem_cons_succ, Act.put, List.setIfInBounds_toArray, List.set_cons_zero, List.set_cons_succ]
  refine tH 5 (h := ?_)
  try simp only [List.getElem_toArray, List.getElem_cons_zero, List.getElem_cons_succ, Act.put, List.setIfInBounds_toArray, List.set_cons_zero, List.set_cons_succ]
  refine tH 6 (h := ?_)
  try simp only [List.getElem_toArray, List.getElem_cons_zero, List.getElem_cons_succ, Act.put, List.setIfInBounds_toArray, List.set_cons_zero, List.set_cons_succ]
  refine wpAnyH_ready (rs := [0]) (by kernel_rfl) (by simp) ?_
  refine AllReadyH.cons rfl (fun K hK => ?_) AllReadyH.nil
  go_simp
  refine (kinds_any _).mono ?_; rintro e w2 ⟨rfl, hb2⟩; have p0a := (hb2.cell (p := ⟨w.heap.size, 0, none⟩) z0).trans p0; have c1a := (hb2.cell (p := ⟨b, off + f * 2 + 1, none⟩) zb).trans c1; have HB2 := Lib.hid (HB1.out.drew.trans (hb2.mono HB1.out.size)); have HX2 := Lib.hid (blk_below hb2 z1 HX1.out)
  refine hK.out _ _ (⟨p0a, c1a⟩) (fun hHeld => ?_)
  clear hK K
  try simp only [List.getElem_toArray, List.getElem_cons_zero, List.getElem_cons_succ, Act.put, List.setIfInBounds_toArray, List.set_cons_zero, List.set_cons_succ]
  have hix := HIX.out
  refine tH 7 (h := ?_)
  try simp only [List.getElem_toArray, List.getElem_cons_zero, List.getElem_cons_succ, Act.put, List.setIfInBounds_toArray, List.set_cons_zero, List.set_cons_succ]
  refine wpAnyH_ready (rs := [8]) (by kernel_rfl) (by simp) ?_
  refine AllReadyH.cons rfl (fun K hK => ?_) AllReadyH.nil
  refine wp_store_row 167 (.tmp 4) (.tmp 30) rfl (w.heap.size + 1) (kindAt kd) rfl rfl 167 kind0 HX2.out (by rw [KS.out]; kernel_rfl) (by rw [KS.out]; rfl) KO.out ?_
  have p0b : (w2.setRow (w.heap.size + 1) (kindAt kd)).cell? ⟨w.heap.size, 0, none⟩ = some (.slice (some ⟨b, off, none⟩) s.fields.length cf) := (World.cell?_of_block (w := w2) (a := ⟨w.heap.size, 0, none⟩) (setRow_other (show w.heap.size ≠ w.heap.size + 1 by omega))).trans p0a
  have c1b : (w2.setRow (w.heap.size + 1) (kindAt kd)).cell? ⟨b, off + f * 2 + 1, none⟩ = some (.int .i64 kd) := (World.cell?_of_block (w := w2) (a := ⟨b, off + f * 2 + 1, none⟩) (setRow_other (show b ≠ w.heap.size + 1 by omega))).trans c1a
  refine hK.out _ _ ⟨p0b, c1b⟩ (fun hHeld => ?_)
  clear hK K
  try simp only [List.getElem_toArray, List.getElem_cons_zero, List.getElem_cons_succ, Act.put, List.setIfInBounds_toArray, List.set_cons_zero, List.set_cons_succ]
  refine tH 9 (h := ?_)
  try simp only [List.getElem_toArray, List.getElem_cons_zero, List.getElem_cons_succ, Act.put, List.setIfInBounds_toArray, List.set_cons_zero, List.set_cons_succ]
  refine wpAnyH_done (by kernel_rfl) ?_ _
  refine NoPanic.normal ?_
  go_wp2_with fail
  exact bodyPost_row2 rfl rfl (heap_setRow HX2.out) Tryz.underlying167 rfl (by rw [KS.out]; kernel_rfl) ⟨by rw [HF.out]; rfl, below_setRow HB2.out (by omega)⟩
theorem find_s (S : Nat → Prop) (vf vt vn vs : Value) (s : SchemaL) (f : Int) (w : World) (h : SchemaAt w S vf vt vn vs s) :
    Calls Tryz.prog 131 #[.agg #[vf, vt, vn, vs], .int .i64 f] w fun e w' => e = .returned (findV (findN s f)) ∧ Below w.heap.size w w' := by
  by_cases hc : checkS s = 0
  · by_cases hf : 0 ≤ f ∧ f < s.fields.length
    · obtain ⟨n, rfl⟩ := Int.eq_ofNat_of_zero_le hf.1
      exact find_in' S vf vt vn vs s n w h hc (by omega)
    · exact find_out S vf vt vn vs s f w h hc (by omega)
  · exact find_bad S vf vt vn vs s f w h hc
end
section
set_option maxRecDepth 100000
open Go.RowKit Cal
attribute [local go_sem] toList_mk mk_size
def normK (k : Int) (r : RulesL) (l : List UInt8) : List UInt8 × Int := if k = 1 then nameN r l else if k = 2 then dayN l else if k = 3 then codeN l else addrN r l
/-- the normal form of a raw value, and the error -/
def valueN (s : SchemaL) (f : Int) (l : List UInt8) : List UInt8 × Int := if (findN s f).2 = 0 then (if l = [] then ([], 0) else normK (findN s f).1 s.rules l) else ([], (findN s f).2)
def ownK (k : Int) (r : RulesL) (l : List UInt8) : Bool := if k = 1 then isOwn (nameN r l) l else if k = 2 then readB l else if k = 3 then isOwn (codeN l) l else isOwn (addrN r l) l
/-- is a value in normal form -/
def normalB (s : SchemaL) (f : Int) (l : List UInt8) : Bool := if (findN s f).2 = 0 then (if l = [] then true else ownK (findN s f).1 s.rules l) else false
theorem findN_kind {s : SchemaL} {f : Int} (h : (findN s f).2 = 0) : (findN s f).1 = 1 ∨ (findN s f).1 = 2 ∨ (findN s f).1 = 3 ∨ (findN s f).1 = 4 := by
  by_cases hc : checkS s = 0
  · unfold findN at h ⊢
    rw [if_pos hc] at h ⊢
    by_cases hf : 0 ≤ f ∧ f < s.fields.length
    · rw [if_pos hf]
      have := field_kind (check_fields hc).2.1 f.toNat (by omega)
      dsimp only
      omega
    · rw [if_neg hf] at h
      simp at h
  · unfold findN at h
    rw [if_neg hc] at h
    exact absurd h hc
end
section
set_option maxRecDepth 100000
open Go.RowKit Cal
attribute [local go_sem] toList_mk mk_size
set_option maxHeartbeats 4000000 in
theorem normal_s (S : Nat → Prop) (vf vt vn vs : Value) (s : SchemaL) (f : Int) (x : ByteArray) (w : World) (h : SchemaAt w S vf vt vn vs s) (hx : x.size ≤ 9223372036854775000) :
    Calls Tryz.prog 125 #[.agg #[vf, vt, vn, vs], .int .i64 f, .string x] w fun e w' => e = .returned (.bool (normalB s f x.data.toList)) ∧ Below w.heap.size w w' := by
  have HS := Lib.hid h.any
  have HL := Lib.hid (Lib.toList_data x)
  have hfin : ∀ p, normalB s f x.data.toList = p → Ending.returned (.bool p) = .returned (.bool (normalB s f x.data.toList)) := fun p h => by rw [h]
  have HF := Lib.hid hfin
  clear h hfin
  have K := find_s Any1 vf vt vn vs s f (w.alloc (.cells #[vf, vt, vn, vs] 33)) (HS.out.below ((Below.refl _ _).alloc (Nat.le_refl _) _))
  have hkk := findN_kind (s := s) (f := f)
  have hval : normalB s f x.data.toList = if (findN s f).2 = 0 then (if x.data.toList = [] then true else ownK (findN s f).1 s.rules x.data.toList) else false := rfl
  obtain ⟨⟨kd, er⟩, hp⟩ : ∃ p, findN s f = p := ⟨_, rfl⟩
  rw [hp] at K hkk hval
  dsimp only at hkk hval
  change Calls _ _ _ _ fun e w' => e = .returned (.tuple #[.agg (kindAt kd), .int .i64 er]) ∧ _ at K
  have HK := Lib.hid K
  have HVal := Lib.hid hval
  obtain ⟨ko, ks⟩ := kindAt_one kd
  have KO := Lib.hid ko; have KS := Lib.hid ks
  clear K hp hval ko ks
  by_cases he : er = 0
  · subst he
    have hkd := hkk rfl
    clear hkk
    by_cases hx0 : x.data.toList = []
    · have e1 : x.toList = [] := by rw [HL.out, hx0]
      have HE := Lib.hid (show normalB s f x.data.toList = true by rw [HVal.out, if_pos rfl, if_pos hx0])
      clear hx0 hkd
      go_enter Tryz.func125, Tryz.ntmps125
      go_wp2_with fail
      refine HK.out.mono ?_
      rintro e w1 ⟨rfl, hb1⟩
      have HB1 := Lib.hid (((Below.refl w.heap.size w).alloc (Nat.le_refl _) (.cells #[vf, vt, vn, vs] 33)).trans (hb1.mono (by simp)))
      have HX1 := Lib.hid (blk_below (b := w.heap.size) (o := .cells #[vf, vt, vn, vs] 33 (0, 0)) hb1 (by simp) (blk_new rfl))
      clear hb1 HK
      go_wp2_with (refine wpList_store_row rfl 167 (.tmp 7) (.tmp 13) rfl w1.heap.size (kindAt kd) rfl rfl 167 kind0 (heap_alloc_new w1 _) (by rw [KS.out]; kernel_rfl) (by rw [KS.out]; rfl) KO.out ?_; rw [World.setRow_alloc_new])
      go_ret
      exact ⟨HF.out _ HE.out, HB1.out.alloc HB1.out.size _⟩
    · have e1 : (x.toList == []) = false := by rw [HL.out]; simpa using hx0
      have e2 : x.toList.isEmpty = false := by rw [HL.out]; simpa using hx0
      have HE := Lib.hid (show normalB s f x.data.toList = ownK kd s.rules x.data.toList by rw [HVal.out, if_pos rfl, if_neg hx0])
      clear hx0
      rcases hkd with rfl | rfl | rfl | rfl
      · have HE2 := Lib.hid (show normalB s f x.data.toList = isOwn (nameN s.rules x.data.toList) x.data.toList from HE.out)
        go_enter Tryz.func125, Tryz.ntmps125
        go_wp2_with fail
        refine HK.out.mono ?_
        rintro e w1 ⟨rfl, hb1⟩
        have HB1 := Lib.hid (((Below.refl w.heap.size w).alloc (Nat.le_refl _) (.cells #[vf, vt, vn, vs] 33)).trans (hb1.mono (by simp)))
        have HX1 := Lib.hid (blk_below (b := w.heap.size) (o := .cells #[vf, vt, vn, vs] 33 (0, 0)) hb1 (by simp) (blk_new rfl))
        clear hb1 HK
        have cf : (w1.alloc (.cells (kindAt 1) 167)).cell? ⟨w1.heap.size, 2, none⟩ = some (fnV 222) := by rw [cell_of_row _ _ _ _ _ _ (heap_alloc_new w1 _)]; rfl
        have z0 := lt_of_blk HX1.out
        obtain ⟨p0, p1, p2, p3⟩ := cells4 HX1.out
        go_wp2_with (refine wpList_store_row rfl 167 (.tmp 7) (.tmp 13) rfl w1.heap.size (kindAt 1) rfl rfl 167 kind0 (heap_alloc_new w1 _) (by rw [KS.out]; kernel_rfl) (by rw [KS.out]; rfl) KO.out ?_; rw [World.setRow_alloc_new])
        have HB2 := HB1.out.alloc HB1.out.size (.cells (kindAt 1) 167)
        have HB2' := Lib.hid HB2
        refine (normal_any Any1 vt vn vs s.rules x _ (HS.out.2.below HB2) hx).mono ?_
        clear HB2
        rw [← HE2.out]
        obtain ⟨pb, hpp⟩ : ∃ p, normalB s f x.data.toList = p := ⟨_, rfl⟩
        rw [hpp]
        have HPP := Lib.hid hpp
        rintro e w3 ⟨rfl, hb3⟩
        have HB3 := Lib.hid (HB2'.out.trans (hb3.mono HB2'.out.size))
        clear hb3 hpp HE HE2 cf p0 p1 p2 p3
        go_wp2_with fail
        go_ret
        exact ⟨HF.out _ HPP.out, HB3.out⟩
      · have HE2 := Lib.hid (show normalB s f x.data.toList = readB x.data.toList from HE.out)
        go_enter Tryz.func125, Tryz.ntmps125
        go_wp2_with fail
        refine HK.out.mono ?_
        rintro e w1 ⟨rfl, hb1⟩
        have HB1 := Lib.hid (((Below.refl w.heap.size w).alloc (Nat.le_refl _) (.cells #[vf, vt, vn, vs] 33)).trans (hb1.mono (by simp)))
        have HX1 := Lib.hid (blk_below (b := w.heap.size) (o := .cells #[vf, vt, vn, vs] 33 (0, 0)) hb1 (by simp) (blk_new rfl))
        clear hb1 HK
        have cf : (w1.alloc (.cells (kindAt 2) 167)).cell? ⟨w1.heap.size, 2, none⟩ = some (fnV 225) := by rw [cell_of_row _ _ _ _ _ _ (heap_alloc_new w1 _)]; rfl
        have z0 := lt_of_blk HX1.out
        obtain ⟨p0, p1, p2, p3⟩ := cells4 HX1.out
        go_wp2_with (refine wpList_store_row rfl 167 (.tmp 7) (.tmp 13) rfl w1.heap.size (kindAt 2) rfl rfl 167 kind0 (heap_alloc_new w1 _) (by rw [KS.out]; kernel_rfl) (by rw [KS.out]; rfl) KO.out ?_; rw [World.setRow_alloc_new])
        have HB2 := HB1.out.alloc HB1.out.size (.cells (kindAt 2) 167)
        have HB2' := Lib.hid HB2
        refine (kind1_any vt vn vs x _).mono ?_
        clear HB2
        rw [← HE2.out]
        obtain ⟨pb, hpp⟩ : ∃ p, normalB s f x.data.toList = p := ⟨_, rfl⟩
        rw [hpp]
        have HPP := Lib.hid hpp
        rintro e w3 ⟨rfl, hb3⟩
        have HB3 := Lib.hid (HB2'.out.trans (hb3.mono HB2'.out.size))
        clear hb3 hpp HE HE2 cf p0 p1 p2 p3
        go_wp2_with fail
        go_ret
        exact ⟨HF.out _ HPP.out, HB3.out⟩
      · have HE2 := Lib.hid (show normalB s f x.data.toList = isOwn (codeN x.data.toList) x.data.toList from HE.out)
        go_enter Tryz.func125, Tryz.ntmps125
        go_wp2_with fail
        refine HK.out.mono ?_
        rintro e w1 ⟨rfl, hb1⟩
        have HB1 := Lib.hid (((Below.refl w.heap.size w).alloc (Nat.le_refl _) (.cells #[vf, vt, vn, vs] 33)).trans (hb1.mono (by simp)))
        have HX1 := Lib.hid (blk_below (b := w.heap.size) (o := .cells #[vf, vt, vn, vs] 33 (0, 0)) hb1 (by simp) (blk_new rfl))
        clear hb1 HK
        have cf : (w1.alloc (.cells (kindAt 3) 167)).cell? ⟨w1.heap.size, 2, none⟩ = some (fnV 230) := by rw [cell_of_row _ _ _ _ _ _ (heap_alloc_new w1 _)]; rfl
        have z0 := lt_of_blk HX1.out
        obtain ⟨p0, p1, p2, p3⟩ := cells4 HX1.out
        go_wp2_with (refine wpList_store_row rfl 167 (.tmp 7) (.tmp 13) rfl w1.heap.size (kindAt 3) rfl rfl 167 kind0 (heap_alloc_new w1 _) (by rw [KS.out]; kernel_rfl) (by rw [KS.out]; rfl) KO.out ?_; rw [World.setRow_alloc_new])
        have HB2 := HB1.out.alloc HB1.out.size (.cells (kindAt 3) 167)
        have HB2' := Lib.hid HB2
        refine (kind3_any vt vn vs x _ hx).mono ?_
        clear HB2
        rw [← HE2.out]
        obtain ⟨pb, hpp⟩ : ∃ p, normalB s f x.data.toList = p := ⟨_, rfl⟩
        rw [hpp]
        have HPP := Lib.hid hpp
        rintro e w3 ⟨rfl, hb3⟩
        have HB3 := Lib.hid (HB2'.out.trans (hb3.mono HB2'.out.size))
        clear hb3 hpp HE HE2 cf p0 p1 p2 p3
        go_wp2_with fail
        go_ret
        exact ⟨HF.out _ HPP.out, HB3.out⟩
      · have HE2 := Lib.hid (show normalB s f x.data.toList = isOwn (addrN s.rules x.data.toList) x.data.toList from HE.out)
        go_enter Tryz.func125, Tryz.ntmps125
        go_wp2_with fail
        refine HK.out.mono ?_
        rintro e w1 ⟨rfl, hb1⟩
        have HB1 := Lib.hid (((Below.refl w.heap.size w).alloc (Nat.le_refl _) (.cells #[vf, vt, vn, vs] 33)).trans (hb1.mono (by simp)))
        have HX1 := Lib.hid (blk_below (b := w.heap.size) (o := .cells #[vf, vt, vn, vs] 33 (0, 0)) hb1 (by simp) (blk_new rfl))
        clear hb1 HK
        have cf : (w1.alloc (.cells (kindAt 4) 167)).cell? ⟨w1.heap.size, 2, none⟩ = some (fnV 234) := by rw [cell_of_row _ _ _ _ _ _ (heap_alloc_new w1 _)]; rfl
        have z0 := lt_of_blk HX1.out
        obtain ⟨p0, p1, p2, p3⟩ := cells4 HX1.out
        go_wp2_with (refine wpList_store_row rfl 167 (.tmp 7) (.tmp 13) rfl w1.heap.size (kindAt 4) rfl rfl 167 kind0 (heap_alloc_new w1 _) (by rw [KS.out]; kernel_rfl) (by rw [KS.out]; rfl) KO.out ?_; rw [World.setRow_alloc_new])
        have HB2 := HB1.out.alloc HB1.out.size (.cells (kindAt 4) 167)
        have HB2' := Lib.hid HB2
        refine (anormal_any Any1 vt vn vs s.rules x _ (HS.out.2.below HB2) hx).mono ?_
        clear HB2
        rw [← HE2.out]
        obtain ⟨pb, hpp⟩ : ∃ p, normalB s f x.data.toList = p := ⟨_, rfl⟩
        rw [hpp]
        have HPP := Lib.hid hpp
        rintro e w3 ⟨rfl, hb3⟩
        have HB3 := Lib.hid (HB2'.out.trans (hb3.mono HB2'.out.size))
        clear hb3 hpp HE HE2 cf p0 p1 p2 p3
        go_wp2_with fail
        go_ret
        exact ⟨HF.out _ HPP.out, HB3.out⟩
  · have hne : (er == 0) = false := by simpa using he
    have HE := Lib.hid (show normalB s f x.data.toList = false by rw [HVal.out, if_neg he])
    clear he hkk
    go_enter Tryz.func125, Tryz.ntmps125
    go_wp2_with fail
    refine HK.out.mono ?_
    rintro e w1 ⟨rfl, hb1⟩
    have HB1 := Lib.hid (((Below.refl w.heap.size w).alloc (Nat.le_refl _) (.cells #[vf, vt, vn, vs] 33)).trans (hb1.mono (by simp)))
    have HX1 := Lib.hid (blk_below (b := w.heap.size) (o := .cells #[vf, vt, vn, vs] 33 (0, 0)) hb1 (by simp) (blk_new rfl))
    clear hb1 HK
    go_wp2_with (refine wpList_store_row rfl 167 (.tmp 7) (.tmp 13) rfl w1.heap.size (kindAt kd) rfl rfl 167 kind0 (heap_alloc_new w1 _) (by rw [KS.out]; kernel_rfl) (by rw [KS.out]; rfl) KO.out ?_; rw [World.setRow_alloc_new])
    go_ret
    exact ⟨HF.out _ HE.out, HB1.out.alloc HB1.out.size _⟩
end
section
set_option maxRecDepth 100000
open Go.RowKit Cal
attribute [local go_sem] toList_mk mk_size
/-- the bytes of a text with their positions, from position j on -/
def posL : Nat → List UInt8 → List (List UInt8)
  | _, [] => []
  | j, c :: l => [UInt8.ofNat (97 + j), c] :: posL (j + 1) l
theorem posL_len (l : List UInt8) : ∀ j, (posL j l).length = l.length := by
  induction l with
  | nil => intro j; rfl
  | cons c l ih => intro j; simp [posL, ih]
theorem posL_snoc (l : List UInt8) (c : UInt8) : ∀ j, posL j (l ++ [c]) = posL j l ++ [[UInt8.ofNat (97 + (j + l.length)), c]] := by
  induction l with
  | nil => intro j; simp [posL]
  | cons d l ih => intro j; simp only [List.cons_append, posL, ih, List.length_cons]; rw [show j + 1 + l.length = j + (l.length + 1) by omega]
theorem two_bytes (w : World) (a b : UInt8) : (convert 55 9 (.slice (some ⟨w.heap.size, 0, none⟩) 2 2)).run Tryz.prog (w.alloc (.cells #[.int .u8 a.toNat, .int .u8 b.toNat] 5)) = .ok (strV [a, b]) (w.alloc (.cells #[.int .u8 a.toNat, .int .u8 b.toNat] 5)) := by
  have ho : (w.alloc (.cells (([a, b] : List UInt8).map byteV).toArray 5)).ownsRow 0 5 1 (.slice (some ⟨w.heap.size, 0, none⟩) 2 2) 2 (([a, b] : List UInt8).map byteV) :=
    ⟨by simp, .inr ⟨_, _, _, rfl, Nat.zero_le _, blk_new rfl, Nat.le_refl _, size_le_maxLen (by omega), by simp, by simp⟩⟩
  exact run_convert_owned [a, b] ho Tryz.underlying55 Tryz.underlying5 Tryz.underlying9
theorem wpList_append_newk {P : Program} {w : World} {ops : Array Oper} {rest : List Oper} {o : Oper} {a : Act} {Q : Exit → Act → World → Prop} (hgd : o.guard = none) (s x : Operand) (t : TypeId)
    (ho : o.op = .call { callee := .builtin .append, args := #[s, x], argTypes := #[t, t] })
    (base : Nat) (e : TypeId) (size bytes : Nat) (z : Value) (ht : P.underlying t = some (.slice e)) (hinfo : (P.info? e).map (fun i => (i.zero, i.size, i.bytes)) = some (some z, size, bytes))
    (hzs : z.cells.size = size) (hsz : 0 < size) (hby : bytes ≤ 128)
    (v : Value) (n : Nat) (xs : List Value) (hs : a.eval s = v) (hown : w.ownsRow base e size v n xs) (k : Nat) (hk : k = w.heap.size)
    (cs : Array Value) (c : Nat) (hx : a.eval x = .slice (some ⟨k, 0, none⟩) 1 c) (hcs : cs.size = size) (h1 : ∀ u ∈ cs.toList, u.oneCell' = true)
    (hn : n < 1099511627776) (hbase : base ≤ w.heap.size)
    (h : ∀ v' w', w'.ownsRow base e size v' (n + 1) (xs ++ cs.toList) → (∀ W, Below base W w → Below base W w') → wpList P ops Q rest (a.put o.dst v') w') :
    wpList P ops Q (o :: rest) a (w.alloc (.cells cs e)) := by
  subst hk
  exact wpList_append_new hgd s x t ho base e size bytes z ht hinfo hzs hsz hby v n xs hs hown cs c hx hcs h1 hn hbase h
set_option maxHeartbeats 2000000 in
theorem positional_any (s : ByteArray) (w : World) (hs : s.size ≤ 26) :
    Calls Tryz.prog 227 #[.string s] w fun e w' => ∃ v, e = .returned v ∧ OwnAt w v (posL 0 s.data.toList) w' := by
  have hl : s.data.toList.length = s.size := by simp
  have HL := Lib.hid hl; clear hl
  have d1 : decide ((26 : Int) < s.size) = false := by simp; omega
  go_enter Tryz.func227, Tryz.ntmps227
  go_wp2_with fail
  clear d1
  go_loopw [3, 10] (fun v i wr => ∃ k : Nat, k ≤ s.size ∧ i = .int .i64 k ∧ OwnAt w v (posL 0 (s.data.toList.take k)) wr) (fun _ i _ => s.size - (intOf i).toNat)
  case atStart => exact ⟨0, by omega, rfl, OwnAt.start w⟩
  case round =>
    obtain ⟨k, hk, rfl, ho⟩ := hrel
    have HO := Lib.hid ho; clear ho
    by_cases hlt : k < s.size
    · have hq : decide ((k : Int) < s.size) = true := by simp; omega
      have ht := take_snoc' s k hlt
      have hsn := posL_snoc (s.data.toList.take k) s[k] 0
      have htl : (s.data.toList.take k).length = k := by rw [List.length_take, HL.out]; omega
      rw [htl, Nat.zero_add] at hsn
      have HT := Lib.hid ht; have HSn := Lib.hid hsn
      have hpl : (posL 0 (s.data.toList.take k)).length < 1099511627776 := by rw [posL_len, htl]; omega
      have hbz := HO.out.2.size
      have ha : ((UInt8.ofNat (97 + k)).toNat : Int) = 97 + (k : Int) := by rw [UInt8.toNat_ofNat']; omega
      have hcv := two_bytes wr (UInt8.ofNat (97 + k)) s[k]
      rw [ha] at hcv
      obtain ⟨z, hz⟩ : ∃ z, [UInt8.ofNat (97 + k), s[k]] = z := ⟨_, rfl⟩
      rw [hz] at hcv
      have HZ := Lib.hid hz
      have hone : ∀ u ∈ (#[strV z] : Array Value).toList, u.oneCell' = true := by intro u hu; simp at hu; subst hu; rfl
      have HO2 := Lib.hid (HO.out.below (w' := wr.alloc (.cells #[.int .u8 (97 + (k : Int)), .int .u8 s[k].toNat] 5)) ((Below.refl _ _).alloc (Nat.le_refl _) _))
      have HK1 := Lib.hid (show wr.heap.size + 1 = (wr.alloc (.cells #[.int .u8 (97 + (k : Int)), .int .u8 s[k].toNat] 5)).heap.size by simp)
      clear ht hsn htl ha hz
      go_wp2_with (at_builtin; refine wpList_append_newk rfl _ _ 28 rfl w.heap.size 9 1 16 (.string ⟨#[]⟩) Tryz.underlying28 infoS rfl (by decide) (by decide) _ _ _ rfl HO2.out.1 (wr.heap.size + 1) HK1.out #[strV z] 1 rfl rfl hone hpl HO2.out.2.size ?_; intro v2 w8 ho8 hw8)
      go_roundw
      case rel => exact ⟨k + 1, by omega, by go_num, by rw [HT.out, HSn.out]; exact ⟨by rw [List.length_append, flat_snoc, HZ.out]; exact ho8, hw8 _ HO2.out.2⟩⟩
      case measure => simp [intOf]; omega
    · have hq : decide ((k : Int) < s.size) = false := by simp; omega
      rw [List.take_of_length_le (by rw [HL.out]; omega)] at HO
      go_wp2_with fail
      go_ret
      exact ⟨_, rfl, HO.out⟩
end
section
set_option maxRecDepth 100000
open Go.RowKit Cal
/-- a token: not empty, of letters and digits -/
def okT (t : List UInt8) : Prop := t ≠ [] ∧ ∀ b ∈ t, okB b = true ∧ b ≠ 32
theorem toksA_run (t : List UInt8) (h : ∀ b ∈ t, b ≠ 32) : ∀ p r, toksA p (t ++ r) = toksA (p ++ t) r := by
  induction t with
  | nil => intro p r; simp
  | cons c t ih =>
    intro p r
    rw [List.cons_append, toksA_ch _ _ _ (h c List.mem_cons_self), ih (fun b hb => h b (List.mem_cons_of_mem _ hb)), List.append_assoc]
    rfl
theorem toks_join : ∀ (L : List (List UInt8)), (∀ t ∈ L, okT t) → toks (joinL L) = L := by
  intro L
  induction L with
  | nil => intro _; rfl
  | cons t L ih =>
    intro h
    obtain ⟨h1, h2⟩ := h t List.mem_cons_self
    have hr := ih fun x hx => h x (List.mem_cons_of_mem _ hx)
    unfold toks at hr ⊢
    by_cases hL : L = []
    · subst hL
      rw [show joinL [t] = t ++ [] by simp [joinL], toksA_run t (fun b hb => (h2 b hb).2), List.nil_append, toksA_end _ h1]
    · rw [join_cons_ne _ _ hL, List.append_assoc, toksA_run t (fun b hb => (h2 b hb).2), List.nil_append, List.cons_append, List.nil_append, toksA_sp _ _ h1, hr]
theorem join_ok (L : List (List UInt8)) (h : ∀ t ∈ L, okT t) : ∀ b ∈ joinL L, okB b = true := by
  intro b hb
  rcases join_mem L b hb with h1 | ⟨t, ht, hbt⟩
  · subst h1; rfl
  · exact ((h t ht).2 b hbt).1
theorem ok_plain {b : UInt8} (h : okB b = true) : plainB b = [b] := by
  have hlt := okB_lt h
  unfold plainB
  by_cases hu : isUp b = true
  · exfalso
    unfold okB at h
    simp only [Bool.or_eq_true, low_iff, dig_iff, decide_eq_true_iff, beq_iff_eq] at h
    rw [up_iff, decide_eq_true_iff] at hu
    rcases h with (h | h) | h
    · omega
    · omega
    · subst h; simp at hu
  · rw [if_neg hu]
    unfold okB at h
    simp only [Bool.or_eq_true, beq_iff_eq] at h
    rcases h with h | h
    · rw [if_pos (by simpa using h)]
    · subst h; rfl
theorem ok_pair {a b : UInt8} (h : okB a = true) : isPair a b = false := by
  have hlt := okB_lt h
  rw [pair_iff]; simp; omega
theorem ok_byte {b : UInt8} (h : okB b = true) : okByte b = true := by
  unfold okB at h
  simp only [Bool.or_eq_true, low_iff, dig_iff, decide_eq_true_iff, beq_iff_eq] at h
  rw [ok_iff, decide_eq_true_iff]
  rcases h with (h | h) | h
  · omega
  · omega
  · subst h; decide
theorem raw_same (l : List UInt8) (h : ∀ b ∈ l, okB b = true) : rawL l = l ∧ validL l = true := by
  induction l using rawL.induct with
  | case1 => exact ⟨rfl, rfl⟩
  | case2 a => exact ⟨by simp only [rawL]; exact ok_plain (h a (by simp)), by simp only [validL]; exact ok_byte (h a (by simp))⟩
  | case3 a b r hp ih => exfalso; rw [ok_pair (h a (by simp))] at hp; cases hp
  | case4 a b r hp ih =>
    have hp' := ok_pair (a := a) (b := b) (h a (by simp))
    have := ih fun x hx => h x (List.mem_cons_of_mem _ hx)
    refine ⟨?_, ?_⟩
    · rw [rawL, hp']; simp only [Bool.false_eq_true, if_false]; rw [this.1, ok_plain (h a (by simp))]; rfl
    · rw [validL, hp']; simp only [Bool.false_eq_true, if_false]; rw [this.2, ok_byte (h a (by simp))]; rfl
theorem fold_same (L : List (List UInt8)) (h : ∀ t ∈ L, okT t) : foldL (joinL L) = joinL L ∧ toks (foldL (joinL L)) = L := by
  have h1 := (raw_same (joinL L) (join_ok L h)).1
  have h2 := toks_join L h
  have h3 : foldL (joinL L) = joinL L := by unfold foldL; rw [h1, h2]
  exact ⟨h3, by rw [h3, h2]⟩
theorem foldV_join (L : List (List UInt8)) (h : ∀ t ∈ L, okT t) (hl : (joinL L).length ≤ 64) : foldV (joinL L) = true := by
  unfold foldV
  rw [(raw_same (joinL L) (join_ok L h)).2]; simpa using hl
theorem toksA_ne (l : List UInt8) : ∀ p, ∀ t ∈ toksA p l, t ≠ [] := by
  induction l with
  | nil =>
    intro p t ht
    simp only [toksA] at ht
    split at ht
    · simp at ht
    · simp at ht; subst ht; assumption
  | cons c l ih =>
    intro p t ht
    by_cases hc : c = 32
    · subst hc
      by_cases hp : p = []
      · subst hp; rw [toksA_sp0] at ht; exact ih [] t ht
      · rw [toksA_sp _ _ hp] at ht
        rcases List.mem_cons.1 ht with rfl | ht
        · exact hp
        · exact ih [] t ht
    · rw [toksA_ch _ _ _ hc] at ht; exact ih _ t ht
theorem toks_ok (l : List UInt8) : ∀ t ∈ toks (foldL l), okT t := by
  intro t ht
  refine ⟨toksA_ne _ [] t ht, fun b hb => ?_⟩
  rcases toksA_mem _ [] t ht b hb with h | h
  · simp at h
  · exact ⟨fold_ok l b h.1, h.2⟩
end
section
set_option maxRecDepth 100000
open Go.RowKit Cal
theorem letters_low (t : List UInt8) : ∀ b ∈ lettersL t, isLow b = true := fun b hb => (List.mem_filter.1 hb).2
theorem low_same {t : List UInt8} (h : ∀ b ∈ t, isLow b = true) : lettersL t = t := List.filter_eq_self.2 h
theorem low_okT {t : List UInt8} (h0 : t ≠ []) (h : ∀ b ∈ t, isLow b = true) : okT t := ⟨h0, fun b hb => ⟨by simp [okB, h b hb], by
  intro e; subst e; have := h 32 hb; rw [low_iff] at this; simp at this⟩⟩
theorem token_low {t : List UInt8} (h : tokenB t = true) : t ≠ [] ∧ ∀ b ∈ t, isLow b = true := by
  unfold tokenB at h
  cases h1 : t.isEmpty
  · simp only [h1, cond_false] at h
    cases h2 : decide (t.length ≤ 64)
    · simp [h2] at h
    · simp only [h2, cond_true, beq_iff_eq] at h
      exact ⟨by simpa using h1, fun b hb => letters_low t b (by rw [h]; exact hb)⟩
  · simp [h1] at h
theorem pair_facts {L : List P2} (h : pairsB L = true) (j : Nat) (hj : j < L.length) : tokenB (L.getD j default).1 = true ∧ tokenB (L.getD j default).2 = true ∧ findI L (L.getD j default).2 < 0 := by
  have := pairs_at h j hj
  unfold pairAtB at this
  simp only [Bool.and_eq_true, decide_eq_true_iff] at this
  exact ⟨this.1.1.1, this.1.1.2, this.2⟩
theorem canon_neg {L : List P2} {s : List UInt8} (h : findI L s < 0) : canonL L s = s := by
  rcases canon_find L s with ⟨_, h2⟩ | ⟨k, _, h1, _⟩
  · exact h2
  · omega
/-- by rules, a token becomes itself, or one that is no token of the rules -/
theorem canon_cases {L : List P2} (h : pairsB L = true) (s : List UInt8) : (canonL L s = s) ∨ (∃ k, k < L.length ∧ canonL L s = (L.getD k default).2 ∧ tokenB (canonL L s) = true ∧ canonL L (canonL L s) = canonL L s) := by
  rcases canon_find L s with ⟨_, h2⟩ | ⟨k, hk, h1, h3⟩
  · exact .inl h2
  · right
    obtain ⟨_, g2, g3⟩ := pair_facts h k hk
    rw [h3] at g2 g3
    exact ⟨k, hk, h3.symm, g2, canon_neg g3⟩
theorem normTok_same {r : RulesL} (hc : checkR r = 0) {x t : List UInt8} (ht : t ∈ normTok r x) : okT t ∧ normTok r t = [t] := by
  obtain ⟨_, _, h2, _, h4⟩ := check_zero hc
  unfold normTok at ht
  by_cases hd : ((lettersL x).isEmpty || hasB r.titles (lettersL x)) = true
  · rw [if_pos hd] at ht; simp at ht
  · rw [if_neg hd] at ht
    simp at ht
    simp only [Bool.or_eq_true, not_or, Bool.not_eq_true] at hd
    obtain ⟨hd1, hd2⟩ := hd
    have key : ∀ y : List UInt8, y ≠ [] → (∀ b ∈ y, isLow b = true) → hasB r.titles y = false → canonL r.nicks y = y → okT y ∧ normTok r y = [y] := by
      intro y h0 h1 h3 h5
      refine ⟨low_okT h0 h1, ?_⟩
      unfold normTok
      rw [low_same h1, h3, h5, if_neg (by simpa using h0)]
    rcases canon_cases h2 (lettersL x) with hs | ⟨k, hk, e1, e2, e3⟩
    · rw [hs] at ht
      subst ht
      exact key _ (by simpa using hd1) (letters_low x) hd2 hs
    · rw [← ht] at e1 e2 e3
      obtain ⟨g1, g2⟩ := token_low e2
      refine key t g1 g2 ?_ e3
      rw [e1]
      have := List.any_eq_false.1 h4 (r.nicks.getD k default) (by rw [List.getD, List.getElem?_eq_getElem hk]; exact List.getElem_mem hk)
      simpa using this
theorem nameToks_same {r : RulesL} (hc : checkR r = 0) (T : List (List UInt8)) : (∀ t ∈ nameToks r T, okT t) ∧ nameToks r (nameToks r T) = nameToks r T := by
  have h : ∀ t ∈ nameToks r T, okT t ∧ normTok r t = [t] := by
    intro t ht
    obtain ⟨x, _, hx⟩ := List.mem_flatMap.1 ht
    exact normTok_same hc hx
  refine ⟨fun t ht => (h t ht).1, ?_⟩
  have : ∀ L : List (List UInt8), (∀ t ∈ L, normTok r t = [t]) → nameToks r L = L := by
    intro L
    induction L with
    | nil => intro _; rfl
    | cons t L ih =>
      intro hL
      have := ih fun x hx => hL x (List.mem_cons_of_mem _ hx)
      unfold nameToks at this ⊢
      rw [List.flatMap_cons, this, hL t List.mem_cons_self]; rfl
  exact this _ fun t ht => (h t ht).2
theorem nameN_same {r : RulesL} {l v : List UInt8} (h : nameN r l = (v, 0)) : nameN r v = (v, 0) := by
  unfold nameN at h
  by_cases hc : checkR r = 0
  · rw [if_pos hc] at h
    by_cases hv : foldV l = true
    · rw [if_pos hv] at h
      obtain ⟨h1, h2⟩ := nameToks_same hc (toks (foldL l))
      generalize nameToks r (toks (foldL l)) = N at h h1 h2
      by_cases hb : 6 < N.length ∨ 64 < (joinL N).length
      · rw [if_pos hb] at h; simp at h
      · rw [if_neg hb] at h
        obtain rfl : joinL N = v := congrArg Prod.fst h
        obtain ⟨f1, f2⟩ := fold_same N h1
        unfold nameN
        rw [if_pos hc, if_pos (foldV_join N h1 (by omega)), f2, h2, if_neg hb]
    · rw [if_neg hv] at h; simp at h
  · rw [if_neg hc] at h
    exact absurd (congrArg Prod.snd h) hc
theorem codeN_same {l v : List UInt8} (h : codeN l = (v, 0)) : codeN v = (v, 0) := by
  unfold codeN at h
  by_cases hv : foldV l = true
  · rw [if_pos hv] at h
    have hok := toks_ok l
    generalize toks (foldL l) = T at h hok
    by_cases hb : 12 < T.flatten.length
    · rw [if_pos hb] at h; simp at h
    · rw [if_neg hb] at h
      obtain rfl : T.flatten = v := congrArg Prod.fst h
      have hbytes : ∀ b ∈ T.flatten, okB b = true ∧ b ≠ 32 := by
        intro b hb'
        obtain ⟨t, ht, hbt⟩ := List.mem_flatten.1 hb'
        exact (hok t ht).2 b hbt
      by_cases h0 : T.flatten = []
      · rw [h0]; rfl
      · have hL : ∀ t ∈ [T.flatten], okT t := by
          intro t ht; simp at ht; subst ht; exact ⟨h0, hbytes⟩
        obtain ⟨f1, f2⟩ := fold_same [T.flatten] hL
        have f3 := foldV_join [T.flatten] hL (by simp [joinL]; simp at hb; omega)
        rw [show joinL [T.flatten] = T.flatten from rfl] at f1 f2 f3
        unfold codeN
        rw [if_pos f3, f2]
        simp only [List.flatten_cons, List.flatten_nil, List.append_nil]
        rw [if_neg hb]
  · rw [if_neg hv] at h; simp at h
end
section
set_option maxRecDepth 100000
open Go.RowKit Cal
theorem dropWhile_fix (l : List UInt8) : (l.dropWhile (· == 48)).dropWhile (· == 48) = l.dropWhile (· == 48) := by
  induction l with
  | nil => rfl
  | cons c l ih =>
    by_cases hc : (c == 48) = true
    · rw [List.dropWhile_cons, if_pos hc, ih]
    · rw [List.dropWhile_cons, if_neg hc, List.dropWhile_cons, if_neg hc]
theorem short_num (x : List UInt8) : numB (shortL x) = true := by
  unfold shortL
  split
  · assumption
  · rfl
theorem short_same (x : List UInt8) : shortL (shortL x) = shortL x := by
  have hd := dropWhile_fix x
  generalize hr : x.dropWhile (· == 48) = r at hd
  have e : shortL x = if numB r = true then r else 48 :: r := by unfold shortL; rw [hr]
  by_cases hn : numB r = true
  · rw [e, if_pos hn]; unfold shortL; rw [hd, if_pos hn]
  · rw [e, if_neg hn]; unfold shortL
    rw [show (48 :: r).dropWhile (· == 48) = r.dropWhile (· == 48) from rfl, hd, if_neg hn]
theorem dropWhile_mem (l : List UInt8) : ∀ b ∈ l.dropWhile (· == 48), b ∈ l := by
  induction l with
  | nil => intro b hb; simp at hb
  | cons c l ih =>
    intro b hb
    by_cases hc : (c == 48) = true
    · rw [List.dropWhile_cons, if_pos hc] at hb; exact List.mem_cons_of_mem _ (ih b hb)
    · rw [List.dropWhile_cons, if_neg hc] at hb; exact hb
theorem short_ok {x : List UInt8} (h : okT x) : okT (shortL x) := by
  have h1 : ∀ b ∈ x.dropWhile (· == 48), okB b = true ∧ b ≠ 32 := fun b hb => h.2 b (dropWhile_mem x b hb)
  unfold shortL
  split
  · rename_i hn
    refine ⟨fun e => ?_, h1⟩
    rw [e] at hn; cases hn
  · refine ⟨by simp, fun b hb => ?_⟩
    rcases List.mem_cons.1 hb with rfl | hb
    · exact ⟨by decide, by decide⟩
    · exact h1 b hb
theorem low_not_num {t : List UInt8} (h : ∀ b ∈ t, isLow b = true) : numB t = false := by
  cases t with
  | nil => rfl
  | cons c t =>
    have := h c List.mem_cons_self
    rw [low_iff, decide_eq_true_iff] at this
    show isDgt c = false
    rw [dig_iff]; simp; omega
/-- what becomes of a token stays, and stays a number or none -/
theorem addrTok_same {r : RulesL} (h : pairsB r.streets = true) {x : List UInt8} (hx : okT x) : okT (addrTok r x) ∧ addrTok r (addrTok r x) = addrTok r x := by
  by_cases hn : numB x = true
  · have e : addrTok r x = shortL x := by unfold addrTok; rw [if_pos hn]
    rw [e]
    refine ⟨short_ok hx, ?_⟩
    unfold addrTok
    rw [if_pos (short_num x), short_same]
  · have e : addrTok r x = canonL r.streets x := by unfold addrTok; rw [if_neg hn]
    rw [e]
    rcases canon_cases h x with hs | ⟨k, hk, e1, e2, e3⟩
    · rw [hs]; exact ⟨hx, by rw [e, hs]⟩
    · obtain ⟨g1, g2⟩ := token_low e2
      refine ⟨low_okT g1 g2, ?_⟩
      unfold addrTok
      rw [low_not_num g2, e3]; simp
theorem order2_same (T : List (List UInt8)) : order2 (order2 T) = order2 T := by
  have hn : ∀ L : List (List UInt8), L.filter (fun _ => false) = [] := fun L => by induction L with
    | nil => rfl
    | cons x L ih => rw [List.filter_cons]; simp
  unfold order2
  simp [List.filter_append, List.filter_filter, hn]
theorem order2_length (T : List (List UInt8)) : (order2 T).length = T.length := by
  induction T with
  | nil => rfl
  | cons t T ih =>
    unfold order2 at ih ⊢
    cases h : numB t <;> simp [List.filter_cons, h] at ih ⊢ <;> omega
theorem map_same {f : List UInt8 → List UInt8} : ∀ (T : List (List UInt8)), (∀ t ∈ T, f t = t) → T.map f = T := by
  intro T
  induction T with
  | nil => intro _; rfl
  | cons t T ih => intro h; rw [List.map_cons, h t List.mem_cons_self, ih fun x hx => h x (List.mem_cons_of_mem _ hx)]
theorem addrN_same {r : RulesL} {l v : List UInt8} (h : addrN r l = (v, 0)) : addrN r v = (v, 0) := by
  unfold addrN at h
  by_cases hc : checkR r = 0
  · rw [if_pos hc] at h
    obtain ⟨_, _, _, h3, _⟩ := check_zero hc
    by_cases hv : foldV l = true
    · rw [if_pos hv] at h
      have hok := toks_ok l
      generalize toks (foldL l) = T at h hok
      have hM : ∀ t ∈ order2 (T.map (addrTok r)), okT t ∧ addrTok r t = t := by
        intro t ht
        obtain ⟨x, hx, rfl⟩ := List.mem_map.1 (order2_mem ht)
        exact addrTok_same h3 (hok x hx)
      have hlen : (order2 (T.map (addrTok r))).length = T.length := by rw [order2_length, List.length_map]
      by_cases hb : 6 < T.length ∨ 64 < (joinL (order2 (T.map (addrTok r)))).length
      · rw [if_pos hb] at h; simp at h
      · rw [if_neg hb] at h
        have hs := order2_same (T.map (addrTok r))
        generalize order2 (T.map (addrTok r)) = M at h hM hlen hb hs
        obtain rfl : joinL M = v := congrArg Prod.fst h
        have h1 : ∀ t ∈ M, okT t := fun t ht => (hM t ht).1
        obtain ⟨f1, f2⟩ := fold_same M h1
        unfold addrN
        rw [if_pos hc, if_pos (foldV_join M h1 (by omega)), f2, map_same M fun t ht => (hM t ht).2, hs, if_neg (by rw [hlen]; exact hb)]
    · rw [if_neg hv] at h; simp at h
  · rw [if_neg hc] at h
    exact absurd (congrArg Prod.snd h) hc
theorem numI_dg (n : Int) (k : Nat) (h0 : 0 ≤ n) (h : n < 10 ^ k) : numI (dg n k) = n := by
  rw [numI_dig _ (dg_dig k n h0), dg_val k n h0 h]
theorem day_read {a b c : Int} (h : vldB a b c = true) : readB (digits8 a b c) = true := by
  obtain ⟨b1, b2, b3, b4, b5, b6⟩ := vld_bd h
  have e1 : (digits8 a b c).take 4 = dg a 4 := by
    unfold digits8; rw [List.append_assoc, List.take_append_of_le_length (by rw [dg_len]; omega), List.take_of_length_le (by rw [dg_len]; omega)]
  have e2 : ((digits8 a b c).drop 4).take 2 = dg b 2 := by
    unfold digits8; rw [List.append_assoc, List.drop_append_of_le_length (by rw [dg_len]; omega), List.drop_eq_nil_of_le (by rw [dg_len]; omega), List.nil_append, List.take_append_of_le_length (by rw [dg_len]; omega), List.take_of_length_le (by rw [dg_len]; omega)]
  have e3 : ((digits8 a b c).drop 6).take 2 = dg c 2 := by
    unfold digits8; rw [List.drop_append_of_le_length (by simp [dg_len]), List.drop_eq_nil_of_le (by simp [dg_len]), List.nil_append, List.take_of_length_le (by rw [dg_len]; omega)]
  unfold readB
  rw [digits8_len, e1, e2, e3, numI_dg a 4 (by omega) (by omega), numI_dg b 2 (by omega) (by omega), numI_dg c 2 (by omega) (by omega), h]
  rfl
theorem dayN_read {l v : List UInt8} (h : dayN l = (v, 0)) : readB v = true := by
  rcases parse_is ⟨l.toArray⟩ with ⟨a, b, c, hv, _, hd⟩ | ⟨_, hd⟩
  · rw [show (⟨l.toArray⟩ : ByteArray).data.toList = l by simp, h] at hd
    obtain rfl : v = digits8 a b c := congrArg Prod.fst hd
    exact day_read hv
  · rw [show (⟨l.toArray⟩ : ByteArray).data.toList = l by simp, h] at hd
    simp at hd
theorem own_of {p : List UInt8 × Int} {v : List UInt8} (h : p = (v, 0)) : isOwn p v = true := by subst h; simp [isOwn]
/-- what is normalised is normal; and what is no date stays as it is -/
theorem value_normal {s : SchemaL} {f : Int} {l v : List UInt8} (h : valueN s f l = (v, 0)) : normalB s f v = true ∧ normalB s f [] = true ∧ ((findN s f).1 = 2 ∨ valueN s f v = (v, 0)) := by
  unfold valueN at h
  by_cases he : (findN s f).2 = 0
  · have hk := findN_kind he
    have e2 : normalB s f [] = true := by unfold normalB; rw [if_pos he, if_pos rfl]
    by_cases hv0 : v = []
    · subst hv0
      exact ⟨e2, e2, .inr (by unfold valueN; rw [if_pos he, if_pos rfl])⟩
    · rw [if_pos he] at h
      by_cases hl : l = []
      · rw [if_pos hl] at h
        exact absurd (congrArg Prod.fst h).symm hv0
      · rw [if_neg hl] at h
        have e1 : normalB s f v = ownK (findN s f).1 s.rules v := by unfold normalB; rw [if_pos he, if_neg hv0]
        have e3 : valueN s f v = normK (findN s f).1 s.rules v := by unfold valueN; rw [if_pos he, if_neg hv0]
        rw [e1, e3]
        rcases hk with hk | hk | hk | hk
        · rw [hk] at h ⊢
          have := nameN_same (r := s.rules) h
          exact ⟨own_of this, e2, .inr this⟩
        · rw [hk] at h ⊢
          exact ⟨dayN_read (show dayN l = (v, 0) from h), e2, .inl rfl⟩
        · rw [hk] at h ⊢
          have := codeN_same (show codeN l = (v, 0) from h)
          exact ⟨own_of this, e2, .inr this⟩
        · rw [hk] at h ⊢
          have := addrN_same (r := s.rules) h
          exact ⟨own_of this, e2, .inr this⟩
  · rw [if_neg he] at h
    exact absurd (congrArg Prod.snd h) he
end
section
set_option maxRecDepth 100000
open Go.RowKit Go.Maps
/-- the elements of a list, ascending -/
def setL (L : List (List UInt8)) : List (List UInt8) := L.eraseDups.mergeSort leB
theorem erase_nodup (L : List (List UInt8)) : ∀ n, L.length ≤ n → L.eraseDups.Nodup := by
  intro n
  induction n generalizing L with
  | zero => intro h; have : L = [] := List.length_eq_zero_iff.1 (by omega); subst this; simp
  | succ n ih =>
    intro h
    cases L with
    | nil => simp
    | cons a L =>
      rw [List.eraseDups_cons]
      refine List.nodup_cons.2 ⟨?_, ih _ ?_⟩
      · rw [List.mem_eraseDups]; simp
      · have := List.length_filter_le (fun b => !b == a) L; simp at h ⊢; omega
theorem erase_len (L : List (List UInt8)) : ∀ n, L.length ≤ n → L.eraseDups.length ≤ L.length := by
  intro n
  induction n generalizing L with
  | zero => intro h; have : L = [] := List.length_eq_zero_iff.1 (by omega); subst this; simp
  | succ n ih =>
    intro h
    cases L with
    | nil => simp
    | cons a L =>
      rw [List.eraseDups_cons, List.length_cons, List.length_cons]
      have h1 := List.length_filter_le (fun b => !b == a) L
      have := ih (L.filter fun b => !b == a) (by simp at h ⊢; omega)
      omega
theorem set_mem (L : List (List UInt8)) (x : List UInt8) : x ∈ setL L ↔ x ∈ L := by
  unfold setL; rw [List.mem_mergeSort, List.mem_eraseDups]
theorem set_len (L : List (List UInt8)) : (setL L).length ≤ L.length := by
  unfold setL; rw [(List.mergeSort_perm _ _).length_eq]; exact erase_len L _ (Nat.le_refl _)
/-- the bigrams of a text, in order -/
def bigrA : List UInt8 → List (List UInt8)
  | a :: b :: r => [a, b] :: bigrA (b :: r)
  | _ => []
theorem bigr_len : ∀ l : List UInt8, (bigrA l).length = l.length - 1 := by
  intro l
  induction l using bigrA.induct with
  | case1 a b r ih => simp [bigrA, ih]
  | case2 l h =>
    match l, h with
    | [], _ => rfl
    | [a], _ => rfl
    | a :: b :: r, h => exact absurd rfl (h a b r)
def wrapT (t : List UInt8) : List UInt8 := [95] ++ t ++ [95]
/-- the bigrams of all tokens of a text -/
def gramsAll (T : List (List UInt8)) : List (List UInt8) := T.flatMap fun t => bigrA (wrapT t)
def gramsL (l : List UInt8) : List (List UInt8) := setL (gramsAll (toks l))
theorem gramsAll_len (T : List (List UInt8)) : T ≠ [] → (gramsAll T).length = (joinL T).length + 1 := by
  induction T with
  | nil => intro h; exact absurd rfl h
  | cons t T ih =>
    intro _
    have e : (gramsAll (t :: T)).length = t.length + 1 + (gramsAll T).length := by
      simp only [gramsAll, List.flatMap_cons, List.length_append, bigr_len, wrapT]; simp; try omega
    by_cases hT : T = []
    · subst hT; rw [e]; simp [gramsAll, joinL]
    · rw [e, ih hT, join_cons_ne _ _ hT]; simp; omega
/-- a text of 64 bytes at most has 65 grams at most; one that is not empty has some -/
theorem grams_bound {l : List UInt8} (h : l.length ≤ 64) : (gramsL l).length ≤ 65 := by
  have h1 := set_len (gramsAll (toks l))
  have h2 := (toksA_len l []).1
  by_cases hT : toks l = []
  · unfold gramsL; rw [hT]; simp [gramsAll, setL]
  · have h3 := gramsAll_len (toks l) hT
    unfold gramsL; unfold toks at *; simp at h2; omega
end
end Go.Proofs.YtoeplomdcannlaaGreatDoor
section
namespace Go.Proofs
open Go.Shelf
def Tryz.keys285_ren : Go.Shelf.Ren := ⟨fun | 7 => 285 | 10 => 296 | n => n, fun | 23 => 283 | 26 => 9 | 3 => 284 | 28 => 280 | 0 => 0 | 27 => 279 | 33 => 154 | 4 => 4 | n => n, fun | n => n⟩
theorem Tryz.keys285 : Go.Proofs.SlLaysZ.n7 Tryz.prog Tryz.keys285_ren := {
  mixed := by kernel_rfl
  f7 := ⟨Tryz.f285.name, by decide, Tryz.func285.trans (congrArg some (by kernel_rfl))⟩
  f10 := ⟨Tryz.f296.name, by decide, Tryz.func296.trans (congrArg some (by kernel_rfl))⟩
  t0 := Tryz.underlying0
  a0 := Tryz.isAgg0
  z0 := Tryz.sizeOf0
  v0 := Tryz.zeroValue0
  t4 := Tryz.underlying4
  a4 := Tryz.isAgg4
  z4 := Tryz.sizeOf4
  v4 := Tryz.zeroValue4
  t23 := Tryz.underlying283
  a23 := Tryz.isAgg283
  z23 := Tryz.sizeOf283
  v23 := Tryz.zeroValue283
  t26 := Tryz.underlying9
  a26 := Tryz.isAgg9
  z26 := Tryz.sizeOf9
  v26 := Tryz.zeroValue9
  t27 := Tryz.underlying279
  a27 := Tryz.isAgg279
  z27 := Tryz.sizeOf279
  v27 := Tryz.zeroValue279
  t28 := Tryz.underlying280
  a28 := Tryz.isAgg280
  z28 := Tryz.sizeOf280
  v28 := Tryz.zeroValue280
  t33 := Tryz.underlying154
  a33 := Tryz.isAgg154
  z33 := Tryz.sizeOf154
  v33 := Tryz.zeroValue154 }
def Tryz.sorted284_ren : Go.Shelf.Ren := ⟨fun | 6 => 284 | 8 => 294 | 9 => 295 | 11 => 298 | 13 => 300 | 12 => 299 | 23 => 311 | 24 => 241 | 14 => 302 | 15 => 303 | 16 => 304 | 17 => 305 | 18 => 306 | 19 => 307 | 20 => 308 | 21 => 309 | 22 => 310 | 25 => 312 | 26 => 313 | 27 => 314 | 28 => 315 | 29 => 316 | 30 => 317 | 31 => 318 | n => n, fun | 26 => 9 | 28 => 280 | 24 => 28 | 0 => 0 | 3 => 3 | 37 => 92 | 48 => 245 | 50 => 43 | 4 => 4 | 40 => 298 | 39 => 297 | 45 => 133 | 5 => 5 | 9 => 9 | 51 => 303 | 55 => 306 | 57 => 308 | 58 => 309 | 33 => 154 | n => n, fun | n => n⟩
theorem Tryz.sorted284 : Go.Proofs.SlLaysZ.n6 Tryz.prog Tryz.sorted284_ren := {
  mixed := by kernel_rfl
  f6 := ⟨Tryz.f284.name, by decide, Tryz.func284.trans (congrArg some (by kernel_rfl))⟩
  f8 := ⟨Tryz.f294.name, by decide, Tryz.func294.trans (congrArg some (by kernel_rfl))⟩
  f11 := ⟨Tryz.f298.name, by decide, Tryz.func298.trans (congrArg some (by kernel_rfl))⟩
  t0 := Tryz.underlying0
  a0 := Tryz.isAgg0
  z0 := Tryz.sizeOf0
  v0 := Tryz.zeroValue0
  t24 := Tryz.underlying28
  a24 := Tryz.isAgg28
  z24 := Tryz.sizeOf28
  v24 := Tryz.zeroValue28
  t26 := Tryz.underlying9
  a26 := Tryz.isAgg9
  z26 := Tryz.sizeOf9
  v26 := Tryz.zeroValue9
  t28 := Tryz.underlying280
  a28 := Tryz.isAgg280
  z28 := Tryz.sizeOf280
  v28 := Tryz.zeroValue280
  i26 := by kernel_rfl }
def Tryz.sort295_ren : Go.Shelf.Ren := ⟨fun | 6 => 295 | 8 => 300 | 9 => 299 | 19 => 311 | 20 => 241 | 21 => 302 | 22 => 303 | 23 => 304 | 24 => 305 | 25 => 306 | 26 => 307 | 27 => 308 | 28 => 309 | 29 => 310 | 36 => 312 | 31 => 313 | 32 => 314 | 37 => 315 | 38 => 316 | 39 => 317 | 41 => 318 | n => n, fun | 27 => 28 | 29 => 9 | 3 => 3 | 32 => 92 | 26 => 28 | 0 => 0 | 44 => 245 | 46 => 43 | 4 => 4 | 36 => 298 | 35 => 297 | 41 => 133 | 5 => 5 | 9 => 9 | 53 => 303 | 57 => 306 | 63 => 308 | 64 => 309 | n => n, fun | n => n⟩
theorem Tryz.sort295 : Go.Proofs.SlLaysM.n6 Tryz.prog Tryz.sort295_ren := {
  mixed := by kernel_rfl
  f6 := ⟨Tryz.f295.name, by decide, Tryz.func295.trans (congrArg some (by kernel_rfl))⟩
  f8 := Tryz.func300.trans (congrArg some (by kernel_rfl))
  f9 := ⟨Tryz.f299.name, by decide, Tryz.func299.trans (congrArg some (by kernel_rfl))⟩
  f19 := Tryz.func311.trans (congrArg some (by kernel_rfl))
  f20 := Tryz.func241.trans (congrArg some (by kernel_rfl))
  f21 := ⟨Tryz.f302.name, by decide, Tryz.func302.trans (congrArg some (by kernel_rfl))⟩
  f22 := ⟨Tryz.f303.name, by decide, Tryz.func303.trans (congrArg some (by kernel_rfl))⟩
  f23 := ⟨Tryz.f304.name, by decide, Tryz.func304.trans (congrArg some (by kernel_rfl))⟩
  f24 := ⟨Tryz.f305.name, by decide, Tryz.func305.trans (congrArg some (by kernel_rfl))⟩
  f25 := ⟨Tryz.f306.name, by decide, Tryz.func306.trans (congrArg some (by kernel_rfl))⟩
  f26 := ⟨Tryz.f307.name, by decide, Tryz.func307.trans (congrArg some (by kernel_rfl))⟩
  f27 := ⟨Tryz.f308.name, by decide, Tryz.func308.trans (congrArg some (by kernel_rfl))⟩
  f28 := ⟨Tryz.f309.name, by decide, Tryz.func309.trans (congrArg some (by kernel_rfl))⟩
  f29 := ⟨Tryz.f310.name, by decide, Tryz.func310.trans (congrArg some (by kernel_rfl))⟩
  f31 := Tryz.func313.trans (congrArg some (by kernel_rfl))
  f32 := Tryz.func314.trans (congrArg some (by kernel_rfl))
  f36 := ⟨Tryz.f312.name, by decide, Tryz.func312.trans (congrArg some (by kernel_rfl))⟩
  f37 := ⟨Tryz.f315.name, by decide, Tryz.func315.trans (congrArg some (by kernel_rfl))⟩
  f38 := ⟨Tryz.f316.name, by decide, Tryz.func316.trans (congrArg some (by kernel_rfl))⟩
  f39 := ⟨Tryz.f317.name, by decide, Tryz.func317.trans (congrArg some (by kernel_rfl))⟩
  f41 := ⟨Tryz.f318.name, by decide, Tryz.func318.trans (congrArg some (by kernel_rfl))⟩
  t0 := Tryz.underlying0
  a0 := Tryz.isAgg0
  z0 := Tryz.sizeOf0
  v0 := Tryz.zeroValue0
  t3 := Tryz.underlying3
  a3 := Tryz.isAgg3
  z3 := Tryz.sizeOf3
  v3 := Tryz.zeroValue3
  t4 := Tryz.underlying4
  a4 := Tryz.isAgg4
  z4 := Tryz.sizeOf4
  v4 := Tryz.zeroValue4
  t5 := Tryz.underlying5
  a5 := Tryz.isAgg5
  z5 := Tryz.sizeOf5
  v5 := Tryz.zeroValue5
  t9 := Tryz.underlying9
  a9 := Tryz.isAgg9
  z9 := Tryz.sizeOf9
  v9 := Tryz.zeroValue9
  t26 := Tryz.underlying28
  a26 := Tryz.isAgg28
  z26 := Tryz.sizeOf28
  v26 := Tryz.zeroValue28
  t27 := Tryz.underlying28
  a27 := Tryz.isAgg28
  z27 := Tryz.sizeOf28
  v27 := Tryz.zeroValue28
  t29 := Tryz.underlying9
  a29 := Tryz.isAgg9
  z29 := Tryz.sizeOf9
  v29 := Tryz.zeroValue9
  t32 := Tryz.underlying92
  a32 := Tryz.isAgg92
  z32 := Tryz.sizeOf92
  v32 := Tryz.zeroValue92
  t35 := Tryz.underlying297
  a35 := Tryz.isAgg297
  z35 := Tryz.sizeOf297
  v35 := Tryz.zeroValue297
  t36 := Tryz.underlying298
  a36 := Tryz.isAgg298
  z36 := Tryz.sizeOf298
  v36 := Tryz.zeroValue298
  t41 := Tryz.underlying133
  a41 := Tryz.isAgg133
  z41 := Tryz.sizeOf133
  v41 := Tryz.zeroValue133
  t44 := Tryz.underlying245
  a44 := Tryz.isAgg245
  z44 := Tryz.sizeOf245
  v44 := Tryz.zeroValue245
  t46 := Tryz.underlying43
  a46 := Tryz.isAgg43
  z46 := Tryz.sizeOf43
  v46 := Tryz.zeroValue43
  t53 := Tryz.underlying303
  a53 := Tryz.isAgg303
  z53 := Tryz.sizeOf303
  v53 := Tryz.zeroValue303
  t57 := Tryz.underlying306
  a57 := Tryz.isAgg306
  z57 := Tryz.sizeOf306
  v57 := Tryz.zeroValue306
  t63 := Tryz.underlying308
  a63 := Tryz.isAgg308
  z63 := Tryz.sizeOf308
  v63 := Tryz.zeroValue308
  t64 := Tryz.underlying309
  a64 := Tryz.isAgg309
  z64 := Tryz.sizeOf309
  v64 := Tryz.zeroValue309 }
end Go.Proofs
end
section
namespace Go.Proofs
open Go.RowKit Go.Maps Go.Sort Go.Shelf


theorem Tryz.sorts284 (m : Nat) : AnyZ.SortsIn Tryz.prog Tryz.sorted284_ren Fence.wide m :=
  ⟨fun blk off cap ss W hH hblk hsz => callsIn_wide.2 (AnyM.slices_Sort_string Tryz.sort295 blk off cap ss W hH hblk hsz),
   fun p cap W => callsIn_wide.2 (AnyM.slices_Sort_string_none Tryz.sort295 p cap W)⟩

theorem Tryz.maps_Keys (mb : Option Nat) (W : World) : CallsIn Fence.wide 5 Tryz.prog 285 #[.map mb] W fun e w' => e = .returned (.func (.func 296) #[] #[.pointer (some ⟨W.heap.size, 0, none⟩)]) ∧ w' = W.alloc (.cells #[.map mb] 283) :=
  AnyZ.keys_in Tryz.keys285 Fence.wide 5 trivial rfl mb W

set_option maxHeartbeats 1000000 in
theorem Tryz.slices_Sorted_keys {H : Type} (b nn : Nat) (D0 : DataW H) (R : Value → Option (DataW H × List MemPlace)) (w : World) (hown : w.ownsMap Tryz.prog 9 R b nn D0) (hmax : Maps.size D0 ≤ maxLen) (hbytes : Maps.size D0 * 16 ≤ 140737488355328) :
    CallsIn Fence.wide 5 Tryz.prog 284 #[.func (.func 296) #[] #[.pointer (some ⟨w.heap.size, 0, none⟩)]] (w.alloc (.cells #[.map (some b)] 283)) fun e w' => ∃ (v : Value) (ss : List (List UInt8)), e = .returned v ∧ ss.Perm (strKeys D0) ∧
      w'.ownsRow (w.alloc (.cells #[.map (some b)] 283)).heap.size 9 1 v ss.length ((ss.mergeSort (fun x y => decide (x ≤ y))).map encStr) ∧ (v = .slice none 0 0 ↔ ss = []) ∧ Below (w.alloc (.cells #[.map (some b)] 283)).heap.size (w.alloc (.cells #[.map (some b)] 283)) w' := by
  have hbl := hown.lt
  have hseq : SeqGives Fence.wide 2 Tryz.prog 296 #[.pointer (some ⟨w.heap.size, 0, none⟩)] encStr (fun ss => ss.Perm (strKeys D0)) (Maps.size D0) (w.alloc (.cells #[.map (some b)] 283)) :=
    AnyZ.keys_gives (ρ := Tryz.keys285_ren) { Tryz.keys285 with } Fence.wide _ trivial rfl (by omega) w.heap.size b nn D0 _ (by simp) (by simp) (by
      obtain ⟨es, clock, hb, Ft, hs, hD⟩ := hown
      exact ⟨es, clock, (Below.heap_alloc _ _ b hbl).trans hb, Ft, hs, hD⟩)
  exact AnyZ.sorted_in Tryz.sorted284 Fence.wide 5 trivial trivial trivial trivial rfl (by omega) (Tryz.sorts284 _) (enters_of Tryz.func295 (by kernel_rfl) rfl) 296 #[.pointer (some ⟨w.heap.size, 0, none⟩)] trivial (enters_of Tryz.func296 (by kernel_rfl) rfl) _ _ hmax hbytes _ hseq

end Go.Proofs
end
namespace Go.Proofs.YtoeplomdcannlaaGreatDoor
section
set_option maxRecDepth 100000
open Go.RowKit Cal
attribute [local go_sem] toList_mk mk_size
/-- the builder holds these bytes -/
def HoldsB (B b : Nat) (l : List UInt8) (w : World) : Prop := Lib.IsBuilderF 120 5 B b (Lib.byteCells l) w ∧ B ≤ w.heap.size
theorem own_belowF {w w' : World} {B e size n : Nat} {v : Value} {xs : List Value} (h : w.ownsRowF B e size v n xs) (hb : Below w.heap.size w w') : w'.ownsRowF B e size v n xs := by
  refine ⟨h.1, ?_⟩
  rcases h.2 with h0 | ⟨g, cap, cur, fz, hv, hg, hh, rest⟩
  · exact .inl h0
  · exact .inr ⟨g, cap, cur, fz, hv, hg, (hb.block g (lt_of_blk hh)).trans hh, rest⟩
theorem HoldsB.below {B b : Nat} {l : List UInt8} {w w' : World} (h : HoldsB B b l w) (hb : Below w.heap.size w w') : HoldsB B b l w' := by
  have key : ∀ p, Lib.BuilderAtF 120 5 B b p (Lib.byteCells l) w → Lib.BuilderAtF 120 5 B b p (Lib.byteCells l) w' := by
    rintro p ⟨h1, v, h2, h3, h4⟩
    exact ⟨h1, v, blk_below hb (lt_of_blk h2) h2, own_belowF h3 hb, h4⟩
  exact ⟨h.1.imp (key _) (key _), Nat.le_trans h.2 hb.size⟩
end
section
set_option maxRecDepth 100000
open Go.RowKit Cal
attribute [local go_sem] toList_mk mk_size
theorem vec_block {w : World} {A : Nat} {L : List (List UInt8)} (h : w.heap[A]? = some (.cells (L.flatMap encS).toArray 9 (0, 0))) (n : Nat) (hn : n = L.length) : Vec w Any1 1 encS (.slice (some ⟨A, 0, none⟩) n n) L := by
  subst hn; exact RowB.vec h _ (Nat.le_refl _)
theorem take_snocA {α : Type} [Inhabited α] (T : List α) (k : Nat) (h : k < T.length) : T.take (k + 1) = T.take k ++ [T.getD k default] := by
  rw [List.take_succ_eq_append_getElem h, List.getD, List.getElem?_eq_getElem h]; rfl
theorem HoldsB.lt {B b : Nat} {l : List UInt8} {w : World} (h : HoldsB B b l w) : b < w.heap.size := by
  rcases h.1 with ⟨_, v, h2, _⟩ | ⟨_, v, h2, _⟩ <;> exact lt_of_blk h2
/-- what the loops of Text hold: the text so far; the blocks of w1 as they were -/
def TextAt (w1 : World) (l : List UInt8) (wr : World) : Prop := HoldsB w1.heap.size w1.heap.size l wr ∧ Below w1.heap.size w1 wr
theorem TextAt.below {w1 wr w' : World} {l : List UInt8} (h : TextAt w1 l wr) (hb : Below wr.heap.size wr w') : TextAt w1 l w' := ⟨h.1.below hb, h.2.trans (hb.mono h.2.size)⟩
end
section
set_option maxRecDepth 100000
open Go.RowKit Go.Maps
attribute [local go_sem] toList_mk mk_size
theorem lawS : Keyed Tryz.prog 9 := string_keyed Tryz.underlying9
def unitD : DataW Unit := .agg []
/-- the set of the first texts of a list, as a map's datum -/
def setD (L : List (List UInt8)) : DataW Unit := setOf unitD (L.map Lit.string)
theorem keyLit (L : List (List UInt8)) : ∀ x ∈ L.map Lit.string, WideAt.IsKeyLit x := by
  intro x hx
  obtain ⟨y, _, rfl⟩ := List.mem_map.1 hx
  trivial
theorem setD_snoc (L : List (List UInt8)) (x : List UInt8) : setD (L ++ [x]) = (setD L).put (.string x) unitD := by
  unfold setD; rw [List.map_append, List.map_cons, List.map_nil, setOf_snoc]
set_option maxHeartbeats 2000000 in
theorem of_any (S : Nat → Prop) (v : Value) (L : List (List UInt8)) (w : World) (h : Vec w S 1 encS v L) (hn : L.length ≤ 1000000) (hL : ∀ t ∈ L, t.length ≤ 1000000) :
    Calls Tryz.prog 286 #[v] w fun e w' => e = .returned (.map (some w.heap.size)) ∧ w'.ownsMap Tryz.prog 9 unitElem w.heap.size L.length (setD L) ∧ Below w.heap.size w w' := by
  have hmm := @run_makeMap Tryz.prog
  obtain ⟨a, cap, rfl⟩ := h.slice
  by_cases hz : L = []
  · subst hz
    clear h
    go_enter Tryz.func286, Tryz.ntmps286
    go_wp2
    refine wp_loop_rounds 1 ?_; rw [rounds_succ]
    go_wp2
    go_ret
    exact ⟨rfl, World.ownsMap_made _ _ _ _, (Below.refl _ _).alloc (Nat.le_refl _) _⟩
  · obtain ⟨b, off, rfl, _, hb, hc⟩ := vec_cell1 h (List.length_pos_iff.2 hz)
    have HC := Lib.hid hc; have HLn := Lib.hid hL
    clear hc h hz hL
    go_enter Tryz.func286, Tryz.ntmps286
    go_wp2
    go_loopw [9] (fun i wr => ∃ k : Nat, k ≤ L.length ∧ i = .int .i64 k ∧ wr.ownsMap Tryz.prog 9 unitElem w.heap.size k (setD (L.take k)) ∧ Below w.heap.size w wr) (fun i _ => L.length - (intOf i).toNat)
    case atStart => exact ⟨0, by omega, rfl, World.ownsMap_made _ _ _ _, (Below.refl _ _).alloc (Nat.le_refl _) _⟩
    case round =>
      obtain ⟨k, hk, rfl, ho, hbw⟩ := hrel
      have HO := Lib.hid ho; have HB := Lib.hid hbw
      by_cases hlt : k < L.length
      · have hq : decide ((k : Int) < L.length) = true := by simp; omega
        have c1 : wr.cell? ⟨b, off + k, none⟩ = some (strV (L.getD k [])) := (hbw.cell (p := ⟨b, off + k, none⟩) hb).trans (HC.out k hlt)
        have hx1 : (L.getD k []).length ≤ 1000000 := by rw [List.getD, List.getElem?_eq_getElem hlt]; exact HLn.out _ (List.getElem_mem hlt)
        have htk := take_snocA L k hlt
        rw [show (default : List UInt8) = [] from rfl] at htk
        obtain ⟨x, hx⟩ : ∃ x, L.getD k [] = x := ⟨_, rfl⟩
        rw [hx] at c1 hx1 htk
        have HT := Lib.hid htk
        have hkey := Lib.hid (WideMaps.keyOf_string_mk (P := Tryz.prog) (k := 9) (s := ⟨x.toArray⟩) Tryz.underlying9 (by rw [mk_size]; unfold maxLen; omega))
        clear hx htk hbw ho
        go_wp2_with (at_mapUpdate; refine wpList_mapUpdate_own _ rfl _ _ _ 283 rfl 9 284 lawS Tryz.underlying283 (unitElem (H := Unit)) w.heap.size k _ rfl HO.out (by unfold maxLen; omega) _ _ _ rfl rfl hkey.out _ [] unitElem_mk ?_; intro w1 hown1 hgrow1)
        go_roundw
        case rel => exact ⟨k + 1, by omega, by go_num, by rw [HT.out, setD_snoc]; exact hown1, HB.out.grown hgrow1 HB.out.size (fun j hj => by cases hj; exact Nat.le_refl _)⟩
        case measure => simp [intOf]; omega
      · have hq : decide ((k : Int) < L.length) = false := by simp; omega
        go_wp2_with fail
        go_ret
        exact ⟨rfl, by rw [List.take_of_length_le (by omega)] at HO; exact HO.out.mono hk, HB.out⟩
theorem keyStr {l : Lit} (h : KeysOf Tryz.prog 9 l) : ∃ x, l = .string x := by
  obtain ⟨v, hv⟩ := h
  obtain ⟨x, _, h2, _⟩ := keyOf_str Tryz.underlying9 hv
  exact ⟨x, h2⟩
theorem setD_perm {w : World} {b n : Nat} {L : List (List UInt8)} (h : w.ownsMap Tryz.prog 9 unitElem b n (setD L)) : L.eraseDups.Perm (strKeys (setD L)) := by
  have ht := tidy_setOf unitD (L.map Lit.string) (keyLit L)
  obtain ⟨es, e1, hk⟩ := h.keysOf
  obtain ⟨es', e2, hp⟩ := ht
  have e3 : setD L = .map es' := e2
  have hes : es = es' := by rw [e1] at e3; cases e3; rfl
  subst hes
  rw [e1]
  refine perm_strKeys hp (fun p hp' => keyStr (hk p hp')) (erase_nodup L _ (Nat.le_refl _)) fun x => ?_
  rw [← e1, List.mem_eraseDups]
  unfold setD
  rw [has_setOf _ _ _ (keyLit L), List.any_map, List.any_eq_true]
  constructor
  · intro hx; exact ⟨x, hx, by simp [Lit.sameKey]⟩
  · rintro ⟨y, hy, he⟩
    have := WideAt.sameKey_eq (show (Lit.string y).sameKey (Lit.string x) = true from he)
    cases this; exact hy
theorem flat_enc (L : List (List UInt8)) : L.map encStr = L.flatMap encS := by
  induction L with
  | nil => rfl
  | cons a L ih => rw [List.map_cons, List.flatMap_cons, ih]; rfl
set_option maxHeartbeats 1000000 in
/-- the elements of a list, ascending, in a new slice -/
theorem set_any (S : Nat → Prop) (v : Value) (L : List (List UInt8)) (w : World) (h : Vec w S 1 encS v L) (hn : L.length ≤ 1000000) (hL : ∀ t ∈ L, t.length ≤ 1000000) :
    Calls Tryz.prog 263 #[v] w fun e w' => ∃ v', e = .returned v' ∧ OwnAt w v' (setL L) w' := by
  have HV := Lib.hid h; have HLn := Lib.hid hL
  clear h hL
  go_enter Tryz.func263, Tryz.ntmps263
  go_wp2_with fail
  refine (of_any S v L _ HV.out hn HLn.out).mono ?_
  rintro e w1 ⟨rfl, ho, hb⟩
  have HO := Lib.hid ho; have HB := Lib.hid hb
  clear ho hb
  go_wp2_with fail
  refine ((callsIn_wide (n := 5)).1 (Tryz.maps_Keys _ _)).mono ?_
  rintro e w' ⟨rfl, rfl⟩
  go_wp2_with fail
  refine ((callsIn_wide (n := 5)).1 (Tryz.slices_Sorted_keys w.heap.size L.length (setD L) unitElem w1 HO.out (by have := HO.out.size_le; unfold maxLen; omega) (by have := HO.out.size_le; omega))).mono ?_
  rintro e w2 ⟨v', ss, rfl, hp, hrow, _, hb2⟩
  have e1 : ss.mergeSort leB = setL L := mergeSort_of_perm (hp.trans (setD_perm HO.out).symm)
  have e2 : ss.length = (setL L).length := by rw [← e1, (List.mergeSort_perm _ _).length_eq]
  have hrow2 : w2.ownsRow (w1.alloc (.cells #[.map (some w.heap.size)] 283)).heap.size 9 1 v' (setL L).length ((setL L).flatMap encS) := by
    rw [← flat_enc, ← e2, ← e1]; exact hrow
  have HR := Lib.hid hrow2
  have HB2 := Lib.hid ((HB.out.alloc HB.out.size (.cells #[.map (some w.heap.size)] 283)).trans (hb2.mono (by have := HB.out.size; simp; omega)))
  clear e1 e2 hrow hrow2 hp hb2
  have hbz := HB.out.size
  go_wp2_with fail
  go_ret
  exact ⟨v', rfl, ownsRow_base_a HR.out (by simp; omega), HB2.out⟩
end
section
set_option maxRecDepth 100000
open Go.RowKit Cal
/-- what a normal form may be, with its error -/
def FormOk (p : List UInt8 × Int) : Prop := p.1.length ≤ 64 ∧ (p.2 ≠ 0 → p.1 = [])
theorem FormOk.err (e : Int) : FormOk ([], e) := ⟨by simp, fun _ => rfl⟩
theorem nameN_form (r : RulesL) (l : List UInt8) : FormOk (nameN r l) := by
  unfold nameN
  repeat' split
  all_goals first | exact FormOk.err _ | skip
  all_goals exact ⟨by dsimp only; omega, fun h => absurd rfl h⟩
theorem addrN_form (r : RulesL) (l : List UInt8) : FormOk (addrN r l) := by
  unfold addrN
  repeat' split
  all_goals first | exact FormOk.err _ | skip
  all_goals exact ⟨by dsimp only; omega, fun h => absurd rfl h⟩
theorem codeN_form (l : List UInt8) : FormOk (codeN l) := by
  unfold codeN
  repeat' split
  all_goals first | exact FormOk.err _ | skip
  all_goals exact ⟨by dsimp only; omega, fun h => absurd rfl h⟩
theorem dayF_form (y m d : List UInt8) : FormOk (dayF y m d) := by
  unfold dayF
  cases vldB (numI y) (numI m) (numI d)
  · exact FormOk.err _
  · exact ⟨by show (digits8 _ _ _).length ≤ 64; rw [digits8_len]; omega, fun h => absurd rfl h⟩
theorem dayN_form (l : List UInt8) : FormOk (dayN l) := by
  unfold dayN
  repeat' split
  all_goals first | exact FormOk.err _ | exact dayF_form _ _ _
theorem valueN_form (s : SchemaL) (f : Int) (l : List UInt8) : FormOk (valueN s f l) := by
  unfold valueN normK
  repeat' split
  all_goals first | exact FormOk.err _ | exact nameN_form _ _ | exact dayN_form _ | exact codeN_form _ | exact addrN_form _ _
theorem findN_in {s : SchemaL} {f : Nat} (h : checkS s = 0) (hf : f < s.fields.length) : findN s f = ((s.fields.getD f default).2, 0) := by
  unfold findN
  rw [if_pos h, if_pos (by omega), Int.toNat_natCast]
end
section
set_option maxRecDepth 100000
open Go.RowKit Cal
theorem nameN_toks {r : RulesL} {l v : List UInt8} (h : nameN r l = (v, 0)) : ∃ M : List (List UInt8), (∀ t ∈ M, okT t) ∧ v = joinL M ∧ M.length ≤ 6 ∧ v.length ≤ 64 := by
  unfold nameN at h
  by_cases hc : checkR r = 0
  · rw [if_pos hc] at h
    by_cases hv : foldV l = true
    · rw [if_pos hv] at h
      obtain ⟨h1, _⟩ := nameToks_same hc (toks (foldL l))
      generalize nameToks r (toks (foldL l)) = M at h h1
      by_cases hb : 6 < M.length ∨ 64 < (joinL M).length
      · rw [if_pos hb] at h; simp at h
      · rw [if_neg hb] at h
        obtain rfl : joinL M = v := congrArg Prod.fst h
        exact ⟨M, h1, rfl, by omega, by omega⟩
    · rw [if_neg hv] at h; simp at h
  · rw [if_neg hc] at h
    exact absurd (congrArg Prod.snd h) hc
theorem addrN_toks {r : RulesL} {l v : List UInt8} (h : addrN r l = (v, 0)) : ∃ M : List (List UInt8), (∀ t ∈ M, okT t) ∧ v = joinL M ∧ M.length ≤ 6 ∧ v.length ≤ 64 := by
  unfold addrN at h
  by_cases hc : checkR r = 0
  · rw [if_pos hc] at h
    obtain ⟨_, _, _, h3, _⟩ := check_zero hc
    by_cases hv : foldV l = true
    · rw [if_pos hv] at h
      have hok := toks_ok l
      generalize toks (foldL l) = T at h hok
      have hM : ∀ t ∈ order2 (T.map (addrTok r)), okT t := by
        intro t ht
        obtain ⟨x, hx, rfl⟩ := List.mem_map.1 (order2_mem ht)
        exact (addrTok_same h3 (hok x hx)).1
      have hlen : (order2 (T.map (addrTok r))).length = T.length := by rw [order2_length, List.length_map]
      by_cases hb : 6 < T.length ∨ 64 < (joinL (order2 (T.map (addrTok r)))).length
      · rw [if_pos hb] at h; simp at h
      · rw [if_neg hb] at h
        obtain rfl : joinL (order2 (T.map (addrTok r))) = v := congrArg Prod.fst h
        exact ⟨_, hM, rfl, by omega, by omega⟩
    · rw [if_neg hv] at h; simp at h
  · rw [if_neg hc] at h
    exact absurd (congrArg Prod.snd h) hc
/-- the grams of a normal form of a kind -/
def gramsK (k : Int) (l : List UInt8) : List (List UInt8) := if l = [] then [] else if k = 2 then posL 0 l else if k = 3 then [61 :: l] else gramsL l
end
section
set_option maxRecDepth 100000
open Go.RowKit
attribute [local go_sem] toList_mk mk_size bytes_append
theorem wrapT_cons (t : List UInt8) : wrapT t = 95 :: (t ++ [95]) := rfl
theorem bigr_getD (l : List UInt8) : ∀ j, j + 1 < l.length → (bigrA l).getD j [] = [l.getD j 0, l.getD (j + 1) 0] := by
  induction l using bigrA.induct with
  | case1 a b r ih =>
    intro j hj
    cases j with
    | zero => rfl
    | succ j =>
      have := ih j (by simp at hj ⊢; omega)
      simp only [bigrA, List.getD_cons_succ] at this ⊢
      exact this
  | case2 l h =>
    intro j hj
    match l, h with
    | [], _ => simp at hj
    | [a], _ => simp at hj
    | a :: b :: r, h => exact absurd rfl (h a b r)
theorem take_two (l : List UInt8) (j : Nat) (h : j + 1 < l.length) : ((⟨l.toArray⟩ : ByteArray).extract j (j + 2)) = ⟨[l.getD j 0, l.getD (j + 1) 0].toArray⟩ := by
  have := ext_mk l j (j + 2) (by omega)
  unfold mkS at this
  rw [this]
  congr 2
  rw [List.drop_take, List.drop_eq_getElem_cons (by omega), List.drop_eq_getElem_cons (by omega), List.getD, List.getD, List.getElem?_eq_getElem (by omega), List.getElem?_eq_getElem h]
  rw [show j + 2 - j = 2 by omega]; rfl
theorem gramsAll_take (T : List (List UInt8)) (k : Nat) (h : k < T.length) : gramsAll (T.take (k + 1)) = gramsAll (T.take k) ++ bigrA (wrapT (T.getD k [])) := by
  have := take_snocA T k h
  rw [show (default : List UInt8) = [] from rfl] at this
  rw [this]; simp [gramsAll]
theorem gramsAll_small (T : List (List UInt8)) (h : ∀ t ∈ T, t.length ≤ 64) : (gramsAll T).length ≤ 65 * T.length := by
  induction T with
  | nil => simp [gramsAll]
  | cons t T ih =>
    have h1 := ih fun x hx => h x (List.mem_cons_of_mem _ hx)
    have h2 := h t List.mem_cons_self
    have e : (gramsAll (t :: T)).length = t.length + 1 + (gramsAll T).length := by
      simp only [gramsAll, List.flatMap_cons, List.length_append, bigr_len, wrapT]; simp; try omega
    rw [e, List.length_cons]; omega
theorem toks_len (l : List UInt8) (h : l.length ≤ 64) : (toks l).length ≤ 65 ∧ ∀ t ∈ toks l, t.length ≤ 64 := by
  have h1 := toksA_len l []
  unfold toks
  refine ⟨by simp at h1; omega, fun t ht => ?_⟩
  have : ∀ (L : List (List UInt8)), t ∈ L → t.length ≤ (joinL L).length := by
    intro L
    induction L with
    | nil => intro h; simp at h
    | cons a L ih =>
      intro h
      by_cases hL : L = []
      · subst hL; simp at h; subst h; exact Nat.le_refl _
      · rw [join_cons_ne _ _ hL]
        rcases List.mem_cons.1 h with rfl | h
        · simp
        · have := ih h; simp; omega
  have := this _ ht
  simp at h1; omega
set_option maxHeartbeats 4000000 in
theorem ggrams_any (s : ByteArray) (w : World) (hs : s.size ≤ 64) (ha : ascii s.data.toList) :
    Calls Tryz.prog 223 #[.string s] w fun e w' => ∃ v, e = .returned v ∧ Vec w' Any1 1 encS v (gramsL s.data.toList) ∧ Below w.heap.size w w' := by
  have hl : s.data.toList.length = s.size := by simp
  obtain ⟨hT1, hT2⟩ := toks_len s.data.toList (by omega)
  have hc := tokens_any s.data.toList w ha (by omega)
  rw [show strV s.data.toList = .string s by simp] at hc
  obtain ⟨T, hT⟩ : ∃ T, toks s.data.toList = T := ⟨_, rfl⟩
  have hG : gramsL s.data.toList = setL (gramsAll T) := by unfold gramsL; rw [hT]
  rw [hT] at hT1 hT2 hc
  rw [hG]
  have HC := Lib.hid hc; have HT2 := Lib.hid hT2
  have d1 : decide ((64 : Int) < s.size) = false := by simp; omega
  clear hl hc hT hG hT2 ha
  go_enter Tryz.func223, Tryz.ntmps223
  go_wp2_with fail
  refine HC.out.mono ?_
  rintro e w1 ⟨A, rfl, hA, ho, hb1⟩
  have HR := Lib.hid (own_block ho).2
  have zA := lt_of_blk HR.out
  have HB1 := Lib.hid hb1
  clear ho hb1 HC d1
  go_wp2_with fail
  go_loopw [3, 13] (fun v i wr => ∃ k : Nat, k ≤ T.length ∧ i = .int .i64 k ∧ OwnAt w1 v (gramsAll (T.take k)) wr) (fun _ i _ => T.length - (intOf i).toNat)
  case atStart => exact ⟨0, by omega, rfl, OwnAt.start w1⟩
  case round =>
    obtain ⟨k, hk, rfl, ho⟩ := hrel
    have HO := Lib.hid ho; clear ho
    by_cases hlt : k < T.length
    · have hq : decide ((k : Int) < T.length) = true := by simp; omega
      have hgl := gramsAll_small (T.take k) (fun t ht => HT2.out t (List.mem_of_mem_take ht))
      have htl := List.length_take_le k T
      have hx1 : (T.getD k []).length ≤ 64 := by rw [List.getD, List.getElem?_eq_getElem hlt]; exact HT2.out _ (List.getElem_mem hlt)
      have c1 := (show RowB _ A T from blk_below HO.out.2 zA HR.out).cell k hlt
      have HG := Lib.hid (gramsAll_take T k hlt)
      obtain ⟨t, ht⟩ : ∃ t, T.getD k [] = t := ⟨_, rfl⟩
      rw [ht] at c1 hx1 HG
      clear ht
      obtain ⟨wo, rfl⟩ : ∃ wo : World, wo = wr := ⟨_, rfl⟩
      go_wp2_with fail
      go_loopw [3, 23] (fun v i wr => ∃ j : Nat, j ≤ 1 + t.length ∧ i = .int .i64 j ∧ OwnAt w1 v (gramsAll (T.take k) ++ (bigrA (wrapT t)).take j) wr) (fun _ i _ => 1 + t.length - (intOf i).toNat)
      case atStart => exact ⟨0, by omega, rfl, by simpa using HO.out⟩
      case round =>
        obtain ⟨j, hj, rfl, ho2⟩ := hrel
        have HO2 := Lib.hid ho2; clear ho2
        have hwl : (wrapT t).length = t.length + 2 := by simp [wrapT]
        by_cases hlj : j < 1 + t.length
        · have hq2 : decide ((j : Int) < 1 + t.length) = true := by simp; omega
          have hext := take_two (wrapT t) j (by omega)
          have hbg := bigr_getD (wrapT t) j (by omega)
          have hbl : j < (bigrA (wrapT t)).length := by rw [bigr_len]; omega
          have htk := take_snocA (bigrA (wrapT t)) j hbl
          rw [show (default : List UInt8) = [] from rfl, hbg] at htk
          obtain ⟨z, hz⟩ : ∃ z, [(wrapT t).getD j 0, (wrapT t).getD (j + 1) 0] = z := ⟨_, rfl⟩
          rw [hz] at hext htk
          rw [wrapT_cons] at hext
          have HTK := Lib.hid htk
          have hln : (gramsAll (T.take k) ++ (bigrA (wrapT t)).take j).length < 1099511627776 := by
            have := List.length_take_le j (bigrA (wrapT t))
            simp only [List.length_append]; omega
          have hone : ∀ u ∈ (#[strV z] : Array Value).toList, u.oneCell' = true := by intro u hu; simp at hu; subst hu; rfl
          clear hbg hbl htk hz hwl
          go_wp2_with (at_builtin; refine wpList_append_new rfl _ _ 28 rfl w1.heap.size 9 1 16 (.string ⟨#[]⟩) Tryz.underlying28 infoS rfl (by decide) (by decide) _ _ _ rfl HO2.out.1 #[strV z] 1 rfl rfl hone hln HO2.out.2.size ?_; intro v2 w8 ho8 hw8)
          go_roundw
          case rel => exact ⟨j + 1, by omega, by go_num, by rw [HTK.out, ← List.append_assoc]; exact ⟨by rw [List.length_append, flat_snoc]; exact ho8, hw8 _ HO2.out.2⟩⟩
          case measure => simp [intOf]; omega
        · have hq2 : decide ((j : Int) < 1 + t.length) = false := by simp; omega
          rw [show (bigrA (wrapT t)).take j = bigrA (wrapT t) from List.take_of_length_le (by rw [bigr_len]; omega), ← HG.out] at HO2
          go_wp2_with fail
          go_roundw
          case rel => exact ⟨k + 1, by omega, by go_num, HO2.out⟩
          case measure => simp [intOf]; omega
    · have hq : decide ((k : Int) < T.length) = false := by simp; omega
      rw [List.take_of_length_le (by omega)] at HO
      have hgl := gramsAll_small T HT2.out
      have HV := Lib.hid (Vec.owns (S := Any1) (k := 1) (enc := encS) (fun _ => rfl) HO.out.1 (fun _ _ _ => trivial))
      have hsm : ∀ x ∈ gramsAll T, x.length ≤ 1000000 := by
        intro x hx
        obtain ⟨t, ht, hx⟩ := List.mem_flatMap.1 hx
        have key : ∀ l : List UInt8, ∀ x ∈ bigrA l, x.length = 2 := by
          intro l
          induction l using bigrA.induct with
          | case1 a b r ih => intro x hx; simp only [bigrA] at hx; rcases List.mem_cons.1 hx with rfl | hx; · rfl
                              exact ih x hx
          | case2 l h =>
            intro x hx
            match l, h with
            | [], _ => simp [bigrA] at hx
            | [a], _ => simp [bigrA] at hx
            | a :: b :: r, h => exact absurd rfl (h a b r)
        have := key _ x hx; omega
      have HSm := Lib.hid hsm; clear hsm
      go_wp2_with fail
      refine (set_any Any1 _ (gramsAll T) _ HV.out (by omega) HSm.out).mono ?_
      rintro e w3 ⟨v3, rfl, ho3⟩
      have HV3 := Lib.hid (Vec.owns (S := Any1) (k := 1) (enc := encS) (fun _ => rfl) ho3.1 (fun _ _ _ => trivial))
      have HB3 := Lib.hid ((HB1.out.trans (HO.out.2.mono HB1.out.size)).trans (ho3.2.mono (Nat.le_trans HB1.out.size HO.out.2.size)))
      clear ho3
      go_wp2_with fail
      go_ret
      exact ⟨v3, rfl, HV3.out, HB3.out⟩
end
section
set_option maxRecDepth 100000
open Go.RowKit Cal
attribute [local go_sem] toList_mk mk_size bytes_append
set_option maxHeartbeats 400000 in
theorem kind4_any (s : ByteArray) (w : World) (hs : s.size ≤ 1000) :
    Calls Tryz.prog 232 #[.string s] w fun e w' => ∃ v, e = .returned v ∧ Vec w' Any1 1 encS v [61 :: s.data.toList] ∧ Below w.heap.size w w' := by
  have hs2 : (⟨#[61]⟩ : ByteArray) ++ s = ⟨(61 :: s.data.toList).toArray⟩ := by
    apply ByteArray.ext; simp
  go_enter Tryz.func232, Tryz.ntmps232
  go_wp2
  go_ret
  exact ⟨_, rfl, vec_block (L := [61 :: s.data.toList]) (blk_new rfl) 1 rfl, (Below.refl _ _).alloc (Nat.le_refl _) _⟩
/-- the grams of a value, and the error -/
def gramsN (s : SchemaL) (f : Int) (l : List UInt8) : List (List UInt8) × Int := if (findN s f).2 = 0 then (if normalB s f l = true then (gramsK (findN s f).1 l, 0) else ([], 7)) else ([], (findN s f).2)
def GramsIs (p : List (List UInt8) × Int) (w : World) (e : Ending) (w' : World) : Prop := ∃ v, e = .returned (.tuple #[v, .int .i64 p.2]) ∧ Vec w' Any1 1 encS v p.1 ∧ Below w.heap.size w w'
theorem own_small {p : List UInt8 × Int} {l : List UInt8} (h : isOwn p l = true) (hf : FormOk p) : l.length ≤ 64 ∧ p = (l, 0) := by
  obtain ⟨a, b⟩ := p
  unfold isOwn at h
  cases hb : (b == (0 : Int))
  · rw [hb] at h; cases h
  · rw [hb] at h
    simp only [cond_true, beq_iff_eq] at h hb
    subst h hb
    exact ⟨hf.1, rfl⟩
theorem join_ascii {M : List (List UInt8)} (h : ∀ t ∈ M, okT t) : ascii (joinL M) := fun b hb => okB_lt (join_ok M h b hb)
/-- what a value in normal form is like -/
theorem own_facts {k : Int} {r : RulesL} {l : List UInt8} (h : ownK k r l = true) (hk : k = 1 ∨ k = 2 ∨ k = 3 ∨ k = 4) : l.length ≤ 64 ∧ (k = 1 ∨ k = 4 → ascii l) ∧ (k = 2 → l.length = 8) := by
  unfold ownK at h
  rcases hk with rfl | rfl | rfl | rfl
  · obtain ⟨h1, h2⟩ := own_small (show isOwn (nameN r l) l = true from h) (nameN_form r l)
    obtain ⟨M, g1, g2, _⟩ := nameN_toks h2
    exact ⟨h1, fun _ => by rw [g2]; exact join_ascii g1, fun e => by omega⟩
  · have hr : readB l = true := h
    unfold readB at hr
    cases hd : decide (l.length = 8)
    · rw [hd] at hr; cases hr
    · have : l.length = 8 := by simpa using hd
      exact ⟨by omega, fun e => by omega, fun _ => this⟩
  · obtain ⟨h1, h2⟩ := own_small (show isOwn (codeN l) l = true from h) (codeN_form l)
    exact ⟨h1, fun e => by omega, fun e => by omega⟩
  · obtain ⟨h1, h2⟩ := own_small (show isOwn (addrN r l) l = true from h) (addrN_form r l)
    obtain ⟨M, g1, g2, _⟩ := addrN_toks h2
    exact ⟨h1, fun _ => by rw [g2]; exact join_ascii g1, fun e => by omega⟩
set_option maxHeartbeats 8000000 in
theorem grams_s (S : Nat → Prop) (vf vt vn vs : Value) (s : SchemaL) (f : Int) (x : ByteArray) (w : World) (h : SchemaAt w S vf vt vn vs s) (hx : x.size ≤ 9223372036854775000) :
    Calls Tryz.prog 139 #[.agg #[vf, vt, vn, vs], .int .i64 f, .string x] w (GramsIs (gramsN s f x.data.toList) w) := by
  have HS := Lib.hid h.any
  have HL := Lib.hid (Lib.toList_data x)
  clear h
  have K := find_s Any1 vf vt vn vs s f (w.alloc (.cells #[vf, vt, vn, vs] 33)) (HS.out.below ((Below.refl _ _).alloc (Nat.le_refl _) _))
  have hkk := findN_kind (s := s) (f := f)
  have hval : gramsN s f x.data.toList = if (findN s f).2 = 0 then (if normalB s f x.data.toList = true then (gramsK (findN s f).1 x.data.toList, 0) else ([], 7)) else ([], (findN s f).2) := rfl
  have hown : (findN s f).2 = 0 → x.data.toList ≠ [] → normalB s f x.data.toList = ownK (findN s f).1 s.rules x.data.toList := fun h0 h1 => by unfold normalB; rw [if_pos h0, if_neg h1]
  obtain ⟨⟨kd, er⟩, hp⟩ : ∃ p, findN s f = p := ⟨_, rfl⟩
  rw [hp] at K hkk hval hown
  dsimp only at hkk hval hown
  change Calls _ _ _ _ fun e w' => e = .returned (.tuple #[.agg (kindAt kd), .int .i64 er]) ∧ _ at K
  have HK := Lib.hid K
  have HVal := Lib.hid hval; have HOwn := Lib.hid hown
  obtain ⟨ko, ks⟩ := kindAt_one kd
  have KO := Lib.hid ko; have KS := Lib.hid ks
  clear K hp hval ko ks hown
  by_cases he : er = 0
  · subst he
    have hkd := hkk rfl
    clear hkk
    cases hno : normalB s f x.data.toList
    · have HE := Lib.hid (show gramsN s f x.data.toList = ([], 7) by rw [HVal.out, if_pos rfl, hno, if_neg (by simp)])
      have HN := Lib.hid hno
      clear hno hkd
      rw [HE.out]
      go_enter Tryz.func139, Tryz.ntmps139
      go_wp2_with fail
      refine HK.out.mono ?_
      rintro e w1 ⟨rfl, hb1⟩
      have HB1 := Lib.hid (((Below.refl w.heap.size w).alloc (Nat.le_refl _) (.cells #[vf, vt, vn, vs] 33)).trans (hb1.mono (by simp)))
      have HX1 := Lib.hid (blk_below (b := w.heap.size) (o := .cells #[vf, vt, vn, vs] 33 (0, 0)) hb1 (by simp) (blk_new rfl))
      clear hb1 HK
      have z0 := lt_of_blk HX1.out
      obtain ⟨p0, p1, p2, p3⟩ := cells4 HX1.out
      go_wp2_with (refine wpList_store_row rfl 167 (.tmp 8) (.tmp 14) rfl w1.heap.size (kindAt kd) rfl rfl 167 kind0 (heap_alloc_new w1 _) (by rw [KS.out]; kernel_rfl) (by rw [KS.out]; rfl) KO.out ?_; rw [World.setRow_alloc_new])
      have HB2 := Lib.hid (HB1.out.alloc HB1.out.size (.cells (kindAt kd) 167))
      refine (normal_s Any1 vf vt vn vs s f x _ (HS.out.below HB2.out) hx).mono ?_
      rw [HN.out]
      rintro e w3 ⟨rfl, hb3⟩
      have HB3 := Lib.hid (HB2.out.trans (hb3.mono HB2.out.size))
      clear hb3 p0 p1 p2 p3
      go_wp2_with fail
      go_ret2
      exact ⟨_, rfl, Vec.nil _ _ _ _, HB3.out⟩
    · by_cases hx0 : x.data.toList = []
      · have e1 : x.toList = [] := by rw [HL.out, hx0]
        have HE := Lib.hid (show gramsN s f x.data.toList = ([], 0) by rw [HVal.out, if_pos rfl, hno, if_pos rfl]; unfold gramsK; rw [if_pos hx0])
        have HN := Lib.hid hno
        clear hno hkd hx0
        rw [HE.out]
        go_enter Tryz.func139, Tryz.ntmps139
        go_wp2_with fail
        refine HK.out.mono ?_
        rintro e w1 ⟨rfl, hb1⟩
        have HB1 := Lib.hid (((Below.refl w.heap.size w).alloc (Nat.le_refl _) (.cells #[vf, vt, vn, vs] 33)).trans (hb1.mono (by simp)))
        have HX1 := Lib.hid (blk_below (b := w.heap.size) (o := .cells #[vf, vt, vn, vs] 33 (0, 0)) hb1 (by simp) (blk_new rfl))
        clear hb1 HK
        have z0 := lt_of_blk HX1.out
        obtain ⟨p0, p1, p2, p3⟩ := cells4 HX1.out
        go_wp2_with (refine wpList_store_row rfl 167 (.tmp 8) (.tmp 14) rfl w1.heap.size (kindAt kd) rfl rfl 167 kind0 (heap_alloc_new w1 _) (by rw [KS.out]; kernel_rfl) (by rw [KS.out]; rfl) KO.out ?_; rw [World.setRow_alloc_new])
        have HB2 := Lib.hid (HB1.out.alloc HB1.out.size (.cells (kindAt kd) 167))
        refine (normal_s Any1 vf vt vn vs s f x _ (HS.out.below HB2.out) hx).mono ?_
        rw [HN.out]
        rintro e w3 ⟨rfl, hb3⟩
        have HB3 := Lib.hid (HB2.out.trans (hb3.mono HB2.out.size))
        clear hb3 p0 p1 p2 p3
        go_wp2_with fail
        go_ret2
        exact ⟨_, rfl, Vec.nil _ _ _ _, HB3.out⟩
      · have e1 : (x.toList == []) = false := by rw [HL.out]; simpa using hx0
        have e2 : x.toList.isEmpty = false := by rw [HL.out]; simpa using hx0
        have ho := HOwn.out rfl hx0
        rw [hno] at ho
        obtain ⟨g1, g2, g3⟩ := own_facts ho.symm hkd
        have hl : x.data.toList.length = x.size := by simp
        rw [hl] at g1 g3
        have HG2 := Lib.hid g2
        have HE := Lib.hid (show gramsN s f x.data.toList = (gramsK kd x.data.toList, 0) by rw [HVal.out, if_pos rfl, hno, if_pos rfl])
        have HGK := Lib.hid (show gramsK kd x.data.toList = if kd = 2 then posL 0 x.data.toList else if kd = 3 then [61 :: x.data.toList] else gramsL x.data.toList by unfold gramsK; rw [if_neg hx0])
        have HN := Lib.hid hno
        clear hno hx0 ho hl g2
        rw [HE.out, HGK.out]
        rcases hkd with rfl | rfl | rfl | rfl
        · rw [if_neg (by omega), if_neg (by omega)]
          (first | have HAs := Lib.hid (HG2.out (by omega)) | skip)
          clear HG2 HE HGK HOwn HVal
          go_enter Tryz.func139, Tryz.ntmps139
          go_wp2_with fail
          refine HK.out.mono ?_
          rintro e w1 ⟨rfl, hb1⟩
          have HB1 := Lib.hid (((Below.refl w.heap.size w).alloc (Nat.le_refl _) (.cells #[vf, vt, vn, vs] 33)).trans (hb1.mono (by simp)))
          have HX1 := Lib.hid (blk_below (b := w.heap.size) (o := .cells #[vf, vt, vn, vs] 33 (0, 0)) hb1 (by simp) (blk_new rfl))
          clear hb1 HK
          have z0 := lt_of_blk HX1.out
          obtain ⟨p0, p1, p2, p3⟩ := cells4 HX1.out
          go_wp2_with (refine wpList_store_row rfl 167 (.tmp 8) (.tmp 14) rfl w1.heap.size (kindAt 1) rfl rfl 167 kind0 (heap_alloc_new w1 _) (by rw [KS.out]; kernel_rfl) (by rw [KS.out]; rfl) KO.out ?_; rw [World.setRow_alloc_new])
          have HB2 := Lib.hid (HB1.out.alloc HB1.out.size (.cells (kindAt 1) 167))
          refine (normal_s Any1 vf vt vn vs s f x _ (HS.out.below HB2.out) hx).mono ?_
          rw [HN.out]
          rintro e w3 ⟨rfl, hb3⟩
          have HB3 := Lib.hid (HB2.out.trans (hb3.mono HB2.out.size))
          have HX3 := Lib.hid (blk_below (b := w1.heap.size) (o := .cells (kindAt 1) 167 (0, 0)) hb3 (by simp) (blk_new rfl))
          have cf : w3.cell? ⟨w1.heap.size, 3, none⟩ = some (fnV 223) := by rw [cell_of_row _ _ _ _ _ _ HX3.out]; rfl
          clear hb3 p0 p1 p2 p3
          go_wp2_with fail
          refine (ggrams_any x _ g1 HAs.out).mono ?_
          rintro e w4 ⟨v, rfl, ho⟩
          have HO := Lib.hid ho; clear ho
          go_wp2_with fail
          go_ret2
          exact ⟨v, rfl, HO.out.1, HB3.out.trans ((HO.out.2).mono HB3.out.size)⟩
        · rw [if_pos rfl]
          have g4 : x.size ≤ 26 := by have := g3 rfl; omega
          (first | have HAs := Lib.hid (HG2.out (by omega)) | skip)
          clear HG2 HE HGK HOwn HVal
          go_enter Tryz.func139, Tryz.ntmps139
          go_wp2_with fail
          refine HK.out.mono ?_
          rintro e w1 ⟨rfl, hb1⟩
          have HB1 := Lib.hid (((Below.refl w.heap.size w).alloc (Nat.le_refl _) (.cells #[vf, vt, vn, vs] 33)).trans (hb1.mono (by simp)))
          have HX1 := Lib.hid (blk_below (b := w.heap.size) (o := .cells #[vf, vt, vn, vs] 33 (0, 0)) hb1 (by simp) (blk_new rfl))
          clear hb1 HK
          have z0 := lt_of_blk HX1.out
          obtain ⟨p0, p1, p2, p3⟩ := cells4 HX1.out
          go_wp2_with (refine wpList_store_row rfl 167 (.tmp 8) (.tmp 14) rfl w1.heap.size (kindAt 2) rfl rfl 167 kind0 (heap_alloc_new w1 _) (by rw [KS.out]; kernel_rfl) (by rw [KS.out]; rfl) KO.out ?_; rw [World.setRow_alloc_new])
          have HB2 := Lib.hid (HB1.out.alloc HB1.out.size (.cells (kindAt 2) 167))
          refine (normal_s Any1 vf vt vn vs s f x _ (HS.out.below HB2.out) hx).mono ?_
          rw [HN.out]
          rintro e w3 ⟨rfl, hb3⟩
          have HB3 := Lib.hid (HB2.out.trans (hb3.mono HB2.out.size))
          have HX3 := Lib.hid (blk_below (b := w1.heap.size) (o := .cells (kindAt 2) 167 (0, 0)) hb3 (by simp) (blk_new rfl))
          have cf : w3.cell? ⟨w1.heap.size, 3, none⟩ = some (fnV 227) := by rw [cell_of_row _ _ _ _ _ _ HX3.out]; rfl
          clear hb3 p0 p1 p2 p3
          go_wp2_with fail
          refine (positional_any x _ (by omega)).mono ?_
          rintro e w4 ⟨v, rfl, ho⟩
          have HO := Lib.hid ho; clear ho
          go_wp2_with fail
          go_ret2
          exact ⟨v, rfl, Vec.owns (k := 1) (enc := encS) (fun _ => rfl) HO.out.1 (fun _ _ _ => trivial), HB3.out.trans ((HO.out.2).mono HB3.out.size)⟩
        · rw [if_neg (by omega), if_pos rfl]
          (first | have HAs := Lib.hid (HG2.out (by omega)) | skip)
          clear HG2 HE HGK HOwn HVal
          go_enter Tryz.func139, Tryz.ntmps139
          go_wp2_with fail
          refine HK.out.mono ?_
          rintro e w1 ⟨rfl, hb1⟩
          have HB1 := Lib.hid (((Below.refl w.heap.size w).alloc (Nat.le_refl _) (.cells #[vf, vt, vn, vs] 33)).trans (hb1.mono (by simp)))
          have HX1 := Lib.hid (blk_below (b := w.heap.size) (o := .cells #[vf, vt, vn, vs] 33 (0, 0)) hb1 (by simp) (blk_new rfl))
          clear hb1 HK
          have z0 := lt_of_blk HX1.out
          obtain ⟨p0, p1, p2, p3⟩ := cells4 HX1.out
          go_wp2_with (refine wpList_store_row rfl 167 (.tmp 8) (.tmp 14) rfl w1.heap.size (kindAt 3) rfl rfl 167 kind0 (heap_alloc_new w1 _) (by rw [KS.out]; kernel_rfl) (by rw [KS.out]; rfl) KO.out ?_; rw [World.setRow_alloc_new])
          have HB2 := Lib.hid (HB1.out.alloc HB1.out.size (.cells (kindAt 3) 167))
          refine (normal_s Any1 vf vt vn vs s f x _ (HS.out.below HB2.out) hx).mono ?_
          rw [HN.out]
          rintro e w3 ⟨rfl, hb3⟩
          have HB3 := Lib.hid (HB2.out.trans (hb3.mono HB2.out.size))
          have HX3 := Lib.hid (blk_below (b := w1.heap.size) (o := .cells (kindAt 3) 167 (0, 0)) hb3 (by simp) (blk_new rfl))
          have cf : w3.cell? ⟨w1.heap.size, 3, none⟩ = some (fnV 232) := by rw [cell_of_row _ _ _ _ _ _ HX3.out]; rfl
          clear hb3 p0 p1 p2 p3
          go_wp2_with fail
          refine (kind4_any x _ (by omega)).mono ?_
          rintro e w4 ⟨v, rfl, ho⟩
          have HO := Lib.hid ho; clear ho
          go_wp2_with fail
          go_ret2
          exact ⟨v, rfl, HO.out.1, HB3.out.trans ((HO.out.2).mono HB3.out.size)⟩
        · rw [if_neg (by omega), if_neg (by omega)]
          (first | have HAs := Lib.hid (HG2.out (by omega)) | skip)
          clear HG2 HE HGK HOwn HVal
          go_enter Tryz.func139, Tryz.ntmps139
          go_wp2_with fail
          refine HK.out.mono ?_
          rintro e w1 ⟨rfl, hb1⟩
          have HB1 := Lib.hid (((Below.refl w.heap.size w).alloc (Nat.le_refl _) (.cells #[vf, vt, vn, vs] 33)).trans (hb1.mono (by simp)))
          have HX1 := Lib.hid (blk_below (b := w.heap.size) (o := .cells #[vf, vt, vn, vs] 33 (0, 0)) hb1 (by simp) (blk_new rfl))
          clear hb1 HK
          have z0 := lt_of_blk HX1.out
          obtain ⟨p0, p1, p2, p3⟩ := cells4 HX1.out
          go_wp2_with (refine wpList_store_row rfl 167 (.tmp 8) (.tmp 14) rfl w1.heap.size (kindAt 4) rfl rfl 167 kind0 (heap_alloc_new w1 _) (by rw [KS.out]; kernel_rfl) (by rw [KS.out]; rfl) KO.out ?_; rw [World.setRow_alloc_new])
          have HB2 := Lib.hid (HB1.out.alloc HB1.out.size (.cells (kindAt 4) 167))
          refine (normal_s Any1 vf vt vn vs s f x _ (HS.out.below HB2.out) hx).mono ?_
          rw [HN.out]
          rintro e w3 ⟨rfl, hb3⟩
          have HB3 := Lib.hid (HB2.out.trans (hb3.mono HB2.out.size))
          have HX3 := Lib.hid (blk_below (b := w1.heap.size) (o := .cells (kindAt 4) 167 (0, 0)) hb3 (by simp) (blk_new rfl))
          have cf : w3.cell? ⟨w1.heap.size, 3, none⟩ = some (fnV 223) := by rw [cell_of_row _ _ _ _ _ _ HX3.out]; rfl
          clear hb3 p0 p1 p2 p3
          go_wp2_with fail
          refine (ggrams_any x _ g1 HAs.out).mono ?_
          rintro e w4 ⟨v, rfl, ho⟩
          have HO := Lib.hid ho; clear ho
          go_wp2_with fail
          go_ret2
          exact ⟨v, rfl, HO.out.1, HB3.out.trans ((HO.out.2).mono HB3.out.size)⟩
  · have hne : (er != 0) = true := by simpa using he
    have HE := Lib.hid (show gramsN s f x.data.toList = ([], er) by rw [HVal.out, if_neg he])
    clear he hkk
    rw [HE.out]
    go_enter Tryz.func139, Tryz.ntmps139
    go_wp2_with fail
    refine HK.out.mono ?_
    rintro e w1 ⟨rfl, hb1⟩
    have HB1 := Lib.hid (((Below.refl w.heap.size w).alloc (Nat.le_refl _) (.cells #[vf, vt, vn, vs] 33)).trans (hb1.mono (by simp)))
    clear hb1 HK
    go_wp2_with (refine wpList_store_row rfl 167 (.tmp 8) (.tmp 14) rfl w1.heap.size (kindAt kd) rfl rfl 167 kind0 (heap_alloc_new w1 _) (by rw [KS.out]; kernel_rfl) (by rw [KS.out]; rfl) KO.out ?_; rw [World.setRow_alloc_new])
    go_ret2
    exact ⟨_, rfl, Vec.nil _ _ _ _, HB1.out.alloc HB1.out.size _⟩
end
section
open Go.RowKit
/-- a record -/
structure RecL where
  id : Int
  ver : Int
  vals : List (List UInt8)
def noRec : RecL := ⟨0, 0, []⟩
def numberedB (i v : Int) : Bool := decide (1 ≤ i) && decide (i ≤ 1048576) && decide (1 ≤ v) && decide (v ≤ 1048576)
/-- values from field i on are normal -/
def normA (s : SchemaL) : Nat → List (List UInt8) → Bool
  | _, [] => true
  | i, x :: l => normalB s i x && normA s (i + 1) l
def checkI (s : SchemaL) (r : RecL) : Int := if (numberedB r.id r.ver && (r.vals.length == s.fields.length) && normA s 0 r.vals) = true then 0 else 7
def checkN (s : SchemaL) (r : RecL) : Int := if checkS s = 0 then checkI s r else checkS s
/-- the values that are made of raw ones, from field i on, behind C; the error -/
def makeA (s : SchemaL) : Nat → List (List UInt8) → List (List UInt8) → List (List UInt8) × Int
  | _, C, [] => (C, 0)
  | i, C, x :: l => if (valueN s i x).2 = 0 then makeA s (i + 1) (C ++ [(valueN s i x).1]) l else ([], (valueN s i x).2)
def makeN (s : SchemaL) (id ver : Int) (raws : List (List UInt8)) : RecL × Int :=
  if checkS s = 0 then
    if raws.length = s.fields.length then
      if numberedB id ver = true then (if (makeA s 0 [] raws).2 = 0 then (⟨id, ver, (makeA s 0 [] raws).1⟩, 0) else (noRec, (makeA s 0 [] raws).2))
      else (noRec, 7)
    else (noRec, 8)
  else (noRec, checkS s)
theorem makeA_len (s : SchemaL) (raws : List (List UInt8)) : ∀ i C, (makeA s i C raws).2 = 0 → (makeA s i C raws).1.length = C.length + raws.length := by
  induction raws with
  | nil => intro i C _; simp [makeA]
  | cons x l ih =>
    intro i C h
    unfold makeA at h ⊢
    split at h
    · rename_i h0
      rw [if_pos h0, ih _ _ h]; simp; omega
    · rename_i h0
      exact absurd h h0
theorem normA_append (s : SchemaL) (A B : List (List UInt8)) : ∀ i, normA s i (A ++ B) = (normA s i A && normA s (i + A.length) B) := by
  induction A with
  | nil => intro i; simp [normA]
  | cons x A ih => intro i; simp only [List.cons_append, normA, ih, List.length_cons, Bool.and_assoc]; rw [show i + 1 + A.length = i + (A.length + 1) by omega]
theorem normA_get (s : SchemaL) (L : List (List UInt8)) : ∀ i, normA s i L = true → ∀ j, j < L.length → normalB s (i + j : Nat) (L.getD j []) = true := by
  induction L with
  | nil => intro i _ j hj; simp at hj
  | cons x L ih =>
    intro i h j hj
    simp only [normA, Bool.and_eq_true] at h
    cases j with
    | zero => simpa using h.1
    | succ j =>
      have := ih (i + 1) h.2 j (by simpa using hj)
      rw [show i + (j + 1) = i + 1 + j by omega]
      simpa using this
theorem normA_of (s : SchemaL) (L : List (List UInt8)) : ∀ i, (∀ j, j < L.length → normalB s (i + j : Nat) (L.getD j []) = true) → normA s i L = true := by
  induction L with
  | nil => intro i _; rfl
  | cons x L ih =>
    intro i h
    simp only [normA, Bool.and_eq_true]
    refine ⟨by simpa using h 0 (by simp), ih (i + 1) fun j hj => ?_⟩
    have := h (j + 1) (by simpa using hj)
    rw [show i + (j + 1) = i + 1 + j by omega] at this
    simpa using this
theorem makeA_norm (s : SchemaL) (raws : List (List UInt8)) : ∀ i C, (makeA s i C raws).2 = 0 → i = C.length → normA s 0 C = true → normA s 0 (makeA s i C raws).1 = true := by
  induction raws with
  | nil => intro i C _ _ h; simpa [makeA] using h
  | cons x l ih =>
    intro i C h hi hC
    unfold makeA at h ⊢
    split at h
    · rename_i h0
      rw [if_pos h0]
      refine ih _ _ h (by simp; omega) ?_
      rw [normA_append, hC, Bool.true_and, Nat.zero_add]
      obtain ⟨⟨v, e⟩, hp⟩ : ∃ p, valueN s i x = p := ⟨_, rfl⟩
      rw [hp] at h0 ⊢
      dsimp only at h0
      subst h0
      simp only [normA, Bool.and_true]
      rw [← hi]
      exact (value_normal hp).1
    · rename_i h0
      exact absurd h h0
theorem makeN_ok {s : SchemaL} {id ver : Int} {raws : List (List UInt8)} {r : RecL} (h : makeN s id ver raws = (r, 0)) :
    checkS s = 0 ∧ r.id = id ∧ r.ver = ver ∧ numberedB id ver = true ∧ r.vals.length = s.fields.length ∧ raws.length = s.fields.length ∧ normA s 0 r.vals = true ∧ r.vals = (makeA s 0 [] raws).1 ∧ (makeA s 0 [] raws).2 = 0 := by
  unfold makeN at h
  split at h
  · rename_i h1
    split at h
    · rename_i h2
      split at h
      · rename_i h3
        split at h
        · rename_i h4
          obtain rfl : RecL.mk id ver (makeA s 0 [] raws).1 = r := congrArg Prod.fst h
          exact ⟨h1, rfl, rfl, h3, by simpa [h2] using makeA_len s raws 0 [] h4, h2, makeA_norm s raws 0 [] h4 rfl rfl, rfl, h4⟩
        · rename_i h4
          exact absurd (congrArg Prod.snd h) h4
      · exact absurd (congrArg Prod.snd h) (show (7 : Int) ≠ 0 by decide)
    · exact absurd (congrArg Prod.snd h) (show (8 : Int) ≠ 0 by decide)
  · rename_i h1
    exact absurd (congrArg Prod.snd h) h1
theorem checkN_of {s : SchemaL} {r : RecL} (h0 : checkS s = 0) (h1 : numberedB r.id r.ver = true) (h2 : r.vals.length = s.fields.length) (h3 : normA s 0 r.vals = true) : checkN s r = 0 := by
  unfold checkN checkI
  rw [if_pos h0, h1, h3, h2]; simp
theorem checkN_ok {s : SchemaL} {r : RecL} (h : checkN s r = 0) : checkS s = 0 ∧ numberedB r.id r.ver = true ∧ r.vals.length = s.fields.length ∧ normA s 0 r.vals = true := by
  unfold checkN at h
  split at h
  · rename_i h0
    unfold checkI at h
    split at h
    · rename_i h1
      simp only [Bool.and_eq_true, beq_iff_eq] at h1
      exact ⟨h0, h1.1.1, h1.1.2, h1.2⟩
    · exact absurd h (by decide)
  · rename_i h0; exact absurd h h0
theorem normalB_nil {s : SchemaL} {f : Int} (h : (findN s f).2 = 0) : normalB s f [] = true := by
  unfold normalB; rw [if_pos h, if_pos rfl]
/-- a record without values is normal -/
theorem none_norm {s : SchemaL} (h : checkS s = 0) : normA s 0 (List.replicate s.fields.length []) = true := by
  refine normA_of _ _ _ fun j hj => ?_
  rw [List.length_replicate] at hj
  have e : (List.replicate s.fields.length ([] : List UInt8)).getD j [] = [] := by simp [List.getD, List.getElem?_replicate]; split <;> rfl
  rw [e]
  refine normalB_nil ?_
  rw [findN_in h (by simpa using hj)]
end
section
open Go.RowKit
/-- an array of bits -/
structure BitsL where
  len : Int
  words : List Int
def noBits : BitsL := ⟨0, []⟩
/-- the parameters of a field -/
structure ParL where
  len : Int
  hashes : Int
  salt : Int
instance : Inhabited ParL := ⟨⟨0, 0, 0⟩⟩
structure EncL where
  id : Int
  ver : Int
  fields : List BitsL
/-- a length that an array may have -/
def rightB (n : Int) : Bool := decide (64 ≤ n) && decide (n ≤ 512) && (n % 64 == 0)
def bloomOk (p : ParL) : Bool := rightB p.len && decide (1 ≤ p.hashes) && decide (p.hashes ≤ 16) && decide (-1 ≤ p.salt) && decide (p.salt < 5)
/-- n positions, from x on, each y further than the one before -/
def posN (len y : Int) : Nat → Int → List Int
  | 0, _ => []
  | n + 1, x => x :: posN len y n ((x + y) % len)
def firstP (p : ParL) (k : Int × Int) (g : List UInt8) : Int := (partsP k.1 k.2 [[49], g]) % p.len
def stepP (p : ParL) (k : Int × Int) (g : List UInt8) : Int := 1 + (partsP k.1 k.2 [[50], g]) % (p.len - 1)
def positionsN (p : ParL) (k : Int × Int) (g : List UInt8) : List Int := posN p.len (stepP p k g) p.hashes.toNat (firstP p k g)
/-- a bit more -/
def orBit (ws : List Int) (i : Int) : List Int := ws.set (i / 64).toNat (bits .or .u64 (ws.getD (i / 64).toNat 0) (IntKind.u64.wrap (2 ^ (i % 64).toNat)))
def orGram (p : ParL) (k : Int × Int) (ws : List Int) (g : List UInt8) : List Int := (positionsN p k g).foldl orBit ws
def zeroW (n : Int) : List Int := List.replicate (n / 64).toNat 0
/-- the array of grams, and the error -/
def bloomN (p : ParL) (k : Int × Int) (G : List (List UInt8)) : BitsL × Int :=
  if bloomOk p = true then (if G.length ≤ 80 then (⟨p.len, G.foldl (orGram p k) (zeroW p.len)⟩, 0) else (noBits, 1)) else (noBits, 10)
structure ParOk (p : ParL) : Prop where
  len1 : 64 ≤ p.len
  len2 : p.len ≤ 512
  len3 : p.len % 64 = 0
  h1 : 1 ≤ p.hashes
  h2 : p.hashes ≤ 16
  s1 : -1 ≤ p.salt
  s2 : p.salt < 5
theorem ParOk.right {p : ParL} (h : ParOk p) : rightB p.len = true := by
  have h1 := h.len1; have h2 := h.len2; have h3 := h.len3
  simp [rightB, h1, h2, h3]
theorem ParOk.bloom {p : ParL} (h : ParOk p) : bloomOk p = true := by
  have h0 := h.right; have h1 := h.h1; have h2 := h.h2; have h3 := h.s1; have h4 := h.s2
  simp [bloomOk, h0, h1, h2, h3, h4]
theorem orBit_len (ws : List Int) (i : Int) : (orBit ws i).length = ws.length := by simp [orBit]
theorem orBits_len (l : List Int) : ∀ ws : List Int, (l.foldl orBit ws).length = ws.length := by
  induction l with
  | nil => intro ws; rfl
  | cons x l ih => intro ws; rw [List.foldl_cons, ih, orBit_len]
theorem orGrams_len (p : ParL) (k : Int × Int) (G : List (List UInt8)) : ∀ ws : List Int, (G.foldl (orGram p k) ws).length = ws.length := by
  induction G with
  | nil => intro ws; rfl
  | cons x l ih => intro ws; rw [List.foldl_cons, ih]; exact orBits_len _ _
def fieldLabel (t : List UInt8) : List UInt8 := [102, 105, 101, 108, 100] ++ t
def saltLabel (t : List UInt8) : List UInt8 := [115, 97, 108, 116, 61] ++ t
/-- the key of a field: num is its number in decimal digits -/
def keyN (k : Int × Int) (num : List UInt8) (salted : Bool) (salt : List UInt8) : Int × Int :=
  let x := deriveP k.1 k.2 (fieldLabel num)
  bif salted then deriveP x.1 x.2 (saltLabel salt) else x
/-- the text that salts a field's key -/
def saltOf (p : ParL) (vals : List (List UInt8)) : List UInt8 := if 0 ≤ p.salt then vals.getD p.salt.toNat [] else []
/-- the array of field i -/
def fieldN (s : SchemaL) (p : ParL) (k : Int × Int) (vals : List (List UInt8)) (i : Nat) : BitsL :=
  if vals.getD i [] = [] then noBits else (bloomN p (keyN k (Lib.decDigits i) (decide (0 ≤ p.salt)) (saltOf p vals)) (gramsN s i (vals.getD i [])).1).1
theorem bigrams_two : ∀ (l : List UInt8), ∀ x ∈ bigrA l, x.length = 2
  | [], x, h => by simp [bigrA] at h
  | [a], x, h => by simp [bigrA] at h
  | a :: b :: l, x, h => by
    simp only [bigrA, List.mem_cons] at h
    rcases h with rfl | h
    · rfl
    · exact bigrams_two (b :: l) x h
theorem posL_two : ∀ (l : List UInt8) (j : Nat), ∀ x ∈ posL j l, x.length = 2
  | [], j, x, h => by simp [posL] at h
  | c :: l, j, x, h => by
    simp only [posL, List.mem_cons] at h
    rcases h with rfl | h
    · rfl
    · exact posL_two l (j + 1) x h
theorem gramsL_two (l : List UInt8) : ∀ x ∈ gramsL l, x.length = 2 := by
  intro x h
  unfold gramsL at h
  rw [set_mem] at h
  unfold gramsAll at h
  obtain ⟨t, _, ht⟩ := List.mem_flatMap.1 h
  exact bigrams_two _ _ ht
/-- the grams of a value in normal form: not too many, not too long -/
theorem grams_fit {s : SchemaL} {i : Int} {l : List UInt8} (h : normalB s i l = true) (hi : (findN s i).2 = 0) : (gramsN s i l).2 = 0 ∧ (gramsN s i l).1.length ≤ 80 ∧ (∀ g ∈ (gramsN s i l).1, g.length ≤ 100) ∧ l.length ≤ 64 := by
  unfold gramsN
  rw [if_pos hi, if_pos h]
  by_cases h0 : l = []
  · subst h0; simp [gramsK]
  · have ho : ownK (findN s i).1 s.rules l = true := by unfold normalB at h; rw [if_pos hi, if_neg h0] at h; exact h
    obtain ⟨g1, g2, g3⟩ := own_facts ho (findN_kind hi)
    refine ⟨rfl, ?_, ?_, g1⟩
    · unfold gramsK
      rw [if_neg h0]
      split
      · rw [posL_len]; omega
      · split
        · simp
        · have := grams_bound g1; show (gramsL l).length ≤ 80; omega
    · unfold gramsK
      rw [if_neg h0]
      split
      · intro g hg; rw [posL_two _ _ g hg]; omega
      · split
        · intro g hg; simp at hg; subst hg; simp; omega
        · intro g hg; rw [gramsL_two _ g hg]; omega
end
section
open Go.RowKit

theorem bits_u64_bd (op : BinOp) (x y : Int) : 0 ≤ bits op .u64 x y ∧ bits op .u64 x y < 18446744073709551616 := by
  have : ∃ e, bits op .u64 x y = IntKind.u64.wrap e := by unfold bits; exact ⟨_, rfl⟩
  obtain ⟨e, he⟩ := this
  rw [he]
  simp only [IntKind.wrap, IntKind.bits, IntKind.signed]
  simp
  omega

theorem grown_refl (w : World) (r : Option Nat) : w.grownBy w r := ⟨rfl, rfl, rfl, Nat.le_refl _, fun _ _ _ => rfl⟩
theorem grown_trans {w w1 w2 : World} {r : Option Nat} (h : w.grownBy w1 r) (h' : w1.grownBy w2 r) : w.grownBy w2 r :=
  ⟨h'.os.trans h.os, h'.tape.trans h.tape, h'.output.trans h.output, Nat.le_trans h.size h'.size, fun k hk hr => (h'.block k (Nat.lt_of_lt_of_le hk h.size) hr).trans (h.block k hk hr)⟩
theorem grown_drewN {w w1 : World} {r : Option Nat} (h : w.grownBy w1 r) (n : Nat) : w.grownBy (w1.drewN n) r := ⟨h.os, h.tape, h.output, h.size, h.block⟩
theorem grown_set {w w1 : World} {D i : Nat} {v : Value} (h : w.grownBy w1 (some D)) : w.grownBy (w1.setCell ⟨D, i, none⟩ v) (some D) :=
  grown_trans h ⟨rfl, rfl, rfl, by simp [World.setCell], fun k hk hr => heap_setCell_other _ _ _ _ (fun e => hr (by rw [e]))⟩
theorem grown_below {w w1 : World} {r : Option Nat} (h : Below w.heap.size w w1) : w.grownBy w1 r := ⟨h.os, h.tape, h.output, h.size, fun k hk _ => h.block k hk⟩
theorem grown_blk {w w1 : World} {D k : Nat} {o : Obj} (h : w.grownBy w1 (some D)) (ho : w.heap[k]? = some o) (hk : k ≠ D) : w1.heap[k]? = some o := by
  have hlt : k < w.heap.size := by
    rcases Nat.lt_or_ge k w.heap.size with h' | h'
    · exact h'
    · simp [Array.getElem?_eq_none h'] at ho
  rw [h.block k hlt (by simpa using hk)]; exact ho

/-- a slice of ints that can be read, in a block below D -/
def ListAt (w : World) (D : Nat) (s : Value) (n : Nat) : Prop :=
  ∃ a cap, s = .slice a n cap ∧ n ≤ 400 ∧ (0 < n → ∃ b off, a = some ⟨b, off, none⟩ ∧ b < D ∧ ∀ i, i < n → ∃ x : Int, w.cell? ⟨b, off + i, none⟩ = some (.int .i64 x))
theorem ListAt.same {w w1 : World} {D n : Nat} {s : Value} (h : ListAt w D s n) (hg : ∀ k, k < D → w1.heap[k]? = w.heap[k]?) : ListAt w1 D s n := by
  obtain ⟨a, cap, h1, h2, h3⟩ := h
  refine ⟨a, cap, h1, h2, fun hn => ?_⟩
  obtain ⟨b, off, h4, h5, h7⟩ := h3 hn
  refine ⟨b, off, h4, h5, fun i hi => ?_⟩
  obtain ⟨x, hx⟩ := h7 i hi
  exact ⟨x, (World.cell?_of_block (w := w) (a := ⟨b, off + i, none⟩) (hg b h5)).trans hx⟩
/-- a deck lies in block D -/
def DeckAt (w : World) (D : Nat) : Prop :=
  ∃ (s : Value) (n : Nat) (t st : Int), w.heap[D]? = some (.cells #[s, .int .i64 t, .int .u64 st] 87 (0, 0)) ∧ ListAt w D s n ∧ 0 ≤ t ∧ t ≤ n
theorem DeckAt.lt {w : World} {D : Nat} (h : DeckAt w D) : D < w.heap.size := by
  obtain ⟨s, n, t, st, h, _⟩ := h
  exact (Array.getElem?_eq_some_iff.1 h).1
theorem DeckAt.same {w w1 : World} {D : Nat} (h : DeckAt w D) (hg : ∀ k, k ≤ D → w1.heap[k]? = w.heap[k]?) : DeckAt w1 D := by
  obtain ⟨s, n, t, st, h1, h2, h3⟩ := h
  exact ⟨s, n, t, st, (hg D (Nat.le_refl _)).trans h1, h2.same fun k hk => hg k (Nat.le_of_lt hk), h3⟩
/-- a deck is as it was behind whatever leaves all that was there as it was -/
theorem DeckAt.below {w w1 : World} {D : Nat} (h : DeckAt w D) (hb : Below w.heap.size w w1) : DeckAt w1 D := by
  have hlt := h.lt
  exact h.same fun k hk => hb.block k (by omega)
/-- w' is w, but for the deck in block D, which has moved on, and for new blocks -/
structure Moved (D : Nat) (w w' : World) : Prop where
  grown : w.grownBy w' (some D)
  deck : DeckAt w' D
  lt : D < w.heap.size
theorem Moved.start {D : Nat} {w : World} (h : DeckAt w D) : Moved D w w := ⟨grown_refl _ _, h, h.lt⟩
theorem Moved.trans {D : Nat} {w w1 w2 : World} (h : Moved D w w1) (h' : Moved D w1 w2) : Moved D w w2 := ⟨grown_trans h.grown h'.grown, h'.deck, h.lt⟩
theorem Moved.below {D : Nat} {w w1 w2 : World} (h : Moved D w w1) (hb : Below w1.heap.size w1 w2) : Moved D w w2 := ⟨grown_trans h.grown (grown_below hb), h.deck.below hb, h.lt⟩
theorem Moved.alloc {D : Nat} {w w1 : World} (h : Moved D w w1) (o : Obj) : Moved D w (w1.alloc o) := h.below ((Below.refl _ _).alloc (Nat.le_refl _) _)
theorem Moved.drew {D : Nat} {w w1 : World} (h : Moved D w w1) : Moved D w w1.drew := h.below (Below.refl _ _).drew
theorem Moved.drewN {D : Nat} {w w1 : World} (h : Moved D w w1) (n : Nat) : Moved D w (w1.drewN n) := h.below (below_drewN (Below.refl _ _) n)
theorem Moved.set {D : Nat} {w w1 : World} (h : Moved D w w1) {a : Addr} (ha : w.heap.size ≤ a.block) (v : Value) : Moved D w (w1.setCell a v) := by
  have := h.lt
  refine ⟨⟨h.grown.os, h.grown.tape, h.grown.output, by simpa [World.setCell] using h.grown.size, fun k hk hr => ?_⟩, h.deck.same fun k hk => heap_setCell_other _ _ _ _ (by omega), this⟩
  rw [heap_setCell_other _ _ _ _ (by omega)]; exact h.grown.block k hk hr
theorem Moved.blk {D k : Nat} {w w1 : World} {o : Obj} (h : Moved D w w1) (hk : k ≠ D) (ho : w.heap[k]? = some o) : w1.heap[k]? = some o := grown_blk h.grown ho hk
theorem Moved.size {D : Nat} {w w1 : World} (h : Moved D w w1) : w.heap.size ≤ w1.heap.size := h.grown.size
/-- as seen from before the deck was made -/
theorem Moved.base {D B : Nat} {w0 w w1 : World} (h : Moved D w w1) (hb : Below B w0 w) (hB : B ≤ D) : Below B w0 w1 :=
  hb.trans ⟨h.grown.os, h.grown.tape, h.grown.output, h.grown.size, fun k hk => h.grown.block k (by have := h.lt; omega) (by simp; omega)⟩
def WordPost (D : Nat) (w : World) (e : Ending) (w' : World) : Prop :=
  ∃ r : Int, e = .returned (.int .u64 r) ∧ 0 ≤ r ∧ r < 18446744073709551616 ∧ Moved D w w'
theorem word_done {D n : Nat} {w w' : World} {s : Value} {r t st : Int} (hL : ListAt w D s n) (hg : w.grownBy w' (some D)) (hD : w'.heap[D]? = some (.cells #[s, .int .i64 t, .int .u64 st] 87 (0, 0)))
    (hlt : D < w.heap.size) (h0 : 0 ≤ t) (h1 : t ≤ n) (hr : 0 ≤ r ∧ r < 18446744073709551616) : WordPost D w (.returned (.int .u64 r)) w' :=
  ⟨r, rfl, hr.1, hr.2, hg, ⟨s, n, t, st, hD, hL.same fun k hk => hg.block k (by omega) (by simp; omega), h0, h1⟩, hlt⟩
set_option maxHeartbeats 400000 in
theorem word_more (D : Nat) (w : World) (b off n cap : Nat) (t st x : Int) (hD : w.heap[D]? = some (.cells #[.slice (some ⟨b, off, none⟩) n cap, .int .i64 t, .int .u64 st] 87 (0, 0)))
    (hL : ListAt w D (.slice (some ⟨b, off, none⟩) n cap) n) (hn : n ≤ 400) (h0 : 0 ≤ t) (h1 : t < n) (hb : b < D) (hx : w.cell? ⟨b, off + t.toNat, none⟩ = some (.int .i64 x)) :
    Calls Tryz.prog 49 #[.pointer (some ⟨D, 0, none⟩)] w (WordPost D w) := by
  obtain ⟨p0, p1, p2⟩ := cells3 hD
  obtain ⟨f0, f1, f2⟩ := free3 hD
  obtain ⟨t, rfl⟩ := Int.eq_ofNat_of_zero_le h0
  rw [Int.toNat_natCast] at hx
  have hlt := lt_of_blk hD
  have HD := Lib.hid hD; clear hD
  go_enter Tryz.func49, Tryz.ntmps49
  go_wp2
  go_quiet (fail)
  go_wp2
  go_quiet (fail)
  go_wp2
  go_quiet (fail)
  go_wp2
  go_ret
  exact word_done hL (grown_drewN (grown_set (grown_set (grown_drewN (grown_refl w _) _))) _) (blk_set (blk_set HD.out)) hlt (by omega) (by omega) (bits_u64_bd _ _ _)
set_option maxHeartbeats 400000 in
theorem word_end (D : Nat) (w : World) (a : Option Addr) (n cap : Nat) (t st : Int) (hD : w.heap[D]? = some (.cells #[.slice a n cap, .int .i64 t, .int .u64 st] 87 (0, 0)))
    (hL : ListAt w D (.slice a n cap) n) (hn : n ≤ 400) (h0 : 0 ≤ t) (h1 : t = n) :
    Calls Tryz.prog 49 #[.pointer (some ⟨D, 0, none⟩)] w (WordPost D w) := by
  subst h1
  obtain ⟨p0, p1, p2⟩ := cells3 hD
  obtain ⟨f0, f1, f2⟩ := free3 hD
  have hlt := lt_of_blk hD
  have HD := Lib.hid hD; clear hD
  go_enter Tryz.func49, Tryz.ntmps49
  go_wp2
  go_quiet (fail)
  go_wp2
  go_quiet (fail)
  go_wp2
  go_ret
  exact word_done hL (grown_drewN (grown_set (grown_drewN (grown_refl w _) _)) _) (blk_set HD.out) hlt (by omega) (by omega) (bits_u64_bd _ _ _)
theorem word_any (D : Nat) (w : World) (h : DeckAt w D) :
    Calls Tryz.prog 49 #[.pointer (some ⟨D, 0, none⟩)] w (WordPost D w) := by
  obtain ⟨s, n, t, st, hD, hL, h0, h1⟩ := h
  have hL' := hL
  obtain ⟨a, cap, rfl, hn, h2⟩ := hL
  by_cases ht : t = n
  · exact word_end D w a n cap t st hD hL' hn h0 ht
  · have ht' : t < n := by clear h2 hL'; omega
    obtain ⟨b, off, rfl, hb, hc⟩ := h2 (by clear h2 hL'; omega)
    obtain ⟨x, hx⟩ := hc t.toNat (by clear hc h2 hL'; omega)
    exact word_more D w b off n cap t st x hD hL' hn h0 ht' hb hx

theorem next_val {r k : Int} (h0 : 0 ≤ r) (h1 : r < 18446744073709551616) (hk : 1 ≤ k) : 0 ≤ (wrap64 (r / 2)).tmod k ∧ (wrap64 (r / 2)).tmod k < k := by
  have e : wrap64 (r / 2) = r / 2 := IntWalk.wrap64_in (r / 2) (by constructor <;> omega)
  have h2 : 0 ≤ r / 2 := by omega
  rw [e, Int.tmod_eq_emod_of_nonneg h2]
  exact ⟨Int.emod_nonneg _ (by omega), Int.emod_lt_of_pos _ (by omega)⟩
def NextPost (D : Nat) (w : World) (k : Int) (e : Ending) (w' : World) : Prop :=
  ∃ r : Int, e = .returned (.int .i64 r) ∧ 0 ≤ r ∧ r < k ∧ Moved D w w'
set_option maxHeartbeats 400000 in
theorem next_any (D : Nat) (w : World) (k : Int) (h : DeckAt w D) (hk : 1 ≤ k) (hk2 : k ≤ 1000000000) :
    Calls Tryz.prog 16 #[.pointer (some ⟨D, 0, none⟩), .int .i64 k] w (NextPost D w k) := by
  go_enter Tryz.func16, Tryz.ntmps16
  go_wp2_with fail
  refine (word_any D _ h).mono ?_
  rintro e w1 ⟨r, rfl, h0, h1, h2⟩
  have H1 := Lib.hid h1; clear h1
  have H2 := Lib.hid h2; clear h2
  go_wp2_with fail
  go_ret
  have hv := next_val h0 H1.out hk
  exact ⟨_, rfl, hv.1, hv.2, H2.out⟩
set_option maxHeartbeats 400000 in
theorem few_any (a : Option Addr) (n cap : Nat) (w : World) :
    Calls Tryz.prog 9 #[.slice a n cap] w fun e w' => e = .returned (.bool (decide (n ≤ 400))) ∧ w = w' := by
  go_enter Tryz.func9, Tryz.ntmps9
  go_wp2
  go_ret
  exact ⟨ret_bool (by simp; omega), rfl⟩
set_option maxHeartbeats 400000 in
theorem new_any (a : Option Addr) (n cap : Nat) (w : World) :
    Calls Tryz.prog 10 #[.slice a n cap] w fun e w' => e = .returned (.pointer (some ⟨w.heap.size, 0, none⟩)) ∧ w.alloc (.cells #[.slice a n cap, .int .i64 0, .int .u64 11400714819323198485] 87) = w' := by
  go_enter Tryz.func10, Tryz.ntmps10
  go_wp2
  go_ret
  exact ⟨rfl, rfl⟩
/-- a list that can be read, and no more than 400 numbers, makes a deck -/
theorem deck_new {w : World} {a : Option Addr} {n cap : Nat} (hn : n ≤ 400) (h : 0 < n → ∃ b off, a = some ⟨b, off, none⟩ ∧ b < w.heap.size ∧ ∀ i, i < n → ∃ x : Int, w.cell? ⟨b, off + i, none⟩ = some (.int .i64 x)) :
    DeckAt (w.alloc (.cells #[.slice a n cap, .int .i64 0, .int .u64 11400714819323198485] 87)) w.heap.size := by
  refine ⟨_, n, 0, _, blk_new rfl, ⟨a, cap, rfl, hn, fun h0 => ?_⟩, by omega, by omega⟩
  obtain ⟨b, off, h1, h2, h3⟩ := h h0
  refine ⟨b, off, h1, h2, fun i hi => ?_⟩
  obtain ⟨x, hx⟩ := h3 i hi
  exact ⟨x, (World.cell?_of_block (w := w) (a := ⟨b, off + i, none⟩) (((Below.refl _ _).alloc (Nat.le_refl _) _).block b h2)).trans hx⟩
end
end Go.Proofs.YtoeplomdcannlaaGreatDoor
