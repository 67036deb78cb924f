/- Parts of one proof: MakeZ, BlkA, PhonA, SchF, SchL, SchM, SchG, SchH, SchN, GramC, GramB, GramD, RecPlain, EncPlain, BitsA, BloomA, SchJ, BloomB, PhonB, BlkB, CmpPlain, BitsB, BlkC, BlkD, BloomC, Shelf2, EncA, EncB, EncC, BlkE. -/
import Derived.Test.YtaoebplnbcimlaaGreatDoorPartBe3
import Derived.Sort.KeysCollected
import Derived.Sort.Walk0
import Derived.Shelf.SlIter.Nil
import Derived.Shelf.SortM.Plain
import Derived.Shelf.SortM.SortNone
import Derived.Ground.GgzProg
import Derived.Ground.SlgmProg
import Derived.Maps.OwnSet
import Derived.StringKeys
import Derived.Lib.ItoaNum
set_option linter.unusedSimpArgs false
set_option linter.unusedVariables false
namespace Go.Proofs.YtaoebplnbcimlaaGreatDoor
section
set_option maxRecDepth 100000
open Go.RowKit
attribute [local go_sem] toList_mk mk_size str_append
theorem infoF : (Tryz.prog.info? 91).map (fun i => (i.zero, i.size, i.bytes)) = some (some (.agg #[.string ⟨#[]⟩, .int .i64 0]), 2, 24) := by kernel_rfl
/-- a schema that is dealt -/
structure SchemaD (s : SchemaL) : Prop where
  fields : FieldsD s.fields
  some : 1 ≤ s.fields.length
  rules : RulesD s.rules
theorem SchemaD.check {s : SchemaL} (h : SchemaD s) : checkS s = 0 := h.fields.check h.some h.rules.check
def nil4 : Array Value := #[.slice none 0 0, .slice none 0 0, .slice none 0 0, .slice none 0 0]
/-- while a schema is dealt: the result's block, the schema's, the names', the row of the fields -/
structure SMid (D : Nat) (w : World) (y : Nat) (vt vn vs : Value) (r : RulesL) (vf : Value) (F : List F2) (wr : World) : Prop where
  z : wr.heap[w.heap.size]? = some (.cells nil4 43 (0, 0))
  s : wr.heap[y]? = some (.cells #[vf, vt, vn, vs] 43 (0, 0))
  n : RowB wr (y + 1) namesD
  own : wr.ownsRow (y + 2) 91 2 vf F.length (F.flatMap encF)
  rules : RulesAt wr (fun b => w.heap.size < b ∧ b < y) vt vn vs r
  fields : FieldsD F
  moved : Moved D w wr
  lt : w.heap.size < y
theorem own_same {w w' : World} {B e size n : Nat} {v : Value} {xs : List Value} (h : w.ownsRow B e size v n xs) (hs : ∀ g, B ≤ g → g < w.heap.size → w'.heap[g]? = w.heap[g]?) : w'.ownsRow B e size v n xs := by
  refine ⟨h.1, ?_⟩
  rcases h.2 with h0 | ⟨g, cap, cur, hv, hg, hh, rest⟩
  · exact .inl h0
  · exact .inr ⟨g, cap, cur, hv, hg, (hs g hg (lt_of_blk hh)).trans hh, rest⟩
theorem own_slice {w : World} {B e size n : Nat} {v : Value} {xs : List Value} (h : w.ownsRow B e size v n xs) : ∃ a c, v = .slice a n c := by
  rcases h.2 with ⟨rfl, rfl⟩ | ⟨g, cap, cur, hv, _⟩
  · exact ⟨none, 0, rfl⟩
  · exact ⟨_, _, hv⟩
theorem own_far {w : World} {B e size n : Nat} {v : Value} {xs : List Value} (h : w.ownsRow B e size v n xs) {k : Nat} (hk : k < B) : some k ≠ v.ownBlock := by
  rcases h.2 with ⟨rfl, rfl⟩ | ⟨g, cap, cur, rfl, hg, _⟩
  · simp [Value.ownBlock]
  · simp [Value.ownBlock]; omega
theorem SMid.gone {D : Nat} {w : World} {y : Nat} {vt vn vs : Value} {r : RulesL} {vf : Value} {F : List F2} {wr wd : World} (h : SMid D w y vt vn vs r vf F wr) (hD : D < w.heap.size) (m : Moved D wr wd) : SMid D w y vt vn vs r vf F wd := by
  have hy := h.lt
  have hb : ∀ b, b < wr.heap.size → w.heap.size ≤ b → wd.heap[b]? = wr.heap[b]? := fun b hb hS => m.grown.block b hb (by simp; omega)
  refine ⟨m.blk (by omega) h.z, m.blk (by omega) h.s, m.blk (by omega) h.n, own_same h.own fun g h1 h2 => hb g h2 (by omega), ?_, h.fields, h.moved.trans m, h.lt⟩
  exact ⟨h.rules.1.move m.size fun b hb' hS => ⟨hb b hb' (by have := hS.1; omega), hS⟩, h.rules.2.1.move m.size fun b hb' hS => ⟨hb b hb' (by have := hS.1; omega), hS⟩, h.rules.2.2.move m.size fun b hb' hS => ⟨hb b hb' (by have := hS.1; omega), hS⟩⟩
theorem SMid.step {D : Nat} {w : World} {y : Nat} {vt vn vs : Value} {r : RulesL} {vf v : Value} {F : List F2} {x : F2} {wr wA w2 : World} (h : SMid D w y vt vn vs r vf F wr) (hD : D < w.heap.size) (hb : Below wr.heap.size wr wA) (hg : wA.grownBy w2 vf.ownBlock)
    (hown : w2.ownsRow (y + 2) 91 2 v (F.length + 1) (F.flatMap encF ++ encF x)) (hx : FieldsD (F ++ [x])) : SMid D w y vt vn vs r v (F ++ [x]) (w2.setCell ⟨y, 0, none⟩ v) := by
  have hy := h.lt
  have zn : y + 1 < wr.heap.size := lt_of_blk h.n
  have hz := hb.size; have hz2 := hg.size
  have k1 : ∀ k, k < y + 2 → w2.heap[k]? = wr.heap[k]? := fun k hk => (hg.block k (by omega) (own_far h.own hk)).trans (hb.block k (by omega))
  have k2 : ∀ k, k < y + 2 → k ≠ y → (w2.setCell ⟨y, 0, none⟩ v).heap[k]? = wr.heap[k]? := fun k hk hne => (heap_setCell_other _ _ _ _ hne).trans (k1 k hk)
  have hs : (w2.setCell ⟨y, 0, none⟩ v).heap.size = w2.heap.size := by simp [World.setCell]
  refine ⟨(k2 _ (by omega) (by omega)).trans h.z, blk_set (i := 0) (v := v) ((k1 y (by omega)).trans h.s), (k2 _ (by omega) (by omega)).trans h.n, ?_, ?_, hx, ?_, hy⟩
  · rw [List.length_append, List.flatMap_append, show [x].flatMap encF = encF x by simp]
    exact own_same hown fun g h1 h2 => heap_setCell_other _ _ _ _ (by simp; omega)
  · have mv : ∀ b, b < wr.heap.size → (w.heap.size < b ∧ b < y) → (w2.setCell ⟨y, 0, none⟩ v).heap[b]? = wr.heap[b]? ∧ (w.heap.size < b ∧ b < y) := fun b _ hS => ⟨k2 b (by omega) (by omega), hS⟩
    exact ⟨h.rules.1.move (by omega) mv, h.rules.2.1.move (by omega) mv, h.rules.2.2.move (by omega) mv⟩
  · have m := h.moved
    refine ⟨⟨hg.os.trans (hb.os.trans m.grown.os), hg.tape.trans (hb.tape.trans m.grown.tape), hg.output.trans (hb.output.trans m.grown.output), by have := m.size; omega, fun k hk hr => ?_⟩, m.deck.same fun k hk => k2 k (by omega) (by omega), m.lt⟩
    exact (k2 k (by omega) (by omega)).trans (m.grown.block k hk hr)
def SchemaPost (D : Nat) (w : World) (e : Ending) (w' : World) : Prop := ∃ vf vt vn vs s, e = .returned (.agg #[vf, vt, vn, vs]) ∧ SchemaAt w' (fun b => w.heap.size ≤ b) vf vt vn vs s ∧ SchemaD s ∧ Moved D w w'
end
section
set_option maxRecDepth 100000
open Go.RowKit
attribute [local go_sem] toList_mk mk_size
set_option maxHeartbeats 1000000 in
theorem begin_any (l : List UInt8) (n : Nat) (w : World) (hl : l.length ≤ 1000000) (hn : n ≤ 1000000) :
    Calls Tryz.prog 188 #[strV l, .int .i64 n] w fun e w' => e = .returned (strV (l.take n)) ∧ w = w' := by
  by_cases h : n ≤ l.length
  · have hm : min (n : Int) (l.length : Int) = (n : Int) := by omega
    have hx := extract_take l n
    go_enter Tryz.func188, Tryz.ntmps188
    go_wp2_with fail
    go_ret
    exact ⟨rfl, rfl⟩
  · have hm : min (n : Int) (l.length : Int) = (l.length : Int) := by omega
    have hx := extract_take l l.length
    rw [List.take_length] at hx
    rw [List.take_of_length_le (by omega)]
    go_enter Tryz.func188, Tryz.ntmps188
    go_wp2_with fail
    go_ret
    exact ⟨rfl, rfl⟩
theorem t1_any (l : List UInt8) (w : World) : Calls Tryz.prog 185 #[strV l] w fun e w' => e = .returned (strV l) ∧ w = w' := by
  go_enter Tryz.func185, Tryz.ntmps185
  go_wp2_with fail
  go_ret
  exact ⟨rfl, rfl⟩
theorem t2_any (l : List UInt8) (w : World) (hl : l.length ≤ 1000000) : Calls Tryz.prog 187 #[strV l] w fun e w' => e = .returned (strV (l.take 1)) ∧ w = w' := by
  go_enter Tryz.func187, Tryz.ntmps187
  go_wp2_with fail
  refine (begin_any l 1 _ hl (by decide)).mono ?_
  rintro e w1 ⟨rfl, rfl⟩
  go_wp2_with fail
  go_ret
  exact ⟨rfl, rfl⟩
theorem t3_any (l : List UInt8) (w : World) (hl : l.length ≤ 1000000) : Calls Tryz.prog 189 #[strV l] w fun e w' => e = .returned (strV (l.take 4)) ∧ w = w' := by
  go_enter Tryz.func189, Tryz.ntmps189
  go_wp2_with fail
  refine (begin_any l 4 _ hl (by decide)).mono ?_
  rintro e w1 ⟨rfl, rfl⟩
  go_wp2_with fail
  go_ret
  exact ⟨rfl, rfl⟩
/-- the first token that is a number -/
def numL (l : List UInt8) : List UInt8 := ((toks l).filter numB).headD []
set_option maxHeartbeats 1000000 in
theorem anum_any (l : List UInt8) (w : World) (h : ascii l) (hl : l.length ≤ 1000) : Calls Tryz.prog 190 #[strV l] w fun e w' => e = .returned (strV (numL l)) ∧ Below w.heap.size w w' := by
  have hc : (toks l).length ≤ 1000000 := by have := (toksA_len l []).2.1; unfold toks; omega
  obtain ⟨T, hT⟩ : ∃ T, toks l = T := ⟨_, rfl⟩
  have hnl : numL l = (T.filter numB).headD [] := by rw [← hT]; rfl
  have htk := tokens_any l
  rw [hT] at hc htk
  rw [hnl]
  obtain ⟨res, hres⟩ : ∃ res, (T.filter numB).headD [] = res := ⟨_, rfl⟩
  rw [hres]
  have HFin := Lib.hid (show ∀ y, (T.filter numB).headD [] = y → Ending.returned (strV y) = .returned (strV res) from fun y hy => by rw [← hy, hres])
  clear hres
  have HTk := Lib.hid htk
  clear hnl hT htk
  go_enter Tryz.func190, Tryz.ntmps190
  go_wp2_with fail
  refine (HTk.out _ h (by omega)).mono ?_
  rintro e w1 ⟨A, rfl, hA, ho, hb⟩
  have HV := Lib.hid (Vec.owns (k := 1) (enc := encS) (S := Any1) (fun _ => rfl) ho (fun _ _ _ => trivial))
  have HB := Lib.hid hb
  clear ho hb
  go_wp2_with fail
  refine (part_any Any1 _ T _ HV.out hc).mono ?_
  rintro e w2 ⟨u, v, rfl, h2⟩
  obtain ⟨au, cu, rfl⟩ := own_slice h2.1
  obtain ⟨av, cv, rfl⟩ := own_slice h2.2.1
  have HU := Lib.hid (Vec.owns (k := 1) (enc := encS) (S := Any1) (fun _ => rfl) h2.1 (fun _ _ _ => trivial))
  have HB2 := Lib.hid (HB.out.trans (h2.2.2.2.mono HB.out.size))
  clear h2
  obtain ⟨F, hF⟩ : ∃ F, T.filter numB = F := ⟨_, rfl⟩
  rw [hF] at HU HFin ⊢
  clear hF
  cases F with
  | nil =>
    go_wp2_with fail
    go_ret
    exact ⟨HFin.out [] rfl, HB2.out⟩
  | cons x F =>
    have d0 : (((x :: F).length : Int) == 0) = false := by simp; omega
    obtain ⟨b, off, rfl, lb, hc0⟩ := HU.out.get 0 (by simp)
    have c0 := hc0 0 _ rfl
    rw [Nat.zero_mul, Nat.add_zero] at c0
    have c0 : w2.cell? ⟨b, off, none⟩ = some (strV x) := c0
    have hl0 : (0 : Int) < ((x :: F).length : Int) := by simp
    go_wp2_with fail
    go_ret
    exact ⟨HFin.out x rfl, HB2.out⟩
end
section
set_option maxRecDepth 100000
open Go.RowKit
attribute [local go_sem] toList_mk mk_size
/-- the digits of the letters -/
def digL : List UInt8 := [32, 49, 50, 51, 32, 49, 50, 45, 32, 50, 50, 52, 53, 53, 32, 49, 50, 54, 50, 51, 32, 49, 45, 50, 32, 50]
def codeB (c : UInt8) : UInt8 := digL.getD (c.toNat - 97) 32
theorem dig_get (n : Nat) (h : n < digL.length) (h' : n < (⟨digL.toArray⟩ : ByteArray).size) : (⟨digL.toArray⟩ : ByteArray)[n]'h' = digL.getD n 32 := by
  rw [List.getD, List.getElem?_eq_getElem h]
  rfl
theorem low_range {c : UInt8} (h : isLow c = true) : 97 ≤ c.toNat ∧ c.toNat ≤ 122 := by
  have : ∀ k : Fin 256, isLow (UInt8.ofNat k.val) = true → 97 ≤ k.val ∧ k.val ≤ 122 := by decide +kernel
  have h2 := this ⟨c.toNat, c.toNat_lt⟩ (by simpa using h)
  exact h2
set_option maxHeartbeats 1000000 in
theorem pcode_any (c : UInt8) (w : World) (h : isLow c = true) : Calls Tryz.prog 259 #[byteV c] w fun e w' => e = .returned (byteV (codeB c)) ∧ w = w' := by
  obtain ⟨h1, h2⟩ := low_range h
  obtain ⟨n, hn⟩ : ∃ n, c.toNat - 97 = n := ⟨_, rfl⟩
  have hc : (c.toNat : Int) = 97 + (n : Int) := by omega
  have hn26 : n < 26 := by omega
  have hco : codeB c = digL.getD n 32 := by unfold codeB; rw [hn]
  unfold byteV
  rw [hc, hco]
  have hsub : (97 : Int) + (n : Int) - 97 = (n : Int) := by omega
  have hlen : n < digL.length := hn26
  clear h h1 h2 hn hc hco
  go_enter Tryz.func259, Tryz.ntmps259
  go_wp2_with fail
  go_ret
  refine ⟨?_, rfl⟩
  rw [← dig_get n hlen (by simpa [ByteArray.size, digL] using hn26)]
  rfl
def rightT (t : List UInt8) : Bool := !t.isEmpty && decide (t.length ≤ 64) && decide (lettersL t = t)
set_option maxHeartbeats 2000000 in
theorem rightT_any (t : List UInt8) (w : World) (hl : t.length ≤ 1000000) : Calls Tryz.prog 258 #[strV t] w fun e w' => e = .returned (.bool (rightT t)) ∧ Below w.heap.size w w' := by
  obtain ⟨r, hr⟩ : ∃ r, rightT t = r := ⟨_, rfl⟩
  rw [hr]
  unfold rightT at hr
  cases he : t.isEmpty
  · by_cases h64 : t.length ≤ 64
    · have d1 : decide ((t.length : Int) ≤ 64) = true := by simp; omega
      have hr2 : decide (lettersL t = t) = r := by rw [← hr, he]; simp [h64]
      have HR := Lib.hid (show Ending.returned (.bool (lettersL t == t)) = .returned (.bool r) by rw [← hr2]; by_cases h : lettersL t = t <;> simp [h])
      clear hr hr2
      have hlt := Lib.hid (fun w => letters_any ⟨t.toArray⟩ w (by simpa [ByteArray.size] using hl))
      go_enter Tryz.func258, Tryz.ntmps258
      go_wp2_with fail
      refine (hlt.out _).mono ?_
      rintro e w1 ⟨rfl, hb⟩
      go_wp2_with fail
      go_ret
      exact ⟨HR.out, hb⟩
    · have d1 : decide ((t.length : Int) ≤ 64) = false := by simp; omega
      have hr2 : false = r := by rw [← hr, he]; simp [h64]
      subst hr2
      clear hr
      go_enter Tryz.func258, Tryz.ntmps258
      go_wp2_with fail
      go_ret
      exact ⟨rfl, Below.refl _ _⟩
  · have hr2 : false = r := by rw [← hr, he]; rfl
    subst hr2
    clear hr
    go_enter Tryz.func258, Tryz.ntmps258
    go_wp2_with fail
    go_ret
    exact ⟨rfl, Below.refl _ _⟩
end
section
set_option maxRecDepth 100000
open Go.RowKit Cal
attribute [local go_sem] toList_mk mk_size
set_option maxHeartbeats 4000000 in
theorem normal_s (S : Nat → Prop) (vf vt vn vs : Value) (s : SchemaL) (f : Int) (x : ByteArray) (w : World) (h : SchemaAt w S vf vt vn vs s) (hx : x.size ≤ 9223372036854775000) :
    Calls Tryz.prog 167 #[.agg #[vf, vt, vn, vs], .int .i64 f, .string x] w fun e w' => e = .returned (.bool (normalB s f x.data.toList)) ∧ Below w.heap.size w w' := by
  have HS := Lib.hid h.any
  have HL := Lib.hid (Lib.toList_data x)
  have hfin : ∀ p, normalB s f x.data.toList = p → Ending.returned (.bool p) = .returned (.bool (normalB s f x.data.toList)) := fun p h => by rw [h]
  have HF := Lib.hid hfin
  clear h hfin
  have K := find_s Any1 vf vt vn vs s f (w.alloc (.cells #[vf, vt, vn, vs] 43)) (HS.out.below ((Below.refl _ _).alloc (Nat.le_refl _) _))
  have hkk := findN_kind (s := s) (f := f)
  have hval : normalB s f x.data.toList = if (findN s f).2 = 0 then (if x.data.toList = [] then true else ownK (findN s f).1 s.rules x.data.toList) else false := rfl
  obtain ⟨⟨kd, er⟩, hp⟩ : ∃ p, findN s f = p := ⟨_, rfl⟩
  rw [hp] at K hkk hval
  dsimp only at hkk hval
  change Calls _ _ _ _ fun e w' => e = .returned (.tuple #[.agg (kindAt kd), .int .i64 er]) ∧ _ at K
  have HK := Lib.hid K
  have HVal := Lib.hid hval
  obtain ⟨ko, ks⟩ := kindAt_one kd
  have KO := Lib.hid ko; have KS := Lib.hid ks
  clear K hp hval ko ks
  by_cases he : er = 0
  · subst he
    have hkd := hkk rfl
    clear hkk
    by_cases hx0 : x.data.toList = []
    · have e1 : x.toList = [] := by rw [HL.out, hx0]
      have HE := Lib.hid (show normalB s f x.data.toList = true by rw [HVal.out, if_pos rfl, if_pos hx0])
      clear hx0 hkd
      go_enter Tryz.func167, Tryz.ntmps167
      go_wp2_with fail
      refine HK.out.mono ?_
      rintro e w1 ⟨rfl, hb1⟩
      have HB1 := Lib.hid (((Below.refl w.heap.size w).alloc (Nat.le_refl _) (.cells #[vf, vt, vn, vs] 43)).trans (hb1.mono (by simp)))
      have HX1 := Lib.hid (blk_below (b := w.heap.size) (o := .cells #[vf, vt, vn, vs] 43 (0, 0)) hb1 (by simp) (blk_new rfl))
      clear hb1 HK
      go_wp2_with (refine wpList_store_row rfl 229 (.tmp 7) (.tmp 13) rfl w1.heap.size (kindAt kd) rfl rfl 229 kind0 (heap_alloc_new w1 _) (by rw [KS.out]; kernel_rfl) (by rw [KS.out]; rfl) KO.out ?_; rw [World.setRow_alloc_new])
      go_ret
      exact ⟨HF.out _ HE.out, HB1.out.alloc HB1.out.size _⟩
    · have e1 : (x.toList == []) = false := by rw [HL.out]; simpa using hx0
      have e2 : x.toList.isEmpty = false := by rw [HL.out]; simpa using hx0
      have HE := Lib.hid (show normalB s f x.data.toList = ownK kd s.rules x.data.toList by rw [HVal.out, if_pos rfl, if_neg hx0])
      clear hx0
      rcases hkd with rfl | rfl | rfl | rfl
      · have HE2 := Lib.hid (show normalB s f x.data.toList = isOwn (nameN s.rules x.data.toList) x.data.toList from HE.out)
        go_enter Tryz.func167, Tryz.ntmps167
        go_wp2_with fail
        refine HK.out.mono ?_
        rintro e w1 ⟨rfl, hb1⟩
        have HB1 := Lib.hid (((Below.refl w.heap.size w).alloc (Nat.le_refl _) (.cells #[vf, vt, vn, vs] 43)).trans (hb1.mono (by simp)))
        have HX1 := Lib.hid (blk_below (b := w.heap.size) (o := .cells #[vf, vt, vn, vs] 43 (0, 0)) hb1 (by simp) (blk_new rfl))
        clear hb1 HK
        have cf : (w1.alloc (.cells (kindAt 1) 229)).cell? ⟨w1.heap.size, 2, none⟩ = some (fnV 274) := by rw [cell_of_row _ _ _ _ _ _ (heap_alloc_new w1 _)]; rfl
        have z0 := lt_of_blk HX1.out
        obtain ⟨p0, p1, p2, p3⟩ := cells4 HX1.out
        go_wp2_with (refine wpList_store_row rfl 229 (.tmp 7) (.tmp 13) rfl w1.heap.size (kindAt 1) rfl rfl 229 kind0 (heap_alloc_new w1 _) (by rw [KS.out]; kernel_rfl) (by rw [KS.out]; rfl) KO.out ?_; rw [World.setRow_alloc_new])
        have HB2 := HB1.out.alloc HB1.out.size (.cells (kindAt 1) 229)
        have HB2' := Lib.hid HB2
        refine (normal_any Any1 vt vn vs s.rules x _ (HS.out.2.below HB2) hx).mono ?_
        clear HB2
        rw [← HE2.out]
        obtain ⟨pb, hpp⟩ : ∃ p, normalB s f x.data.toList = p := ⟨_, rfl⟩
        rw [hpp]
        have HPP := Lib.hid hpp
        rintro e w3 ⟨rfl, hb3⟩
        have HB3 := Lib.hid (HB2'.out.trans (hb3.mono HB2'.out.size))
        clear hb3 hpp HE HE2 cf p0 p1 p2 p3
        go_wp2_with fail
        go_ret
        exact ⟨HF.out _ HPP.out, HB3.out⟩
      · have HE2 := Lib.hid (show normalB s f x.data.toList = readB x.data.toList from HE.out)
        go_enter Tryz.func167, Tryz.ntmps167
        go_wp2_with fail
        refine HK.out.mono ?_
        rintro e w1 ⟨rfl, hb1⟩
        have HB1 := Lib.hid (((Below.refl w.heap.size w).alloc (Nat.le_refl _) (.cells #[vf, vt, vn, vs] 43)).trans (hb1.mono (by simp)))
        have HX1 := Lib.hid (blk_below (b := w.heap.size) (o := .cells #[vf, vt, vn, vs] 43 (0, 0)) hb1 (by simp) (blk_new rfl))
        clear hb1 HK
        have cf : (w1.alloc (.cells (kindAt 2) 229)).cell? ⟨w1.heap.size, 2, none⟩ = some (fnV 277) := by rw [cell_of_row _ _ _ _ _ _ (heap_alloc_new w1 _)]; rfl
        have z0 := lt_of_blk HX1.out
        obtain ⟨p0, p1, p2, p3⟩ := cells4 HX1.out
        go_wp2_with (refine wpList_store_row rfl 229 (.tmp 7) (.tmp 13) rfl w1.heap.size (kindAt 2) rfl rfl 229 kind0 (heap_alloc_new w1 _) (by rw [KS.out]; kernel_rfl) (by rw [KS.out]; rfl) KO.out ?_; rw [World.setRow_alloc_new])
        have HB2 := HB1.out.alloc HB1.out.size (.cells (kindAt 2) 229)
        have HB2' := Lib.hid HB2
        refine (kind1_any vt vn vs x _).mono ?_
        clear HB2
        rw [← HE2.out]
        obtain ⟨pb, hpp⟩ : ∃ p, normalB s f x.data.toList = p := ⟨_, rfl⟩
        rw [hpp]
        have HPP := Lib.hid hpp
        rintro e w3 ⟨rfl, hb3⟩
        have HB3 := Lib.hid (HB2'.out.trans (hb3.mono HB2'.out.size))
        clear hb3 hpp HE HE2 cf p0 p1 p2 p3
        go_wp2_with fail
        go_ret
        exact ⟨HF.out _ HPP.out, HB3.out⟩
      · have HE2 := Lib.hid (show normalB s f x.data.toList = isOwn (codeN x.data.toList) x.data.toList from HE.out)
        go_enter Tryz.func167, Tryz.ntmps167
        go_wp2_with fail
        refine HK.out.mono ?_
        rintro e w1 ⟨rfl, hb1⟩
        have HB1 := Lib.hid (((Below.refl w.heap.size w).alloc (Nat.le_refl _) (.cells #[vf, vt, vn, vs] 43)).trans (hb1.mono (by simp)))
        have HX1 := Lib.hid (blk_below (b := w.heap.size) (o := .cells #[vf, vt, vn, vs] 43 (0, 0)) hb1 (by simp) (blk_new rfl))
        clear hb1 HK
        have cf : (w1.alloc (.cells (kindAt 3) 229)).cell? ⟨w1.heap.size, 2, none⟩ = some (fnV 282) := by rw [cell_of_row _ _ _ _ _ _ (heap_alloc_new w1 _)]; rfl
        have z0 := lt_of_blk HX1.out
        obtain ⟨p0, p1, p2, p3⟩ := cells4 HX1.out
        go_wp2_with (refine wpList_store_row rfl 229 (.tmp 7) (.tmp 13) rfl w1.heap.size (kindAt 3) rfl rfl 229 kind0 (heap_alloc_new w1 _) (by rw [KS.out]; kernel_rfl) (by rw [KS.out]; rfl) KO.out ?_; rw [World.setRow_alloc_new])
        have HB2 := HB1.out.alloc HB1.out.size (.cells (kindAt 3) 229)
        have HB2' := Lib.hid HB2
        refine (kind3_any vt vn vs x _ hx).mono ?_
        clear HB2
        rw [← HE2.out]
        obtain ⟨pb, hpp⟩ : ∃ p, normalB s f x.data.toList = p := ⟨_, rfl⟩
        rw [hpp]
        have HPP := Lib.hid hpp
        rintro e w3 ⟨rfl, hb3⟩
        have HB3 := Lib.hid (HB2'.out.trans (hb3.mono HB2'.out.size))
        clear hb3 hpp HE HE2 cf p0 p1 p2 p3
        go_wp2_with fail
        go_ret
        exact ⟨HF.out _ HPP.out, HB3.out⟩
      · have HE2 := Lib.hid (show normalB s f x.data.toList = isOwn (addrN s.rules x.data.toList) x.data.toList from HE.out)
        go_enter Tryz.func167, Tryz.ntmps167
        go_wp2_with fail
        refine HK.out.mono ?_
        rintro e w1 ⟨rfl, hb1⟩
        have HB1 := Lib.hid (((Below.refl w.heap.size w).alloc (Nat.le_refl _) (.cells #[vf, vt, vn, vs] 43)).trans (hb1.mono (by simp)))
        have HX1 := Lib.hid (blk_below (b := w.heap.size) (o := .cells #[vf, vt, vn, vs] 43 (0, 0)) hb1 (by simp) (blk_new rfl))
        clear hb1 HK
        have cf : (w1.alloc (.cells (kindAt 4) 229)).cell? ⟨w1.heap.size, 2, none⟩ = some (fnV 286) := by rw [cell_of_row _ _ _ _ _ _ (heap_alloc_new w1 _)]; rfl
        have z0 := lt_of_blk HX1.out
        obtain ⟨p0, p1, p2, p3⟩ := cells4 HX1.out
        go_wp2_with (refine wpList_store_row rfl 229 (.tmp 7) (.tmp 13) rfl w1.heap.size (kindAt 4) rfl rfl 229 kind0 (heap_alloc_new w1 _) (by rw [KS.out]; kernel_rfl) (by rw [KS.out]; rfl) KO.out ?_; rw [World.setRow_alloc_new])
        have HB2 := HB1.out.alloc HB1.out.size (.cells (kindAt 4) 229)
        have HB2' := Lib.hid HB2
        refine (anormal_any Any1 vt vn vs s.rules x _ (HS.out.2.below HB2) hx).mono ?_
        clear HB2
        rw [← HE2.out]
        obtain ⟨pb, hpp⟩ : ∃ p, normalB s f x.data.toList = p := ⟨_, rfl⟩
        rw [hpp]
        have HPP := Lib.hid hpp
        rintro e w3 ⟨rfl, hb3⟩
        have HB3 := Lib.hid (HB2'.out.trans (hb3.mono HB2'.out.size))
        clear hb3 hpp HE HE2 cf p0 p1 p2 p3
        go_wp2_with fail
        go_ret
        exact ⟨HF.out _ HPP.out, HB3.out⟩
  · have hne : (er == 0) = false := by simpa using he
    have HE := Lib.hid (show normalB s f x.data.toList = false by rw [HVal.out, if_neg he])
    clear he hkk
    go_enter Tryz.func167, Tryz.ntmps167
    go_wp2_with fail
    refine HK.out.mono ?_
    rintro e w1 ⟨rfl, hb1⟩
    have HB1 := Lib.hid (((Below.refl w.heap.size w).alloc (Nat.le_refl _) (.cells #[vf, vt, vn, vs] 43)).trans (hb1.mono (by simp)))
    have HX1 := Lib.hid (blk_below (b := w.heap.size) (o := .cells #[vf, vt, vn, vs] 43 (0, 0)) hb1 (by simp) (blk_new rfl))
    clear hb1 HK
    go_wp2_with (refine wpList_store_row rfl 229 (.tmp 7) (.tmp 13) rfl w1.heap.size (kindAt kd) rfl rfl 229 kind0 (heap_alloc_new w1 _) (by rw [KS.out]; kernel_rfl) (by rw [KS.out]; rfl) KO.out ?_; rw [World.setRow_alloc_new])
    go_ret
    exact ⟨HF.out _ HE.out, HB1.out.alloc HB1.out.size _⟩
end
section
set_option maxRecDepth 100000
open Go.RowKit Cal
theorem letters_low (t : List UInt8) : ∀ b ∈ lettersL t, isLow b = true := fun b hb => (List.mem_filter.1 hb).2
theorem low_same {t : List UInt8} (h : ∀ b ∈ t, isLow b = true) : lettersL t = t := List.filter_eq_self.2 h
theorem low_okT {t : List UInt8} (h0 : t ≠ []) (h : ∀ b ∈ t, isLow b = true) : okT t := ⟨h0, fun b hb => ⟨by simp [okB, h b hb], by
  intro e; subst e; have := h 32 hb; rw [low_iff] at this; simp at this⟩⟩
theorem token_low {t : List UInt8} (h : tokenB t = true) : t ≠ [] ∧ ∀ b ∈ t, isLow b = true := by
  unfold tokenB at h
  cases h1 : t.isEmpty
  · simp only [h1, cond_false] at h
    cases h2 : decide (t.length ≤ 64)
    · simp [h2] at h
    · simp only [h2, cond_true, beq_iff_eq] at h
      exact ⟨by simpa using h1, fun b hb => letters_low t b (by rw [h]; exact hb)⟩
  · simp [h1] at h
theorem pair_facts {L : List P2} (h : pairsB L = true) (j : Nat) (hj : j < L.length) : tokenB (L.getD j default).1 = true ∧ tokenB (L.getD j default).2 = true ∧ findI L (L.getD j default).2 < 0 := by
  have := pairs_at h j hj
  unfold pairAtB at this
  simp only [Bool.and_eq_true, decide_eq_true_iff] at this
  exact ⟨this.1.1.1, this.1.1.2, this.2⟩
theorem canon_neg {L : List P2} {s : List UInt8} (h : findI L s < 0) : canonL L s = s := by
  rcases canon_find L s with ⟨_, h2⟩ | ⟨k, _, h1, _⟩
  · exact h2
  · omega
/-- by rules, a token becomes itself, or one that is no token of the rules -/
theorem canon_cases {L : List P2} (h : pairsB L = true) (s : List UInt8) : (canonL L s = s) ∨ (∃ k, k < L.length ∧ canonL L s = (L.getD k default).2 ∧ tokenB (canonL L s) = true ∧ canonL L (canonL L s) = canonL L s) := by
  rcases canon_find L s with ⟨_, h2⟩ | ⟨k, hk, h1, h3⟩
  · exact .inl h2
  · right
    obtain ⟨_, g2, g3⟩ := pair_facts h k hk
    rw [h3] at g2 g3
    exact ⟨k, hk, h3.symm, g2, canon_neg g3⟩
theorem normTok_same {r : RulesL} (hc : checkR r = 0) {x t : List UInt8} (ht : t ∈ normTok r x) : okT t ∧ normTok r t = [t] := by
  obtain ⟨_, _, h2, _, h4⟩ := check_zero hc
  unfold normTok at ht
  by_cases hd : ((lettersL x).isEmpty || hasB r.titles (lettersL x)) = true
  · rw [if_pos hd] at ht; simp at ht
  · rw [if_neg hd] at ht
    simp at ht
    simp only [Bool.or_eq_true, not_or, Bool.not_eq_true] at hd
    obtain ⟨hd1, hd2⟩ := hd
    have key : ∀ y : List UInt8, y ≠ [] → (∀ b ∈ y, isLow b = true) → hasB r.titles y = false → canonL r.nicks y = y → okT y ∧ normTok r y = [y] := by
      intro y h0 h1 h3 h5
      refine ⟨low_okT h0 h1, ?_⟩
      unfold normTok
      rw [low_same h1, h3, h5, if_neg (by simpa using h0)]
    rcases canon_cases h2 (lettersL x) with hs | ⟨k, hk, e1, e2, e3⟩
    · rw [hs] at ht
      subst ht
      exact key _ (by simpa using hd1) (letters_low x) hd2 hs
    · rw [← ht] at e1 e2 e3
      obtain ⟨g1, g2⟩ := token_low e2
      refine key t g1 g2 ?_ e3
      rw [e1]
      have := List.any_eq_false.1 h4 (r.nicks.getD k default) (by rw [List.getD, List.getElem?_eq_getElem hk]; exact List.getElem_mem hk)
      simpa using this
theorem nameToks_same {r : RulesL} (hc : checkR r = 0) (T : List (List UInt8)) : (∀ t ∈ nameToks r T, okT t) ∧ nameToks r (nameToks r T) = nameToks r T := by
  have h : ∀ t ∈ nameToks r T, okT t ∧ normTok r t = [t] := by
    intro t ht
    obtain ⟨x, _, hx⟩ := List.mem_flatMap.1 ht
    exact normTok_same hc hx
  refine ⟨fun t ht => (h t ht).1, ?_⟩
  have : ∀ L : List (List UInt8), (∀ t ∈ L, normTok r t = [t]) → nameToks r L = L := by
    intro L
    induction L with
    | nil => intro _; rfl
    | cons t L ih =>
      intro hL
      have := ih fun x hx => hL x (List.mem_cons_of_mem _ hx)
      unfold nameToks at this ⊢
      rw [List.flatMap_cons, this, hL t List.mem_cons_self]; rfl
  exact this _ fun t ht => (h t ht).2
theorem nameN_same {r : RulesL} {l v : List UInt8} (h : nameN r l = (v, 0)) : nameN r v = (v, 0) := by
  unfold nameN at h
  by_cases hc : checkR r = 0
  · rw [if_pos hc] at h
    by_cases hv : foldV l = true
    · rw [if_pos hv] at h
      obtain ⟨h1, h2⟩ := nameToks_same hc (toks (foldL l))
      generalize nameToks r (toks (foldL l)) = N at h h1 h2
      by_cases hb : 6 < N.length ∨ 64 < (joinL N).length
      · rw [if_pos hb] at h; simp at h
      · rw [if_neg hb] at h
        obtain rfl : joinL N = v := congrArg Prod.fst h
        obtain ⟨f1, f2⟩ := fold_same N h1
        unfold nameN
        rw [if_pos hc, if_pos (foldV_join N h1 (by omega)), f2, h2, if_neg hb]
    · rw [if_neg hv] at h; simp at h
  · rw [if_neg hc] at h
    exact absurd (congrArg Prod.snd h) hc
theorem codeN_same {l v : List UInt8} (h : codeN l = (v, 0)) : codeN v = (v, 0) := by
  unfold codeN at h
  by_cases hv : foldV l = true
  · rw [if_pos hv] at h
    have hok := toks_ok l
    generalize toks (foldL l) = T at h hok
    by_cases hb : 12 < T.flatten.length
    · rw [if_pos hb] at h; simp at h
    · rw [if_neg hb] at h
      obtain rfl : T.flatten = v := congrArg Prod.fst h
      have hbytes : ∀ b ∈ T.flatten, okB b = true ∧ b ≠ 32 := by
        intro b hb'
        obtain ⟨t, ht, hbt⟩ := List.mem_flatten.1 hb'
        exact (hok t ht).2 b hbt
      by_cases h0 : T.flatten = []
      · rw [h0]; rfl
      · have hL : ∀ t ∈ [T.flatten], okT t := by
          intro t ht; simp at ht; subst ht; exact ⟨h0, hbytes⟩
        obtain ⟨f1, f2⟩ := fold_same [T.flatten] hL
        have f3 := foldV_join [T.flatten] hL (by simp [joinL]; simp at hb; omega)
        rw [show joinL [T.flatten] = T.flatten from rfl] at f1 f2 f3
        unfold codeN
        rw [if_pos f3, f2]
        simp only [List.flatten_cons, List.flatten_nil, List.append_nil]
        rw [if_neg hb]
  · rw [if_neg hv] at h; simp at h
end
section
set_option maxRecDepth 100000
open Go.RowKit Cal
theorem dropWhile_fix (l : List UInt8) : (l.dropWhile (· == 48)).dropWhile (· == 48) = l.dropWhile (· == 48) := by
  induction l with
  | nil => rfl
  | cons c l ih =>
    by_cases hc : (c == 48) = true
    · rw [List.dropWhile_cons, if_pos hc, ih]
    · rw [List.dropWhile_cons, if_neg hc, List.dropWhile_cons, if_neg hc]
theorem short_num (x : List UInt8) : numB (shortL x) = true := by
  unfold shortL
  split
  · assumption
  · rfl
theorem short_same (x : List UInt8) : shortL (shortL x) = shortL x := by
  have hd := dropWhile_fix x
  generalize hr : x.dropWhile (· == 48) = r at hd
  have e : shortL x = if numB r = true then r else 48 :: r := by unfold shortL; rw [hr]
  by_cases hn : numB r = true
  · rw [e, if_pos hn]; unfold shortL; rw [hd, if_pos hn]
  · rw [e, if_neg hn]; unfold shortL
    rw [show (48 :: r).dropWhile (· == 48) = r.dropWhile (· == 48) from rfl, hd, if_neg hn]
theorem dropWhile_mem (l : List UInt8) : ∀ b ∈ l.dropWhile (· == 48), b ∈ l := by
  induction l with
  | nil => intro b hb; simp at hb
  | cons c l ih =>
    intro b hb
    by_cases hc : (c == 48) = true
    · rw [List.dropWhile_cons, if_pos hc] at hb; exact List.mem_cons_of_mem _ (ih b hb)
    · rw [List.dropWhile_cons, if_neg hc] at hb; exact hb
theorem short_ok {x : List UInt8} (h : okT x) : okT (shortL x) := by
  have h1 : ∀ b ∈ x.dropWhile (· == 48), okB b = true ∧ b ≠ 32 := fun b hb => h.2 b (dropWhile_mem x b hb)
  unfold shortL
  split
  · rename_i hn
    refine ⟨fun e => ?_, h1⟩
    rw [e] at hn; cases hn
  · refine ⟨by simp, fun b hb => ?_⟩
    rcases List.mem_cons.1 hb with rfl | hb
    · exact ⟨by decide, by decide⟩
    · exact h1 b hb
theorem low_not_num {t : List UInt8} (h : ∀ b ∈ t, isLow b = true) : numB t = false := by
  cases t with
  | nil => rfl
  | cons c t =>
    have := h c List.mem_cons_self
    rw [low_iff, decide_eq_true_iff] at this
    show isDgt c = false
    rw [dig_iff]; simp; omega
/-- what becomes of a token stays, and stays a number or none -/
theorem addrTok_same {r : RulesL} (h : pairsB r.streets = true) {x : List UInt8} (hx : okT x) : okT (addrTok r x) ∧ addrTok r (addrTok r x) = addrTok r x := by
  by_cases hn : numB x = true
  · have e : addrTok r x = shortL x := by unfold addrTok; rw [if_pos hn]
    rw [e]
    refine ⟨short_ok hx, ?_⟩
    unfold addrTok
    rw [if_pos (short_num x), short_same]
  · have e : addrTok r x = canonL r.streets x := by unfold addrTok; rw [if_neg hn]
    rw [e]
    rcases canon_cases h x with hs | ⟨k, hk, e1, e2, e3⟩
    · rw [hs]; exact ⟨hx, by rw [e, hs]⟩
    · obtain ⟨g1, g2⟩ := token_low e2
      refine ⟨low_okT g1 g2, ?_⟩
      unfold addrTok
      rw [low_not_num g2, e3]; simp
theorem order2_same (T : List (List UInt8)) : order2 (order2 T) = order2 T := by
  have hn : ∀ L : List (List UInt8), L.filter (fun _ => false) = [] := fun L => by induction L with
    | nil => rfl
    | cons x L ih => rw [List.filter_cons]; simp
  unfold order2
  simp [List.filter_append, List.filter_filter, hn]
theorem order2_length (T : List (List UInt8)) : (order2 T).length = T.length := by
  induction T with
  | nil => rfl
  | cons t T ih =>
    unfold order2 at ih ⊢
    cases h : numB t <;> simp [List.filter_cons, h] at ih ⊢ <;> omega
theorem map_same {f : List UInt8 → List UInt8} : ∀ (T : List (List UInt8)), (∀ t ∈ T, f t = t) → T.map f = T := by
  intro T
  induction T with
  | nil => intro _; rfl
  | cons t T ih => intro h; rw [List.map_cons, h t List.mem_cons_self, ih fun x hx => h x (List.mem_cons_of_mem _ hx)]
theorem addrN_same {r : RulesL} {l v : List UInt8} (h : addrN r l = (v, 0)) : addrN r v = (v, 0) := by
  unfold addrN at h
  by_cases hc : checkR r = 0
  · rw [if_pos hc] at h
    obtain ⟨_, _, _, h3, _⟩ := check_zero hc
    by_cases hv : foldV l = true
    · rw [if_pos hv] at h
      have hok := toks_ok l
      generalize toks (foldL l) = T at h hok
      have hM : ∀ t ∈ order2 (T.map (addrTok r)), okT t ∧ addrTok r t = t := by
        intro t ht
        obtain ⟨x, hx, rfl⟩ := List.mem_map.1 (order2_mem ht)
        exact addrTok_same h3 (hok x hx)
      have hlen : (order2 (T.map (addrTok r))).length = T.length := by rw [order2_length, List.length_map]
      by_cases hb : 6 < T.length ∨ 64 < (joinL (order2 (T.map (addrTok r)))).length
      · rw [if_pos hb] at h; simp at h
      · rw [if_neg hb] at h
        have hs := order2_same (T.map (addrTok r))
        generalize order2 (T.map (addrTok r)) = M at h hM hlen hb hs
        obtain rfl : joinL M = v := congrArg Prod.fst h
        have h1 : ∀ t ∈ M, okT t := fun t ht => (hM t ht).1
        obtain ⟨f1, f2⟩ := fold_same M h1
        unfold addrN
        rw [if_pos hc, if_pos (foldV_join M h1 (by omega)), f2, map_same M fun t ht => (hM t ht).2, hs, if_neg (by rw [hlen]; exact hb)]
    · rw [if_neg hv] at h; simp at h
  · rw [if_neg hc] at h
    exact absurd (congrArg Prod.snd h) hc
theorem numI_dg (n : Int) (k : Nat) (h0 : 0 ≤ n) (h : n < 10 ^ k) : numI (dg n k) = n := by
  rw [numI_dig _ (dg_dig k n h0), dg_val k n h0 h]
theorem day_read {a b c : Int} (h : vldB a b c = true) : readB (digits8 a b c) = true := by
  obtain ⟨b1, b2, b3, b4, b5, b6⟩ := vld_bd h
  have e1 : (digits8 a b c).take 4 = dg a 4 := by
    unfold digits8; rw [List.append_assoc, List.take_append_of_le_length (by rw [dg_len]; omega), List.take_of_length_le (by rw [dg_len]; omega)]
  have e2 : ((digits8 a b c).drop 4).take 2 = dg b 2 := by
    unfold digits8; rw [List.append_assoc, List.drop_append_of_le_length (by rw [dg_len]; omega), List.drop_eq_nil_of_le (by rw [dg_len]; omega), List.nil_append, List.take_append_of_le_length (by rw [dg_len]; omega), List.take_of_length_le (by rw [dg_len]; omega)]
  have e3 : ((digits8 a b c).drop 6).take 2 = dg c 2 := by
    unfold digits8; rw [List.drop_append_of_le_length (by simp [dg_len]), List.drop_eq_nil_of_le (by simp [dg_len]), List.nil_append, List.take_of_length_le (by rw [dg_len]; omega)]
  unfold readB
  rw [digits8_len, e1, e2, e3, numI_dg a 4 (by omega) (by omega), numI_dg b 2 (by omega) (by omega), numI_dg c 2 (by omega) (by omega), h]
  rfl
theorem dayN_read {l v : List UInt8} (h : dayN l = (v, 0)) : readB v = true := by
  rcases parse_is ⟨l.toArray⟩ with ⟨a, b, c, hv, _, hd⟩ | ⟨_, hd⟩
  · rw [show (⟨l.toArray⟩ : ByteArray).data.toList = l by simp, h] at hd
    obtain rfl : v = digits8 a b c := congrArg Prod.fst hd
    exact day_read hv
  · rw [show (⟨l.toArray⟩ : ByteArray).data.toList = l by simp, h] at hd
    simp at hd
theorem own_of {p : List UInt8 × Int} {v : List UInt8} (h : p = (v, 0)) : isOwn p v = true := by subst h; simp [isOwn]
/-- what is normalised is normal; and what is no date stays as it is -/
theorem value_normal {s : SchemaL} {f : Int} {l v : List UInt8} (h : valueN s f l = (v, 0)) : normalB s f v = true ∧ normalB s f [] = true ∧ ((findN s f).1 = 2 ∨ valueN s f v = (v, 0)) := by
  unfold valueN at h
  by_cases he : (findN s f).2 = 0
  · have hk := findN_kind he
    have e2 : normalB s f [] = true := by unfold normalB; rw [if_pos he, if_pos rfl]
    by_cases hv0 : v = []
    · subst hv0
      exact ⟨e2, e2, .inr (by unfold valueN; rw [if_pos he, if_pos rfl])⟩
    · rw [if_pos he] at h
      by_cases hl : l = []
      · rw [if_pos hl] at h
        exact absurd (congrArg Prod.fst h).symm hv0
      · rw [if_neg hl] at h
        have e1 : normalB s f v = ownK (findN s f).1 s.rules v := by unfold normalB; rw [if_pos he, if_neg hv0]
        have e3 : valueN s f v = normK (findN s f).1 s.rules v := by unfold valueN; rw [if_pos he, if_neg hv0]
        rw [e1, e3]
        rcases hk with hk | hk | hk | hk
        · rw [hk] at h ⊢
          have := nameN_same (r := s.rules) h
          exact ⟨own_of this, e2, .inr this⟩
        · rw [hk] at h ⊢
          exact ⟨dayN_read (show dayN l = (v, 0) from h), e2, .inl rfl⟩
        · rw [hk] at h ⊢
          have := codeN_same (show codeN l = (v, 0) from h)
          exact ⟨own_of this, e2, .inr this⟩
        · rw [hk] at h ⊢
          have := addrN_same (r := s.rules) h
          exact ⟨own_of this, e2, .inr this⟩
  · rw [if_neg he] at h
    exact absurd (congrArg Prod.snd h) he
end
section
set_option maxRecDepth 100000
open Go.RowKit Cal
attribute [local go_sem] toList_mk mk_size
/-- the builder holds these bytes -/
def HoldsB (B b : Nat) (l : List UInt8) (w : World) : Prop := Lib.IsBuilderF 186 5 B b (Lib.byteCells l) w ∧ B ≤ w.heap.size
theorem own_belowF {w w' : World} {B e size n : Nat} {v : Value} {xs : List Value} (h : w.ownsRowF B e size v n xs) (hb : Below w.heap.size w w') : w'.ownsRowF B e size v n xs := by
  refine ⟨h.1, ?_⟩
  rcases h.2 with h0 | ⟨g, cap, cur, fz, hv, hg, hh, rest⟩
  · exact .inl h0
  · exact .inr ⟨g, cap, cur, fz, hv, hg, (hb.block g (lt_of_blk hh)).trans hh, rest⟩
theorem HoldsB.below {B b : Nat} {l : List UInt8} {w w' : World} (h : HoldsB B b l w) (hb : Below w.heap.size w w') : HoldsB B b l w' := by
  have key : ∀ p, Lib.BuilderAtF 186 5 B b p (Lib.byteCells l) w → Lib.BuilderAtF 186 5 B b p (Lib.byteCells l) w' := by
    rintro p ⟨h1, v, h2, h3, h4⟩
    exact ⟨h1, v, blk_below hb (lt_of_blk h2) h2, own_belowF h3 hb, h4⟩
  exact ⟨h.1.imp (key _) (key _), Nat.le_trans h.2 hb.size⟩
end
section
set_option maxRecDepth 100000
open Go.RowKit Cal
attribute [local go_sem] toList_mk mk_size
theorem take_snocA {α : Type} [Inhabited α] (T : List α) (k : Nat) (h : k < T.length) : T.take (k + 1) = T.take k ++ [T.getD k default] := by
  rw [List.take_succ_eq_append_getElem h, List.getD, List.getElem?_eq_getElem h]; rfl
theorem HoldsB.lt {B b : Nat} {l : List UInt8} {w : World} (h : HoldsB B b l w) : b < w.heap.size := by
  rcases h.1 with ⟨_, v, h2, _⟩ | ⟨_, v, h2, _⟩ <;> exact lt_of_blk h2
/-- what the loops of Text hold: the text so far; the blocks of w1 as they were -/
def TextAt (w1 : World) (l : List UInt8) (wr : World) : Prop := HoldsB w1.heap.size w1.heap.size l wr ∧ Below w1.heap.size w1 wr
theorem TextAt.below {w1 wr w' : World} {l : List UInt8} (h : TextAt w1 l wr) (hb : Below wr.heap.size wr w') : TextAt w1 l w' := ⟨h.1.below hb, h.2.trans (hb.mono h.2.size)⟩
end
section
set_option maxRecDepth 100000
open Go.RowKit Cal
/-- what a normal form may be, with its error -/
def FormOk (p : List UInt8 × Int) : Prop := p.1.length ≤ 64 ∧ (p.2 ≠ 0 → p.1 = [])
theorem FormOk.err (e : Int) : FormOk ([], e) := ⟨by simp, fun _ => rfl⟩
theorem nameN_form (r : RulesL) (l : List UInt8) : FormOk (nameN r l) := by
  unfold nameN
  repeat' split
  all_goals first | exact FormOk.err _ | skip
  all_goals exact ⟨by dsimp only; omega, fun h => absurd rfl h⟩
theorem addrN_form (r : RulesL) (l : List UInt8) : FormOk (addrN r l) := by
  unfold addrN
  repeat' split
  all_goals first | exact FormOk.err _ | skip
  all_goals exact ⟨by dsimp only; omega, fun h => absurd rfl h⟩
theorem codeN_form (l : List UInt8) : FormOk (codeN l) := by
  unfold codeN
  repeat' split
  all_goals first | exact FormOk.err _ | skip
  all_goals exact ⟨by dsimp only; omega, fun h => absurd rfl h⟩
theorem dayF_form (y m d : List UInt8) : FormOk (dayF y m d) := by
  unfold dayF
  cases vldB (numI y) (numI m) (numI d)
  · exact FormOk.err _
  · exact ⟨by show (digits8 _ _ _).length ≤ 64; rw [digits8_len]; omega, fun h => absurd rfl h⟩
theorem dayN_form (l : List UInt8) : FormOk (dayN l) := by
  unfold dayN
  repeat' split
  all_goals first | exact FormOk.err _ | exact dayF_form _ _ _
theorem valueN_form (s : SchemaL) (f : Int) (l : List UInt8) : FormOk (valueN s f l) := by
  unfold valueN normK
  repeat' split
  all_goals first | exact FormOk.err _ | exact nameN_form _ _ | exact dayN_form _ | exact codeN_form _ | exact addrN_form _ _
theorem findN_in {s : SchemaL} {f : Nat} (h : checkS s = 0) (hf : f < s.fields.length) : findN s f = ((s.fields.getD f default).2, 0) := by
  unfold findN
  rw [if_pos h, if_pos (by omega), Int.toNat_natCast]
end
section
set_option maxRecDepth 100000
open Go.RowKit Cal
theorem nameN_toks {r : RulesL} {l v : List UInt8} (h : nameN r l = (v, 0)) : ∃ M : List (List UInt8), (∀ t ∈ M, okT t) ∧ v = joinL M ∧ M.length ≤ 6 ∧ v.length ≤ 64 := by
  unfold nameN at h
  by_cases hc : checkR r = 0
  · rw [if_pos hc] at h
    by_cases hv : foldV l = true
    · rw [if_pos hv] at h
      obtain ⟨h1, _⟩ := nameToks_same hc (toks (foldL l))
      generalize nameToks r (toks (foldL l)) = M at h h1
      by_cases hb : 6 < M.length ∨ 64 < (joinL M).length
      · rw [if_pos hb] at h; simp at h
      · rw [if_neg hb] at h
        obtain rfl : joinL M = v := congrArg Prod.fst h
        exact ⟨M, h1, rfl, by omega, by omega⟩
    · rw [if_neg hv] at h; simp at h
  · rw [if_neg hc] at h
    exact absurd (congrArg Prod.snd h) hc
theorem addrN_toks {r : RulesL} {l v : List UInt8} (h : addrN r l = (v, 0)) : ∃ M : List (List UInt8), (∀ t ∈ M, okT t) ∧ v = joinL M ∧ M.length ≤ 6 ∧ v.length ≤ 64 := by
  unfold addrN at h
  by_cases hc : checkR r = 0
  · rw [if_pos hc] at h
    obtain ⟨_, _, _, h3, _⟩ := check_zero hc
    by_cases hv : foldV l = true
    · rw [if_pos hv] at h
      have hok := toks_ok l
      generalize toks (foldL l) = T at h hok
      have hM : ∀ t ∈ order2 (T.map (addrTok r)), okT t := by
        intro t ht
        obtain ⟨x, hx, rfl⟩ := List.mem_map.1 (order2_mem ht)
        exact (addrTok_same h3 (hok x hx)).1
      have hlen : (order2 (T.map (addrTok r))).length = T.length := by rw [order2_length, List.length_map]
      by_cases hb : 6 < T.length ∨ 64 < (joinL (order2 (T.map (addrTok r)))).length
      · rw [if_pos hb] at h; simp at h
      · rw [if_neg hb] at h
        obtain rfl : joinL (order2 (T.map (addrTok r))) = v := congrArg Prod.fst h
        exact ⟨_, hM, rfl, by omega, by omega⟩
    · rw [if_neg hv] at h; simp at h
  · rw [if_neg hc] at h
    exact absurd (congrArg Prod.snd h) hc
end
section
set_option maxRecDepth 100000
open Go.RowKit
attribute [local go_sem] toList_mk mk_size bytes_append
theorem toks_len (l : List UInt8) (h : l.length ≤ 64) : (toks l).length ≤ 65 ∧ ∀ t ∈ toks l, t.length ≤ 64 := by
  have h1 := toksA_len l []
  unfold toks
  refine ⟨by simp at h1; omega, fun t ht => ?_⟩
  have : ∀ (L : List (List UInt8)), t ∈ L → t.length ≤ (joinL L).length := by
    intro L
    induction L with
    | nil => intro h; simp at h
    | cons a L ih =>
      intro h
      by_cases hL : L = []
      · subst hL; simp at h; subst h; exact Nat.le_refl _
      · rw [join_cons_ne _ _ hL]
        rcases List.mem_cons.1 h with rfl | h
        · simp
        · have := ih h; simp; omega
  have := this _ ht
  simp at h1; omega
end
section
set_option maxRecDepth 100000
open Go.RowKit Cal
attribute [local go_sem] toList_mk mk_size bytes_append
theorem own_small {p : List UInt8 × Int} {l : List UInt8} (h : isOwn p l = true) (hf : FormOk p) : l.length ≤ 64 ∧ p = (l, 0) := by
  obtain ⟨a, b⟩ := p
  unfold isOwn at h
  cases hb : (b == (0 : Int))
  · rw [hb] at h; cases h
  · rw [hb] at h
    simp only [cond_true, beq_iff_eq] at h hb
    subst h hb
    exact ⟨hf.1, rfl⟩
theorem join_ascii {M : List (List UInt8)} (h : ∀ t ∈ M, okT t) : ascii (joinL M) := fun b hb => okB_lt (join_ok M h b hb)
/-- what a value in normal form is like -/
theorem own_facts {k : Int} {r : RulesL} {l : List UInt8} (h : ownK k r l = true) (hk : k = 1 ∨ k = 2 ∨ k = 3 ∨ k = 4) : l.length ≤ 64 ∧ (k = 1 ∨ k = 4 → ascii l) ∧ (k = 2 → l.length = 8) := by
  unfold ownK at h
  rcases hk with rfl | rfl | rfl | rfl
  · obtain ⟨h1, h2⟩ := own_small (show isOwn (nameN r l) l = true from h) (nameN_form r l)
    obtain ⟨M, g1, g2, _⟩ := nameN_toks h2
    exact ⟨h1, fun _ => by rw [g2]; exact join_ascii g1, fun e => by omega⟩
  · have hr : readB l = true := h
    unfold readB at hr
    cases hd : decide (l.length = 8)
    · rw [hd] at hr; cases hr
    · have : l.length = 8 := by simpa using hd
      exact ⟨by omega, fun e => by omega, fun _ => this⟩
  · obtain ⟨h1, h2⟩ := own_small (show isOwn (codeN l) l = true from h) (codeN_form l)
    exact ⟨h1, fun e => by omega, fun e => by omega⟩
  · obtain ⟨h1, h2⟩ := own_small (show isOwn (addrN r l) l = true from h) (addrN_form r l)
    obtain ⟨M, g1, g2, _⟩ := addrN_toks h2
    exact ⟨h1, fun _ => by rw [g2]; exact join_ascii g1, fun e => by omega⟩
end
section
open Go.RowKit
/-- a record -/
structure RecL where
  id : Int
  ver : Int
  vals : List (List UInt8)
def noRec : RecL := ⟨0, 0, []⟩
def numberedB (i v : Int) : Bool := decide (1 ≤ i) && decide (i ≤ 1048576) && decide (1 ≤ v) && decide (v ≤ 1048576)
/-- values from field i on are normal -/
def normA (s : SchemaL) : Nat → List (List UInt8) → Bool
  | _, [] => true
  | i, x :: l => normalB s i x && normA s (i + 1) l
def checkI (s : SchemaL) (r : RecL) : Int := if (numberedB r.id r.ver && (r.vals.length == s.fields.length) && normA s 0 r.vals) = true then 0 else 7
def checkN (s : SchemaL) (r : RecL) : Int := if checkS s = 0 then checkI s r else checkS s
/-- the values that are made of raw ones, from field i on, behind C; the error -/
def makeA (s : SchemaL) : Nat → List (List UInt8) → List (List UInt8) → List (List UInt8) × Int
  | _, C, [] => (C, 0)
  | i, C, x :: l => if (valueN s i x).2 = 0 then makeA s (i + 1) (C ++ [(valueN s i x).1]) l else ([], (valueN s i x).2)
def makeN (s : SchemaL) (id ver : Int) (raws : List (List UInt8)) : RecL × Int :=
  if checkS s = 0 then
    if raws.length = s.fields.length then
      if numberedB id ver = true then (if (makeA s 0 [] raws).2 = 0 then (⟨id, ver, (makeA s 0 [] raws).1⟩, 0) else (noRec, (makeA s 0 [] raws).2))
      else (noRec, 7)
    else (noRec, 8)
  else (noRec, checkS s)
theorem makeA_len (s : SchemaL) (raws : List (List UInt8)) : ∀ i C, (makeA s i C raws).2 = 0 → (makeA s i C raws).1.length = C.length + raws.length := by
  induction raws with
  | nil => intro i C _; simp [makeA]
  | cons x l ih =>
    intro i C h
    unfold makeA at h ⊢
    split at h
    · rename_i h0
      rw [if_pos h0, ih _ _ h]; simp; omega
    · rename_i h0
      exact absurd h h0
theorem normA_append (s : SchemaL) (A B : List (List UInt8)) : ∀ i, normA s i (A ++ B) = (normA s i A && normA s (i + A.length) B) := by
  induction A with
  | nil => intro i; simp [normA]
  | cons x A ih => intro i; simp only [List.cons_append, normA, ih, List.length_cons, Bool.and_assoc]; rw [show i + 1 + A.length = i + (A.length + 1) by omega]
theorem normA_get (s : SchemaL) (L : List (List UInt8)) : ∀ i, normA s i L = true → ∀ j, j < L.length → normalB s (i + j : Nat) (L.getD j []) = true := by
  induction L with
  | nil => intro i _ j hj; simp at hj
  | cons x L ih =>
    intro i h j hj
    simp only [normA, Bool.and_eq_true] at h
    cases j with
    | zero => simpa using h.1
    | succ j =>
      have := ih (i + 1) h.2 j (by simpa using hj)
      rw [show i + (j + 1) = i + 1 + j by omega]
      simpa using this
theorem normA_of (s : SchemaL) (L : List (List UInt8)) : ∀ i, (∀ j, j < L.length → normalB s (i + j : Nat) (L.getD j []) = true) → normA s i L = true := by
  induction L with
  | nil => intro i _; rfl
  | cons x L ih =>
    intro i h
    simp only [normA, Bool.and_eq_true]
    refine ⟨by simpa using h 0 (by simp), ih (i + 1) fun j hj => ?_⟩
    have := h (j + 1) (by simpa using hj)
    rw [show i + (j + 1) = i + 1 + j by omega] at this
    simpa using this
theorem makeA_norm (s : SchemaL) (raws : List (List UInt8)) : ∀ i C, (makeA s i C raws).2 = 0 → i = C.length → normA s 0 C = true → normA s 0 (makeA s i C raws).1 = true := by
  induction raws with
  | nil => intro i C _ _ h; simpa [makeA] using h
  | cons x l ih =>
    intro i C h hi hC
    unfold makeA at h ⊢
    split at h
    · rename_i h0
      rw [if_pos h0]
      refine ih _ _ h (by simp; omega) ?_
      rw [normA_append, hC, Bool.true_and, Nat.zero_add]
      obtain ⟨⟨v, e⟩, hp⟩ : ∃ p, valueN s i x = p := ⟨_, rfl⟩
      rw [hp] at h0 ⊢
      dsimp only at h0
      subst h0
      simp only [normA, Bool.and_true]
      rw [← hi]
      exact (value_normal hp).1
    · rename_i h0
      exact absurd h h0
theorem makeN_ok {s : SchemaL} {id ver : Int} {raws : List (List UInt8)} {r : RecL} (h : makeN s id ver raws = (r, 0)) :
    checkS s = 0 ∧ r.id = id ∧ r.ver = ver ∧ numberedB id ver = true ∧ r.vals.length = s.fields.length ∧ raws.length = s.fields.length ∧ normA s 0 r.vals = true ∧ r.vals = (makeA s 0 [] raws).1 ∧ (makeA s 0 [] raws).2 = 0 := by
  unfold makeN at h
  split at h
  · rename_i h1
    split at h
    · rename_i h2
      split at h
      · rename_i h3
        split at h
        · rename_i h4
          obtain rfl : RecL.mk id ver (makeA s 0 [] raws).1 = r := congrArg Prod.fst h
          exact ⟨h1, rfl, rfl, h3, by simpa [h2] using makeA_len s raws 0 [] h4, h2, makeA_norm s raws 0 [] h4 rfl rfl, rfl, h4⟩
        · rename_i h4
          exact absurd (congrArg Prod.snd h) h4
      · exact absurd (congrArg Prod.snd h) (show (7 : Int) ≠ 0 by decide)
    · exact absurd (congrArg Prod.snd h) (show (8 : Int) ≠ 0 by decide)
  · rename_i h1
    exact absurd (congrArg Prod.snd h) h1
theorem checkN_of {s : SchemaL} {r : RecL} (h0 : checkS s = 0) (h1 : numberedB r.id r.ver = true) (h2 : r.vals.length = s.fields.length) (h3 : normA s 0 r.vals = true) : checkN s r = 0 := by
  unfold checkN checkI
  rw [if_pos h0, h1, h3, h2]; simp
theorem checkN_ok {s : SchemaL} {r : RecL} (h : checkN s r = 0) : checkS s = 0 ∧ numberedB r.id r.ver = true ∧ r.vals.length = s.fields.length ∧ normA s 0 r.vals = true := by
  unfold checkN at h
  split at h
  · rename_i h0
    unfold checkI at h
    split at h
    · rename_i h1
      simp only [Bool.and_eq_true, beq_iff_eq] at h1
      exact ⟨h0, h1.1.1, h1.1.2, h1.2⟩
    · exact absurd h (by decide)
  · rename_i h0; exact absurd h h0
theorem normalB_nil {s : SchemaL} {f : Int} (h : (findN s f).2 = 0) : normalB s f [] = true := by
  unfold normalB; rw [if_pos h, if_pos rfl]
/-- a record without values is normal -/
theorem none_norm {s : SchemaL} (h : checkS s = 0) : normA s 0 (List.replicate s.fields.length []) = true := by
  refine normA_of _ _ _ fun j hj => ?_
  rw [List.length_replicate] at hj
  have e : (List.replicate s.fields.length ([] : List UInt8)).getD j [] = [] := by simp [List.getD, List.getElem?_replicate]; split <;> rfl
  rw [e]
  refine normalB_nil ?_
  rw [findN_in h (by simpa using hj)]
end
section
open Go.RowKit
/-- an array of bits -/
structure BitsL where
  len : Int
  words : List Int
def noBits : BitsL := ⟨0, []⟩
/-- the parameters of a field -/
structure ParL where
  len : Int
  hashes : Int
  salt : Int
instance : Inhabited ParL := ⟨⟨0, 0, 0⟩⟩
structure EncL where
  id : Int
  ver : Int
  fields : List BitsL
/-- a length that an array may have -/
def rightB (n : Int) : Bool := decide (64 ≤ n) && decide (n ≤ 512) && (n % 64 == 0)
structure ParOk (p : ParL) : Prop where
  len1 : 64 ≤ p.len
  len2 : p.len ≤ 512
  len3 : p.len % 64 = 0
  h1 : 1 ≤ p.hashes
  h2 : p.hashes ≤ 16
  s1 : -1 ≤ p.salt
  s2 : p.salt < 5
theorem ParOk.right {p : ParL} (h : ParOk p) : rightB p.len = true := by
  have h1 := h.len1; have h2 := h.len2; have h3 := h.len3
  simp [rightB, h1, h2, h3]
end
section
set_option maxRecDepth 100000
open Go.RowKit
/-- words of an array -/
abbrev encU (x : Int) : List Value := [.int .u64 x]
/-- an array of bits: its two cells -/
def BitsAt (w : World) (S : Nat → Prop) (v : Value) (b : BitsL) : Prop := ∃ s, v = .agg #[.int .i64 b.len, s] ∧ Vec w S 1 encU s b.words
end
section
set_option maxRecDepth 100000
open Go.RowKit
/-- w' is w, but for blocks that meet T, and for new blocks -/
structure KeptBut (T : Nat → Prop) (w w' : World) : Prop where
  os : w'.os = w.os
  tape : w'.tape = w.tape
  output : w'.output = w.output
  size : w.heap.size ≤ w'.heap.size
  block : ∀ k, k < w.heap.size → ¬ T k → w'.heap[k]? = w.heap[k]?
theorem KeptBut.refl (T : Nat → Prop) (w : World) : KeptBut T w w := ⟨rfl, rfl, rfl, Nat.le_refl _, fun _ _ _ => rfl⟩
theorem KeptBut.trans {T : Nat → Prop} {a b c : World} (h : KeptBut T a b) (k : KeptBut T b c) : KeptBut T a c :=
  ⟨k.os.trans h.os, k.tape.trans h.tape, k.output.trans h.output, Nat.le_trans h.size k.size, fun i hi ht => (k.block i (Nat.lt_of_lt_of_le hi h.size) ht).trans (h.block i hi ht)⟩
theorem KeptBut.below {T : Nat → Prop} {a b : World} {B : Nat} (h : KeptBut T a b) (hB : ∀ k, k < B → ¬ T k) (hs : B ≤ a.heap.size) : Below B a b := ⟨h.os, h.tape, h.output, h.size, fun k hk => h.block k (by omega) (hB k hk)⟩
theorem KeptBut.set {T : Nat → Prop} {a b : World} (h : KeptBut T a b) {p : Addr} (hp : T p.block) (v : Value) : KeptBut T a (b.setCell p v) :=
  ⟨h.os, h.tape, h.output, by simpa [World.setCell] using h.size, fun k hk hn => (heap_setCell_other _ _ _ _ (fun e => hn (by rw [e]; exact hp))).trans (h.block k hk hn)⟩
theorem KeptBut.drew {T : Nat → Prop} {a b : World} (h : KeptBut T a b) : KeptBut T a b.drew := ⟨h.os, h.tape, h.output, h.size, h.block⟩
theorem KeptBut.blk {T : Nat → Prop} {a b : World} (h : KeptBut T a b) {k : Nat} {o : Obj} (hk : ¬ T k) (ho : a.heap[k]? = some o) : b.heap[k]? = some o := (h.block k (lt_of_blk ho) hk).trans ho
abbrev oneI (x : Int) : Obj := .cells #[.int .i64 x] 3 (0, 0)
abbrev parC (p : ParL) : Array Value := #[.int .i64 p.len, .int .i64 p.hashes, .int .i64 p.salt]
/-- a function that deals positions: its four variables -/
structure ClosAt (w : World) (nb yb pb xb : Nat) (p : ParL) (x y : Int) : Prop where
  n : w.heap[nb]? = some (oneI x)
  y : w.heap[yb]? = some (oneI y)
  p : w.heap[pb]? = some (.cells (parC p) 75 (0, 0))
  x : ∃ z, w.heap[xb]? = some (oneI z)
  ne1 : nb ≠ yb
  ne2 : nb ≠ pb
  ne3 : nb ≠ xb
  ne4 : xb ≠ yb
  ne5 : xb ≠ pb
end
section
set_option maxRecDepth 100000
open Go.RowKit Cal
attribute [local go_sem] toList_mk mk_size
theorem vecF_one {w : World} {A : Nat} {x : F2} (h : w.heap[A]? = some (.cells #[strV x.1, .int .i64 x.2] 91 (0, 0))) : Vec w Any1 2 encF (.slice (some ⟨A, 0, none⟩) 1 1) [x] :=
  ⟨_, 1, rfl, by simp, fun _ => ⟨A, 0, rfl, trivial, lt_of_blk h, fun j y hj i u hu => by
    have hj0 : j = 0 := by
      have := (List.getElem?_eq_some_iff.1 hj).1
      simp at this; exact this
    subst hj0
    simp at hj; subst hj
    rw [cell_of_row _ _ _ _ _ _ h]
    match i, hu with
    | 0, hu => simpa [encF] using hu
    | 1, hu => simpa [encF] using hu
    | i + 2, hu => simp [encF] at hu⟩⟩
/-- a call's world under a name of its own -/
theorem wp_calls_world {P : Program} {f : FuncId} {args : Array Value} {W : World} {K : Ending → World → Prop} (h : ∀ w', w' = W → Calls P f args w' K) : Calls P f args W K := h W rfl
end
section
set_option maxRecDepth 100000
open Go.RowKit
theorem wph_name {P : Program} {md : Region.Mode} {ops : Array Oper} {Q : Exit → Act → World → Prop} {S : World → Prop} {fuel : Nat} {listed : Array Bool} {a : Act} {W : World} (h : ∀ w', w' = W → wpAnyH P md ops Q S fuel listed a w') : wpAnyH P md ops Q S fuel listed a W := h W rfl
theorem ClosAt.later {w : World} {nb yb pb xb : Nat} {p : ParL} {x y : Int} (h : ClosAt w nb yb pb xb p x y) {o : Obj} : ClosAt (w.alloc o) nb yb pb xb p x y :=
  ⟨blk_old h.n, blk_old h.y, blk_old h.p, h.x.imp fun _ hz => blk_old hz, h.ne1, h.ne2, h.ne3, h.ne4, h.ne5⟩
theorem ClosAt.set {w : World} {nb yb pb xb gb i : Nat} {p : ParL} {x y : Int} {v : Value} (h : ClosAt w nb yb pb xb p x y) (h1 : gb ≠ nb) (h2 : gb ≠ yb) (h3 : gb ≠ pb) (h4 : gb ≠ xb) : ClosAt (w.setCell ⟨gb, i, none⟩ v) nb yb pb xb p x y :=
  ⟨blk_far h.n (Ne.symm h1), blk_far h.y (Ne.symm h2), blk_far h.p (Ne.symm h3), h.x.imp fun _ hz => blk_far hz (Ne.symm h4), h.ne1, h.ne2, h.ne3, h.ne4, h.ne5⟩
end
section
set_option maxRecDepth 100000
open Go.RowKit
attribute [local go_sem] toList_mk mk_size
def sndStep (last : UInt8) (out : List UInt8) (c : UInt8) : List UInt8 × UInt8 :=
  if codeB c = 45 then (out, last) else if codeB c ≠ 32 ∧ codeB c ≠ last then (out ++ [codeB c], codeB c) else (out, codeB c)
def sndGo : UInt8 → List UInt8 → List UInt8 → List UInt8
  | _, out, [] => out
  | last, out, c :: l => if out.length < 4 then sndGo (sndStep last out c).2 (sndStep last out c).1 l else out
def padL (out : List UInt8) : List UInt8 := out ++ List.replicate (4 - out.length) 48
def soundT (t : List UInt8) : List UInt8 := if rightT t = true then (match t with
  | [] => []
  | c :: l => padL (sndGo (codeB c) [c] l)) else []
theorem sndGo_end (la : UInt8) (out l : List UInt8) (h : ¬ out.length < 4) : sndGo la out l = out := by
  cases l with
  | nil => rfl
  | cons c l => unfold sndGo; rw [if_neg h]
theorem padL_end (out : List UInt8) (h : ¬ out.length < 4) : padL out = out := by unfold padL; rw [show 4 - out.length = 0 by omega]; simp
theorem padL_more (out : List UInt8) (h : out.length < 4) : padL (out ++ [48]) = padL out := by
  unfold padL
  rw [List.length_append, show 4 - out.length = (4 - (out.length + [(48 : UInt8)].length)) + 1 by simp; omega, List.replicate_succ, List.append_assoc]; rfl
/-- a row that lies in a block of its own -/
theorem own_fresh {α : Type} {w0 w : World} {e : TypeId} {enc : α → List Value} {L : List α} {g size n : Nat} (hb : Below w0.heap.size w0 w) (hg : w0.heap.size ≤ g) (h : w.heap[g]? = some (.cells (L.flatMap enc).toArray e (0, 0))) (hl : (L.flatMap enc).length = L.length * size) (hm : L.length ≤ 1000000) (hn : n = L.length) :
    OwnV e size enc w0 (.slice (some ⟨g, 0, none⟩) n n) L w := by
  subst hn
  exact ⟨⟨hl, .inr ⟨g, L.length, _, rfl, hg, h, Nat.le_refl _, by unfold maxLen; omega, by simpa using hl, by rw [← hl]; show List.take _ (L.flatMap enc) = _; exact List.take_length⟩⟩, hb⟩
@[local go_sem] theorem get_zeroP (c : UInt8) (l : List UInt8) (h : 0 < (⟨(c :: l).toArray⟩ : ByteArray).size) : (⟨(c :: l).toArray⟩ : ByteArray)[0]'h = c := rfl
set_option maxHeartbeats 4000000 in
theorem sound_any (t : List UInt8) (w : World) (hl : t.length ≤ 1000000) : Calls Tryz.prog 230 #[strV t] w fun e w' => e = .returned (strV (soundT t)) ∧ Below w.heap.size w w' := by
  cases hr : rightT t
  · have hs : soundT t = [] := by unfold soundT; rw [hr]; rfl
    rw [hs]
    have HR := Lib.hid hr; clear hr hs
    go_enter Tryz.func230, Tryz.ntmps230
    go_wp2_with fail
    refine (rightT_any t _ hl).mono ?_
    rw [HR.out]
    rintro e w1 ⟨rfl, hb⟩
    go_wp2_with fail
    go_ret
    exact ⟨rfl, hb⟩
  · have h0 := hr
    unfold rightT at h0
    simp only [Bool.and_eq_true, Bool.not_eq_true', decide_eq_true_iff] at h0
    obtain ⟨⟨hne, h64⟩, hlo⟩ := h0
    cases t with
    | nil => simp at hne
    | cons c t =>
      have hall : ∀ x ∈ c :: t, isLow x = true := by unfold lettersL at hlo; exact List.filter_eq_self.1 hlo
      obtain ⟨R, hR⟩ : ∃ R, sndGo (codeB c) [c] t = R := ⟨_, rfl⟩
      have hs : soundT (c :: t) = padL R := by unfold soundT; rw [hr, ← hR]; rfl
      rw [hs]
      have HR := Lib.hid hr; have HAll := Lib.hid hall; have HGo := Lib.hid hR
      clear hr hs hne hlo hall hR
      go_enter Tryz.func230, Tryz.ntmps230
      go_wp2_with fail
      refine (rightT_any (c :: t) _ hl).mono ?_
      rw [HR.out]
      rintro e w1 ⟨rfl, hb⟩
      have HB := Lib.hid hb
      clear hb
      go_wp2_with fail
      have hlen0 : (0 : Int) < ((c :: t).length : Int) := by simp
      have hcl := HAll.out c (by simp)
      go_cut [3, 4] (fun s3 s4 wx => ∃ g : Nat, s3 = .slice (some ⟨g, 0, none⟩) 1 1 ∧ s4 = byteV (codeB c) ∧ wx.heap[g]? = some (.cells ([c].flatMap encB).toArray 5 (0, 0)) ∧ w1.heap.size ≤ g ∧ Below w1.heap.size w1 wx)
      case first =>
        refine wp_region_noPanic ?_
        refine wp_region_held_drew (S := (fun _ => True)) (by kernel_rfl) (trivial) (fun hHeld => ?_)
        refine tH 0 (h := ?_)
        refine tH 1 (h := ?_)
        refine tH 3 (h := ?_)
        refine tH 4 (h := ?_)
        refine wpAnyH_ready (rs := [2, 5]) (by kernel_rfl) (by simp) ?_
        refine AllReadyH.cons rfl (fun K hK => ?_) (AllReadyH.cons rfl (fun K hK => ?_) AllReadyH.nil)
        focus
          go_simp
          refine hK.out _ _ trivial (fun hHeld => ?_)
          clear hK K
          try simp only [List.getElem_toArray, List.getElem_cons_zero, List.getElem_cons_succ, Act.put, List.setIfInBounds_toArray, List.set_cons_zero, List.set_cons_succ]
          refine wpAnyH_ready (rs := [5]) (by kernel_rfl) (by simp) ?_
          refine AllReadyH.cons rfl (fun K hK => ?_) AllReadyH.nil
          go_simp
          refine (pcode_any c _ hcl).mono ?_; rintro e wq ⟨rfl, rfl⟩
          refine hK.out _ _ (trivial) (fun hHeld => ?_)
          clear hK K
          try simp only [List.getElem_toArray, List.getElem_cons_zero, List.getElem_cons_succ, Act.put, List.setIfInBounds_toArray, List.set_cons_zero, List.set_cons_succ]
        rotate_left 1
        focus
          go_simp
          refine (pcode_any c _ hcl).mono ?_
          rintro e wq ⟨rfl, rfl⟩
          refine hK.out _ _ trivial (fun hHeld => ?_)
          clear hK K
          try simp only [List.getElem_toArray, List.getElem_cons_zero, List.getElem_cons_succ, Act.put, List.setIfInBounds_toArray, List.set_cons_zero, List.set_cons_succ]
          refine wpAnyH_ready (rs := [2]) (by kernel_rfl) (by simp) ?_
          refine AllReadyH.cons rfl (fun K hK => ?_) AllReadyH.nil
          go_simp
          refine hK.out _ _ (trivial) (fun hHeld => ?_)
          clear hK K
          try simp only [List.getElem_toArray, List.getElem_cons_zero, List.getElem_cons_succ, Act.put, List.setIfInBounds_toArray, List.set_cons_zero, List.set_cons_succ]
        all_goals
          refine tH 6 (h := ?_)
          refine tH 7 (h := ?_)
          refine wpAnyH_done (by kernel_rfl) ?_ _
          refine NoPanic.normal ?_
          go_wp2_with fail
          go_meet
          exact ⟨_, rfl, rfl, blk_new rfl, Nat.le_refl _, ((Below.refl _ _).drew).alloc (Nat.le_refl _) _⟩
      case rest =>
        obtain ⟨g, rfl, rfl, hg, hgz, hb2⟩ := hcut
        have HO := Lib.hid (own_fresh (enc := encB) (L := [c]) (size := 1) (n := 1) (w0 := w) (HB.out.trans (hb2.mono HB.out.size)) (Nat.le_trans HB.out.size hgz) hg rfl (by simp) rfl)
        clear hg hb2 hgz
        go_upto_block 0 with (fail)
        have hT : (c :: t).length ≤ 64 := h64
        go_cut [3] (fun s3 wx => OwnV 5 1 encB w s3 R wx ∧ R.length ≤ 4)
        case first =>
          go_wp2_with fail
          go_loopw [3, 4, 5] (fun v la i wr => ∃ (k : Nat) (l : UInt8) (out : List UInt8), i = .int .i64 k ∧ 1 ≤ k ∧ k ≤ t.length + 1 ∧ la = byteV l ∧ OwnV 5 1 encB w v out wr ∧ out.length ≤ 4 ∧ Hid (sndGo l out ((c :: t).drop k) = R)) (fun _ _ i _ => t.length + 1 - (intOf i).toNat)
          case atStart => exact ⟨1, codeB c, [c], rfl, Nat.le_refl _, by simp, rfl, HO.out, by simp, HGo⟩
          case round =>
            obtain ⟨k, l, out, rfl, hk1, hk, rfl, ho, hol, HT⟩ := hrel
            obtain ⟨av, cv, rfl⟩ := own_slice ho.1
            have HOw := Lib.hid ho
            clear ho
            by_cases h1 : k < t.length + 1
            · have hq1 : decide ((k : Int) < (t.length : Int) + 1) = true := by simp only [decide_eq_true_eq]; omega
              have h1c : k < (c :: t).length := h1
              have h64' : t.length + 1 ≤ 64 := h64
              by_cases h2 : out.length < 4
              · have hq2 : decide ((out.length : Int) < 4) = true := by simp only [decide_eq_true_eq]; omega
                have ht := HT.out
                rw [List.drop_eq_getElem_cons h1c] at ht
                obtain ⟨x, hx⟩ : ∃ x, (c :: t)[k]'h1c = x := ⟨_, rfl⟩
                have hxl : isLow x = true := by rw [← hx]; exact HAll.out _ (List.getElem_mem h1c)
                have hgx : ∀ h : k < (⟨(c :: t).toArray⟩ : ByteArray).size, (⟨(c :: t).toArray⟩ : ByteArray)[k]'h = x := fun h => hx
                rw [hx] at ht
                unfold sndGo at ht
                rw [if_pos h2] at ht
                have HT2 := Lib.hid ht
                clear ht HT hx
                obtain ⟨d, hd⟩ : ∃ d, codeB x = d := ⟨_, rfl⟩
                have HD := Lib.hid hd
                clear hd
                go_wp2_with fail
                refine (pcode_any x _ hxl).mono ?_
                rw [HD.out]
                rintro e wq ⟨rfl, rfl⟩
                unfold byteV
                by_cases e1 : d = 45
                · have d1 : ((d.toNat : Int) == 45) = true := by rw [e1]; rfl
                  have hst : sndStep l out x = (out, l) := by unfold sndStep; rw [HD.out, if_pos e1]
                  have HT3 := Lib.hid (show sndGo l out ((c :: t).drop (k + 1)) = R by have h3 := HT2.out; rw [hst] at h3; exact h3)
                  clear e1 hst HT2
                  go_wp2_with fail
                  go_roundw
                  case rel => exact ⟨k + 1, l, out, by go_num, by omega, by omega, rfl, HOw.out, hol, HT3⟩
                  case measure => simp [intOf]; omega
                · have d1 : ((d.toNat : Int) == 45) = false := by
                    simp only [beq_eq_false_iff_ne, ne_eq]; intro h; exact e1 (UInt8.toNat_inj.1 (by show d.toNat = 45; omega))
                  by_cases e2 : d ≠ 32 ∧ d ≠ l
                  · have d2 : ((d.toNat : Int) != 32) = true := by
                      simp only [bne_iff_ne, ne_eq]; intro h; exact e2.1 (UInt8.toNat_inj.1 (by show d.toNat = 32; omega))
                    have d3 : ((d.toNat : Int) != (l.toNat : Int)) = true := by
                      simp only [bne_iff_ne, ne_eq]; intro h; exact e2.2 (UInt8.toNat_inj.1 (by omega))
                    have hst : sndStep l out x = (out ++ [d], d) := by unfold sndStep; rw [HD.out, if_neg e1, if_pos e2]
                    have HT3 := Lib.hid (show sndGo d (out ++ [d]) ((c :: t).drop (k + 1)) = R by have h3 := HT2.out; rw [hst] at h3; exact h3)
                    have hcn : out.length + ([d] : List UInt8).length ≤ 1000000000 := by simp; omega
                    have HO1 := Lib.hid (HOw.out.below ((Below.refl wr.heap.size wr).alloc (Nat.le_refl _) (.cells #[.int .u8 (d.toNat : Int)] 5)))
                    have HR1 := Lib.hid (show Reads (wr.alloc (.cells #[.int .u8 (d.toNat : Int)] 5)) 1 (.slice (some ⟨wr.heap.size, 0, none⟩) 1 1) ([d] : List UInt8).length (([d] : List UInt8).flatMap encB) from reads_block (t := 5) (fr := (0, 0)) (blk_new rfl) rfl)
                    clear e1 e2 hst HT2
                    go_wp2_with (at_builtin; refine wpList_append_v rfl (.tmp 42) (.tmp 44) 183 rfl 5 (.int .u8 0) 1 1 encB (fun _ => rfl) one_encB Tryz.underlying183 infoBy rfl (by decide) (by decide) (w0 := w) (v := .slice av out.length cv) (A := out) (B := [d]) rfl HO1.out rfl HR1.out hcn ?_; intro v2 w2 ho2 hk2 hz2)
                    go_roundw
                    case rel => exact ⟨k + 1, d, out ++ [d], by go_num, by omega, by omega, rfl, ho2, by simp; omega, HT3⟩
                    case measure => simp [intOf]; omega
                  · have hst : sndStep l out x = (out, d) := by unfold sndStep; rw [HD.out, if_neg e1, if_neg e2]
                    have HT3 := Lib.hid (show sndGo d out ((c :: t).drop (k + 1)) = R by have h3 := HT2.out; rw [hst] at h3; exact h3)
                    by_cases e3 : d = 32
                    · have d2 : ((d.toNat : Int) != 32) = false := by rw [e3]; rfl
                      clear e1 e2 e3 hst HT2
                      go_wp2_with fail
                      go_roundw
                      case rel => exact ⟨k + 1, d, out, by go_num, by omega, by omega, rfl, HOw.out, hol, HT3⟩
                      case measure => simp [intOf]; omega
                    · have d2 : ((d.toNat : Int) != 32) = true := by
                        simp only [bne_iff_ne, ne_eq]; intro h; exact e3 (UInt8.toNat_inj.1 (by show d.toNat = 32; omega))
                      have e4 : d = l := by
                        rcases Decidable.em (d = l) with h | h
                        · exact h
                        · exact absurd ⟨e3, h⟩ e2
                      have d3 : ((d.toNat : Int) != (l.toNat : Int)) = false := by rw [e4]; simp
                      clear e1 e2 e3 e4 hst HT2
                      go_wp2_with fail
                      go_roundw
                      case rel => exact ⟨k + 1, d, out, by go_num, by omega, by omega, rfl, HOw.out, hol, HT3⟩
                      case measure => simp [intOf]; omega
              · have hq2 : decide ((out.length : Int) < 4) = false := by simp only [decide_eq_false_iff_not]; omega
                have ht := HT.out
                rw [sndGo_end _ _ _ h2] at ht
                subst ht
                go_wp2_with fail
                go_meet
                exact ⟨HOw.out, hol⟩
            · have hq1 : decide ((k : Int) < (t.length : Int) + 1) = false := by simp only [decide_eq_false_iff_not]; omega
              have ht := HT.out
              rw [List.drop_eq_nil_of_le (by simp; omega)] at ht
              have ht2 : out = R := by unfold sndGo at ht; exact ht
              subst ht2
              clear ht HT
              go_wp2_with fail
              go_meet
              exact ⟨HOw.out, hol⟩
        case rest =>
          obtain ⟨ho, hR4⟩ := hcut
          obtain ⟨av, cv, rfl⟩ := own_slice ho.1
          have HO2 := Lib.hid ho
          clear ho HO
          go_wp2_with fail
          go_loopw [3] (fun v wr => ∃ out : List UInt8, OwnV 5 1 encB w v out wr ∧ out.length ≤ 4 ∧ Hid (padL out = padL R)) (fun v _ => 4 - lenOfV v)
          case atStart => exact ⟨R, HO2.out, hR4, Lib.hid rfl⟩
          case round =>
            obtain ⟨out, ho, hol, HT⟩ := hrel
            obtain ⟨ax, cx, rfl⟩ := own_slice ho.1
            have HOw := Lib.hid ho
            clear ho
            by_cases h2 : out.length < 4
            · have hq2 : decide ((out.length : Int) < 4) = true := by simp only [decide_eq_true_eq]; omega
              have HT3 := Lib.hid (show padL (out ++ [48]) = padL R by rw [padL_more out h2]; exact HT.out)
              have hcn : out.length + ([48] : List UInt8).length ≤ 1000000000 := by simp; omega
              have HO1 := Lib.hid (HOw.out.below ((Below.refl wr.heap.size wr).alloc (Nat.le_refl _) (.cells #[.int .u8 48] 5)))
              have HR1 := Lib.hid (show Reads (wr.alloc (.cells #[.int .u8 48] 5)) 1 (.slice (some ⟨wr.heap.size, 0, none⟩) 1 1) ([48] : List UInt8).length (([48] : List UInt8).flatMap encB) from reads_block (t := 5) (fr := (0, 0)) (blk_new rfl) rfl)
              clear HT
              go_wp2_with (at_builtin; refine wpList_append_v rfl (.tmp 50) (.tmp 51) 183 rfl 5 (.int .u8 0) 1 1 encB (fun _ => rfl) one_encB Tryz.underlying183 infoBy rfl (by decide) (by decide) (w0 := w) (v := .slice ax out.length cx) (A := out) (B := [48]) rfl HO1.out rfl HR1.out hcn ?_; intro v2 w2 ho2 hk2 hz2; obtain ⟨a2, c2, ev2⟩ := own_slice ho2.1; subst ev2)
              go_roundw
              case rel => exact ⟨out ++ [48], by rw [List.length_append] at ho2; exact ho2, by simp; omega, HT3⟩
              case measure => simp [lenOfV]; omega
            · have hq2 : decide ((out.length : Int) < 4) = false := by simp only [decide_eq_false_iff_not]; omega
              have hp := HT.out
              rw [padL_end out h2] at hp
              have HP := Lib.hid (show Ending.returned (strV out) = .returned (strV (padL R)) by rw [hp])
              have hown := HOw.out.1
              rw [flatB] at hown
              have hconv := run_convert_owned (P := Tryz.prog) out hown Tryz.underlying183 Tryz.underlying5 Tryz.underlying9
              clear hp hown HT
              go_wp2_with fail
              go_ret
              exact ⟨HP.out, HOw.out.2⟩
/-- the sound of a text -/
def sndFirst : List (List UInt8) → List UInt8
  | [] => []
  | t :: _ => soundT t
def soundL (l : List UInt8) : List UInt8 := sndFirst (toks l)
set_option maxHeartbeats 1000000 in
theorem sndkey_any (l : List UInt8) (w : World) (h : ascii l) (hl : l.length ≤ 1000) : Calls Tryz.prog 186 #[strV l] w fun e w' => e = .returned (strV (soundL l)) ∧ Below w.heap.size w w' := by
  have hc : (toks l).length ≤ 1000000 := by have := (toksA_len l []).2.1; unfold toks; omega
  have hts : ∀ t ∈ toks l, t.length ≤ 1000000 := fun t ht => by have := toks_le l [] t ht; simp at this; omega
  obtain ⟨T, hT⟩ : ∃ T, toks l = T := ⟨_, rfl⟩
  have htk := tokens_any l
  obtain ⟨res, hres⟩ : ∃ res, soundL l = res := ⟨_, rfl⟩
  have hr2 : sndFirst T = res := by rw [← hT]; exact hres
  rw [hT] at hc htk hts
  rw [hres]
  have HTk := Lib.hid htk
  clear hT htk hres
  go_enter Tryz.func186, Tryz.ntmps186
  go_wp2_with fail
  refine (HTk.out _ h (by omega)).mono ?_
  rintro e w1 ⟨A, rfl, hA, ho, hb⟩
  have HV := Lib.hid (Vec.owns (k := 1) (enc := encS) (S := Any1) (fun _ => rfl) ho (fun _ _ _ => trivial))
  have HB := Lib.hid hb
  clear ho hb
  cases T with
  | nil =>
    have hr3 : [] = res := hr2
    subst hr3
    clear hr2
    go_wp2_with fail
    go_ret
    exact ⟨rfl, HB.out⟩
  | cons t T =>
    have HR := Lib.hid (show soundT t = res from hr2)
    have htl := hts t (by simp)
    have d0 : (((t :: T).length : Int) == 0) = false := by simp; omega
    obtain ⟨b, off, e0, lb, hc0⟩ := HV.out.get 0 (by simp)
    cases e0
    have c0 := hc0 0 _ rfl
    rw [Nat.zero_mul, Nat.add_zero] at c0
    have c0 : w1.cell? ⟨A, 0, none⟩ = some (strV t) := c0
    have hl0 : (0 : Int) < ((t :: T).length : Int) := by simp
    clear hr2 hts hc0
    go_wp2_with fail
    refine (sound_any t _ htl).mono ?_
    rw [HR.out]
    rintro e w2 ⟨rfl, hb⟩
    go_wp2_with fail
    go_ret
    exact ⟨rfl, HB.out.trans (hb.mono HB.out.size)⟩
end
section
set_option maxRecDepth 100000
open Go.RowKit
attribute [local go_sem] toList_mk mk_size
/-- what a transform makes of a value -/
def transN (t : Int) (v : List UInt8) : List UInt8 := if t = 1 then v else if t = 2 then soundL v else if t = 3 then v.take 1 else if t = 4 then v.take 4 else numL v
def partN (t : Int) (v : List UInt8) : List UInt8 := if v = [] then [] else transN t v
set_option maxHeartbeats 4000000 in
theorem part_none (f : Nat) (t i ver : Int) (sv : Value) (vals : List (List UInt8)) (w : World) (h : Vec w Any1 1 encS sv vals) (hf : f < vals.length) (hn : vals.length ≤ 1000000) (h0 : vals.getD f [] = []) :
    Calls Tryz.prog 67 #[.agg #[.int .i64 f, .int .i64 t], .agg #[.int .i64 i, .int .i64 ver, sv]] w fun e w' => e = .returned (strV []) ∧ Below w.heap.size w w' := by
  obtain ⟨a, cap, rfl⟩ := h.slice
  obtain ⟨b, off, rfl, lb, hc⟩ := h.get f hf
  have c0 := hc 0 _ rfl
  rw [Nat.mul_one, Nat.add_zero] at c0
  have hx : vals[f] = [] := by rw [← h0, List.getD, List.getElem?_eq_getElem hf]; rfl
  rw [hx] at c0
  have hfi : (f : Int) < (vals.length : Int) := by omega
  clear h hc h0 hx
  go_enter Tryz.func67, Tryz.ntmps67
  go_wp2_with fail
  go_ret
  exact ⟨rfl, ((Below.refl w.heap.size w).alloc (Nat.le_refl _) _).alloc (by simp) _⟩
set_option maxHeartbeats 4000000 in
theorem part_1 (f : Nat) (i ver : Int) (sv : Value) (vals : List (List UInt8)) (w : World) (h : Vec w Any1 1 encS sv vals) (hf : f < vals.length) (hn : vals.length ≤ 1000000) (h0 : vals.getD f [] ≠ []) (hs : (vals.getD f []).length ≤ 1000) :
    Calls Tryz.prog 67 #[.agg #[.int .i64 f, .int .i64 1], .agg #[.int .i64 i, .int .i64 ver, sv]] w fun e w' => e = .returned (strV (transN 1 (vals.getD f []))) ∧ Below w.heap.size w w' := by
  obtain ⟨a, cap, rfl⟩ := h.slice
  obtain ⟨b, off, rfl, lb, hc⟩ := h.get f hf
  have c0 := hc 0 _ rfl
  rw [Nat.mul_one, Nat.add_zero] at c0
  obtain ⟨x, hx⟩ : ∃ x, vals.getD f [] = x := ⟨_, rfl⟩
  have hx2 : vals[f] = x := by rw [← hx, List.getD, List.getElem?_eq_getElem hf]; rfl
  rw [hx2] at c0
  rw [hx] at h0 hs ⊢
  obtain ⟨y, hy⟩ : ∃ y, transN 1 x = y := ⟨_, rfl⟩
  have hy2 : x = y := by rw [← hy]; rfl
  rw [hy]
  have hex : x.isEmpty = false := by simpa using h0
  have hfi : (f : Int) < (vals.length : Int) := by omega
  have HY := Lib.hid (show Ending.returned (strV (x)) = .returned (strV y) by rw [hy2])
  clear h hc h0 hx hx2 hy hy2
  go_enter Tryz.func67, Tryz.ntmps67
  go_wp2_with fail
  refine wp_world (fun W hW => ?_)
  have hb0 : Below w.heap.size w W := by rw [hW]; exact ((Below.refl w.heap.size w).alloc (Nat.le_refl _) _).alloc (by simp) _
  have hp0 : W.heap[w.heap.size]? = some (.cells #[.int .i64 f, .int .i64 1] 31 (0, 0)) := by rw [hW]; exact blk_old (blk_new rfl)
  have hq0 : W.heap[w.heap.size + 1]? = some (.cells #[.int .i64 i, .int .i64 ver, .slice (some ⟨b, off, none⟩) vals.length cap] 29 (0, 0)) := by rw [hW]; exact blk_new (by simp)
  clear hW
  have x1 := (hb0.cell (p := ⟨b, off + f, none⟩) lb).trans c0
  have lb1 : b < W.heap.size := Nat.lt_of_lt_of_le lb hb0.size
  obtain ⟨p0, p1⟩ := cells2K hp0; obtain ⟨q0, q1, q2⟩ := cells3 hq0
  have lp := lt_of_blk hp0; have lq := lt_of_blk hq0
  have HB0 := Lib.hid hb0
  clear hp0 hq0 hb0 c0
  have bD : Below W.heap.size W W.drew := (Below.refl _ _).drew
  refine wp_region_noPanic ?_
  refine wp_region_held_drew (S := (fun w' => w'.cell? ⟨w.heap.size, 0, none⟩ = some (.int .i64 f) ∧ w'.cell? ⟨w.heap.size, 1, none⟩ = some (.int .i64 1) ∧ w'.cell? ⟨w.heap.size + 1, 2, none⟩ = some (.slice (some ⟨b, off, none⟩) vals.length cap) ∧ w'.cell? ⟨b, off + f, none⟩ = some (strV x))) (by kernel_rfl) (⟨p0, p1, q2, x1⟩) (fun hHeld => ?_)
  refine tH 1 (h := ?_)
  refine tH 2 (h := ?_)
  refine tH 4 (h := ?_)
  refine tH 5 (h := ?_)
  refine tH 6 (h := ?_)
  refine tH 7 (h := ?_)
  refine tH 8 (h := ?_)
  refine tH 9 (h := ?_)
  refine wpAnyH_ready (rs := [0]) (by kernel_rfl) (by simp) ?_
  refine AllReadyH.cons rfl (fun K hK => ?_) AllReadyH.nil
  go_simp
  refine (trans_any _).mono ?_; rintro e w2 ⟨mb, rfl, hmb, hmz, hb⟩; have b2 := bD.trans hb; clear hb
  refine hK.out _ _ (⟨(b2.cell (p := ⟨w.heap.size, 0, none⟩) lp).trans p0, (b2.cell (p := ⟨w.heap.size, 1, none⟩) lp).trans p1, (b2.cell (p := ⟨w.heap.size + 1, 2, none⟩) lq).trans q2, (b2.cell (p := ⟨b, off + f, none⟩) lb1).trans x1⟩) (fun hHeld => ?_)
  clear hK K
  try simp only [List.getElem_toArray, List.getElem_cons_zero, List.getElem_cons_succ, Act.put, List.setIfInBounds_toArray, List.set_cons_zero, List.set_cons_succ]
  have hlk := look_int (P := Tryz.prog) (i := 0) 1 (.func (.func 185) #[] #[]) Tryz.underlying170 Tryz.underlying3 hmb rfl
  refine wpAnyH_ready (rs := [3]) (by kernel_rfl) (by simp) ?_
  refine AllReadyH.cons rfl (fun K hK => ?_) AllReadyH.nil
  go_simp
  refine hK.out _ _ hHeld (fun hHeld => ?_)
  clear hK K hlk
  try simp only [List.getElem_toArray, List.getElem_cons_zero, List.getElem_cons_succ, Act.put, List.setIfInBounds_toArray, List.set_cons_zero, List.set_cons_succ]
  refine wpAnyH_ready (rs := [10]) (by kernel_rfl) (by simp) ?_
  refine AllReadyH.cons rfl (fun K hK => ?_) AllReadyH.nil
  go_simp
  refine (t1_any x _).mono ?_; rintro e wq ⟨rfl, rfl⟩; have b3 := b2
  refine hK.out _ _ (⟨(b3.cell (p := ⟨w.heap.size, 0, none⟩) lp).trans p0, (b3.cell (p := ⟨w.heap.size, 1, none⟩) lp).trans p1, (b3.cell (p := ⟨w.heap.size + 1, 2, none⟩) lq).trans q2, (b3.cell (p := ⟨b, off + f, none⟩) lb1).trans x1⟩) (fun hHeld => ?_)
  clear hK K
  try simp only [List.getElem_toArray, List.getElem_cons_zero, List.getElem_cons_succ, Act.put, List.setIfInBounds_toArray, List.set_cons_zero, List.set_cons_succ]
  refine tH 11 (h := ?_)
  refine wpAnyH_done (by kernel_rfl) ?_ _
  refine NoPanic.normal ?_
  go_wp2_with fail
  go_ret
  exact ⟨HY.out, HB0.out.trans (b3.mono HB0.out.size)⟩
set_option maxHeartbeats 4000000 in
theorem part_2 (f : Nat) (i ver : Int) (sv : Value) (vals : List (List UInt8)) (w : World) (h : Vec w Any1 1 encS sv vals) (hf : f < vals.length) (hn : vals.length ≤ 1000000) (h0 : vals.getD f [] ≠ []) (hs : (vals.getD f []).length ≤ 1000) (has : ascii (vals.getD f [])) :
    Calls Tryz.prog 67 #[.agg #[.int .i64 f, .int .i64 2], .agg #[.int .i64 i, .int .i64 ver, sv]] w fun e w' => e = .returned (strV (transN 2 (vals.getD f []))) ∧ Below w.heap.size w w' := by
  obtain ⟨a, cap, rfl⟩ := h.slice
  obtain ⟨b, off, rfl, lb, hc⟩ := h.get f hf
  have c0 := hc 0 _ rfl
  rw [Nat.mul_one, Nat.add_zero] at c0
  obtain ⟨x, hx⟩ : ∃ x, vals.getD f [] = x := ⟨_, rfl⟩
  have hx2 : vals[f] = x := by rw [← hx, List.getD, List.getElem?_eq_getElem hf]; rfl
  rw [hx2] at c0
  rw [hx] at h0 hs has ⊢
  obtain ⟨y, hy⟩ : ∃ y, transN 2 x = y := ⟨_, rfl⟩
  have hy2 : soundL x = y := by rw [← hy]; rfl
  rw [hy]
  have hex : x.isEmpty = false := by simpa using h0
  have hfi : (f : Int) < (vals.length : Int) := by omega
  have HAs := Lib.hid has; have HY := Lib.hid (show Ending.returned (strV (soundL x)) = .returned (strV y) by rw [hy2])
  clear h hc h0 hx hx2 has hy hy2
  go_enter Tryz.func67, Tryz.ntmps67
  go_wp2_with fail
  refine wp_world (fun W hW => ?_)
  have hb0 : Below w.heap.size w W := by rw [hW]; exact ((Below.refl w.heap.size w).alloc (Nat.le_refl _) _).alloc (by simp) _
  have hp0 : W.heap[w.heap.size]? = some (.cells #[.int .i64 f, .int .i64 2] 31 (0, 0)) := by rw [hW]; exact blk_old (blk_new rfl)
  have hq0 : W.heap[w.heap.size + 1]? = some (.cells #[.int .i64 i, .int .i64 ver, .slice (some ⟨b, off, none⟩) vals.length cap] 29 (0, 0)) := by rw [hW]; exact blk_new (by simp)
  clear hW
  have x1 := (hb0.cell (p := ⟨b, off + f, none⟩) lb).trans c0
  have lb1 : b < W.heap.size := Nat.lt_of_lt_of_le lb hb0.size
  obtain ⟨p0, p1⟩ := cells2K hp0; obtain ⟨q0, q1, q2⟩ := cells3 hq0
  have lp := lt_of_blk hp0; have lq := lt_of_blk hq0
  have HB0 := Lib.hid hb0
  clear hp0 hq0 hb0 c0
  have bD : Below W.heap.size W W.drew := (Below.refl _ _).drew
  refine wp_region_noPanic ?_
  refine wp_region_held_drew (S := (fun w' => w'.cell? ⟨w.heap.size, 0, none⟩ = some (.int .i64 f) ∧ w'.cell? ⟨w.heap.size, 1, none⟩ = some (.int .i64 2) ∧ w'.cell? ⟨w.heap.size + 1, 2, none⟩ = some (.slice (some ⟨b, off, none⟩) vals.length cap) ∧ w'.cell? ⟨b, off + f, none⟩ = some (strV x))) (by kernel_rfl) (⟨p0, p1, q2, x1⟩) (fun hHeld => ?_)
  refine tH 1 (h := ?_)
  refine tH 2 (h := ?_)
  refine tH 4 (h := ?_)
  refine tH 5 (h := ?_)
  refine tH 6 (h := ?_)
  refine tH 7 (h := ?_)
  refine tH 8 (h := ?_)
  refine tH 9 (h := ?_)
  refine wpAnyH_ready (rs := [0]) (by kernel_rfl) (by simp) ?_
  refine AllReadyH.cons rfl (fun K hK => ?_) AllReadyH.nil
  go_simp
  refine (trans_any _).mono ?_; rintro e w2 ⟨mb, rfl, hmb, hmz, hb⟩; have b2 := bD.trans hb; clear hb
  refine hK.out _ _ (⟨(b2.cell (p := ⟨w.heap.size, 0, none⟩) lp).trans p0, (b2.cell (p := ⟨w.heap.size, 1, none⟩) lp).trans p1, (b2.cell (p := ⟨w.heap.size + 1, 2, none⟩) lq).trans q2, (b2.cell (p := ⟨b, off + f, none⟩) lb1).trans x1⟩) (fun hHeld => ?_)
  clear hK K
  try simp only [List.getElem_toArray, List.getElem_cons_zero, List.getElem_cons_succ, Act.put, List.setIfInBounds_toArray, List.set_cons_zero, List.set_cons_succ]
  have hlk := look_int (P := Tryz.prog) (i := 1) 2 (.func (.func 186) #[] #[]) Tryz.underlying170 Tryz.underlying3 hmb rfl
  refine wpAnyH_ready (rs := [3]) (by kernel_rfl) (by simp) ?_
  refine AllReadyH.cons rfl (fun K hK => ?_) AllReadyH.nil
  go_simp
  refine hK.out _ _ hHeld (fun hHeld => ?_)
  clear hK K hlk
  try simp only [List.getElem_toArray, List.getElem_cons_zero, List.getElem_cons_succ, Act.put, List.setIfInBounds_toArray, List.set_cons_zero, List.set_cons_succ]
  refine wpAnyH_ready (rs := [10]) (by kernel_rfl) (by simp) ?_
  refine AllReadyH.cons rfl (fun K hK => ?_) AllReadyH.nil
  go_simp
  refine (sndkey_any x _ HAs.out (by omega)).mono ?_; rintro e wq ⟨rfl, hb⟩; have b3 := b2.trans (hb.mono b2.size); clear hb
  refine hK.out _ _ (⟨(b3.cell (p := ⟨w.heap.size, 0, none⟩) lp).trans p0, (b3.cell (p := ⟨w.heap.size, 1, none⟩) lp).trans p1, (b3.cell (p := ⟨w.heap.size + 1, 2, none⟩) lq).trans q2, (b3.cell (p := ⟨b, off + f, none⟩) lb1).trans x1⟩) (fun hHeld => ?_)
  clear hK K
  try simp only [List.getElem_toArray, List.getElem_cons_zero, List.getElem_cons_succ, Act.put, List.setIfInBounds_toArray, List.set_cons_zero, List.set_cons_succ]
  refine tH 11 (h := ?_)
  refine wpAnyH_done (by kernel_rfl) ?_ _
  refine NoPanic.normal ?_
  go_wp2_with fail
  go_ret
  exact ⟨HY.out, HB0.out.trans (b3.mono HB0.out.size)⟩
set_option maxHeartbeats 4000000 in
theorem part_3 (f : Nat) (i ver : Int) (sv : Value) (vals : List (List UInt8)) (w : World) (h : Vec w Any1 1 encS sv vals) (hf : f < vals.length) (hn : vals.length ≤ 1000000) (h0 : vals.getD f [] ≠ []) (hs : (vals.getD f []).length ≤ 1000) :
    Calls Tryz.prog 67 #[.agg #[.int .i64 f, .int .i64 3], .agg #[.int .i64 i, .int .i64 ver, sv]] w fun e w' => e = .returned (strV (transN 3 (vals.getD f []))) ∧ Below w.heap.size w w' := by
  obtain ⟨a, cap, rfl⟩ := h.slice
  obtain ⟨b, off, rfl, lb, hc⟩ := h.get f hf
  have c0 := hc 0 _ rfl
  rw [Nat.mul_one, Nat.add_zero] at c0
  obtain ⟨x, hx⟩ : ∃ x, vals.getD f [] = x := ⟨_, rfl⟩
  have hx2 : vals[f] = x := by rw [← hx, List.getD, List.getElem?_eq_getElem hf]; rfl
  rw [hx2] at c0
  rw [hx] at h0 hs ⊢
  obtain ⟨y, hy⟩ : ∃ y, transN 3 x = y := ⟨_, rfl⟩
  have hy2 : x.take 1 = y := by rw [← hy]; rfl
  rw [hy]
  have hex : x.isEmpty = false := by simpa using h0
  have hfi : (f : Int) < (vals.length : Int) := by omega
  have HY := Lib.hid (show Ending.returned (strV (x.take 1)) = .returned (strV y) by rw [hy2])
  clear h hc h0 hx hx2 hy hy2
  go_enter Tryz.func67, Tryz.ntmps67
  go_wp2_with fail
  refine wp_world (fun W hW => ?_)
  have hb0 : Below w.heap.size w W := by rw [hW]; exact ((Below.refl w.heap.size w).alloc (Nat.le_refl _) _).alloc (by simp) _
  have hp0 : W.heap[w.heap.size]? = some (.cells #[.int .i64 f, .int .i64 3] 31 (0, 0)) := by rw [hW]; exact blk_old (blk_new rfl)
  have hq0 : W.heap[w.heap.size + 1]? = some (.cells #[.int .i64 i, .int .i64 ver, .slice (some ⟨b, off, none⟩) vals.length cap] 29 (0, 0)) := by rw [hW]; exact blk_new (by simp)
  clear hW
  have x1 := (hb0.cell (p := ⟨b, off + f, none⟩) lb).trans c0
  have lb1 : b < W.heap.size := Nat.lt_of_lt_of_le lb hb0.size
  obtain ⟨p0, p1⟩ := cells2K hp0; obtain ⟨q0, q1, q2⟩ := cells3 hq0
  have lp := lt_of_blk hp0; have lq := lt_of_blk hq0
  have HB0 := Lib.hid hb0
  clear hp0 hq0 hb0 c0
  have bD : Below W.heap.size W W.drew := (Below.refl _ _).drew
  refine wp_region_noPanic ?_
  refine wp_region_held_drew (S := (fun w' => w'.cell? ⟨w.heap.size, 0, none⟩ = some (.int .i64 f) ∧ w'.cell? ⟨w.heap.size, 1, none⟩ = some (.int .i64 3) ∧ w'.cell? ⟨w.heap.size + 1, 2, none⟩ = some (.slice (some ⟨b, off, none⟩) vals.length cap) ∧ w'.cell? ⟨b, off + f, none⟩ = some (strV x))) (by kernel_rfl) (⟨p0, p1, q2, x1⟩) (fun hHeld => ?_)
  refine tH 1 (h := ?_)
  refine tH 2 (h := ?_)
  refine tH 4 (h := ?_)
  refine tH 5 (h := ?_)
  refine tH 6 (h := ?_)
  refine tH 7 (h := ?_)
  refine tH 8 (h := ?_)
  refine tH 9 (h := ?_)
  refine wpAnyH_ready (rs := [0]) (by kernel_rfl) (by simp) ?_
  refine AllReadyH.cons rfl (fun K hK => ?_) AllReadyH.nil
  go_simp
  refine (trans_any _).mono ?_; rintro e w2 ⟨mb, rfl, hmb, hmz, hb⟩; have b2 := bD.trans hb; clear hb
  refine hK.out _ _ (⟨(b2.cell (p := ⟨w.heap.size, 0, none⟩) lp).trans p0, (b2.cell (p := ⟨w.heap.size, 1, none⟩) lp).trans p1, (b2.cell (p := ⟨w.heap.size + 1, 2, none⟩) lq).trans q2, (b2.cell (p := ⟨b, off + f, none⟩) lb1).trans x1⟩) (fun hHeld => ?_)
  clear hK K
  try simp only [List.getElem_toArray, List.getElem_cons_zero, List.getElem_cons_succ, Act.put, List.setIfInBounds_toArray, List.set_cons_zero, List.set_cons_succ]
  have hlk := look_int (P := Tryz.prog) (i := 2) 3 (.func (.func 187) #[] #[]) Tryz.underlying170 Tryz.underlying3 hmb rfl
  refine wpAnyH_ready (rs := [3]) (by kernel_rfl) (by simp) ?_
  refine AllReadyH.cons rfl (fun K hK => ?_) AllReadyH.nil
  go_simp
  refine hK.out _ _ hHeld (fun hHeld => ?_)
  clear hK K hlk
  try simp only [List.getElem_toArray, List.getElem_cons_zero, List.getElem_cons_succ, Act.put, List.setIfInBounds_toArray, List.set_cons_zero, List.set_cons_succ]
  refine wpAnyH_ready (rs := [10]) (by kernel_rfl) (by simp) ?_
  refine AllReadyH.cons rfl (fun K hK => ?_) AllReadyH.nil
  go_simp
  refine (t2_any x _ (by omega)).mono ?_; rintro e wq ⟨rfl, rfl⟩; have b3 := b2
  refine hK.out _ _ (⟨(b3.cell (p := ⟨w.heap.size, 0, none⟩) lp).trans p0, (b3.cell (p := ⟨w.heap.size, 1, none⟩) lp).trans p1, (b3.cell (p := ⟨w.heap.size + 1, 2, none⟩) lq).trans q2, (b3.cell (p := ⟨b, off + f, none⟩) lb1).trans x1⟩) (fun hHeld => ?_)
  clear hK K
  try simp only [List.getElem_toArray, List.getElem_cons_zero, List.getElem_cons_succ, Act.put, List.setIfInBounds_toArray, List.set_cons_zero, List.set_cons_succ]
  refine tH 11 (h := ?_)
  refine wpAnyH_done (by kernel_rfl) ?_ _
  refine NoPanic.normal ?_
  go_wp2_with fail
  go_ret
  exact ⟨HY.out, HB0.out.trans (b3.mono HB0.out.size)⟩
set_option maxHeartbeats 4000000 in
theorem part_4 (f : Nat) (i ver : Int) (sv : Value) (vals : List (List UInt8)) (w : World) (h : Vec w Any1 1 encS sv vals) (hf : f < vals.length) (hn : vals.length ≤ 1000000) (h0 : vals.getD f [] ≠ []) (hs : (vals.getD f []).length ≤ 1000) :
    Calls Tryz.prog 67 #[.agg #[.int .i64 f, .int .i64 4], .agg #[.int .i64 i, .int .i64 ver, sv]] w fun e w' => e = .returned (strV (transN 4 (vals.getD f []))) ∧ Below w.heap.size w w' := by
  obtain ⟨a, cap, rfl⟩ := h.slice
  obtain ⟨b, off, rfl, lb, hc⟩ := h.get f hf
  have c0 := hc 0 _ rfl
  rw [Nat.mul_one, Nat.add_zero] at c0
  obtain ⟨x, hx⟩ : ∃ x, vals.getD f [] = x := ⟨_, rfl⟩
  have hx2 : vals[f] = x := by rw [← hx, List.getD, List.getElem?_eq_getElem hf]; rfl
  rw [hx2] at c0
  rw [hx] at h0 hs ⊢
  obtain ⟨y, hy⟩ : ∃ y, transN 4 x = y := ⟨_, rfl⟩
  have hy2 : x.take 4 = y := by rw [← hy]; rfl
  rw [hy]
  have hex : x.isEmpty = false := by simpa using h0
  have hfi : (f : Int) < (vals.length : Int) := by omega
  have HY := Lib.hid (show Ending.returned (strV (x.take 4)) = .returned (strV y) by rw [hy2])
  clear h hc h0 hx hx2 hy hy2
  go_enter Tryz.func67, Tryz.ntmps67
  go_wp2_with fail
  refine wp_world (fun W hW => ?_)
  have hb0 : Below w.heap.size w W := by rw [hW]; exact ((Below.refl w.heap.size w).alloc (Nat.le_refl _) _).alloc (by simp) _
  have hp0 : W.heap[w.heap.size]? = some (.cells #[.int .i64 f, .int .i64 4] 31 (0, 0)) := by rw [hW]; exact blk_old (blk_new rfl)
  have hq0 : W.heap[w.heap.size + 1]? = some (.cells #[.int .i64 i, .int .i64 ver, .slice (some ⟨b, off, none⟩) vals.length cap] 29 (0, 0)) := by rw [hW]; exact blk_new (by simp)
  clear hW
  have x1 := (hb0.cell (p := ⟨b, off + f, none⟩) lb).trans c0
  have lb1 : b < W.heap.size := Nat.lt_of_lt_of_le lb hb0.size
  obtain ⟨p0, p1⟩ := cells2K hp0; obtain ⟨q0, q1, q2⟩ := cells3 hq0
  have lp := lt_of_blk hp0; have lq := lt_of_blk hq0
  have HB0 := Lib.hid hb0
  clear hp0 hq0 hb0 c0
  have bD : Below W.heap.size W W.drew := (Below.refl _ _).drew
  refine wp_region_noPanic ?_
  refine wp_region_held_drew (S := (fun w' => w'.cell? ⟨w.heap.size, 0, none⟩ = some (.int .i64 f) ∧ w'.cell? ⟨w.heap.size, 1, none⟩ = some (.int .i64 4) ∧ w'.cell? ⟨w.heap.size + 1, 2, none⟩ = some (.slice (some ⟨b, off, none⟩) vals.length cap) ∧ w'.cell? ⟨b, off + f, none⟩ = some (strV x))) (by kernel_rfl) (⟨p0, p1, q2, x1⟩) (fun hHeld => ?_)
  refine tH 1 (h := ?_)
  refine tH 2 (h := ?_)
  refine tH 4 (h := ?_)
  refine tH 5 (h := ?_)
  refine tH 6 (h := ?_)
  refine tH 7 (h := ?_)
  refine tH 8 (h := ?_)
  refine tH 9 (h := ?_)
  refine wpAnyH_ready (rs := [0]) (by kernel_rfl) (by simp) ?_
  refine AllReadyH.cons rfl (fun K hK => ?_) AllReadyH.nil
  go_simp
  refine (trans_any _).mono ?_; rintro e w2 ⟨mb, rfl, hmb, hmz, hb⟩; have b2 := bD.trans hb; clear hb
  refine hK.out _ _ (⟨(b2.cell (p := ⟨w.heap.size, 0, none⟩) lp).trans p0, (b2.cell (p := ⟨w.heap.size, 1, none⟩) lp).trans p1, (b2.cell (p := ⟨w.heap.size + 1, 2, none⟩) lq).trans q2, (b2.cell (p := ⟨b, off + f, none⟩) lb1).trans x1⟩) (fun hHeld => ?_)
  clear hK K
  try simp only [List.getElem_toArray, List.getElem_cons_zero, List.getElem_cons_succ, Act.put, List.setIfInBounds_toArray, List.set_cons_zero, List.set_cons_succ]
  have hlk := look_int (P := Tryz.prog) (i := 3) 4 (.func (.func 189) #[] #[]) Tryz.underlying170 Tryz.underlying3 hmb rfl
  refine wpAnyH_ready (rs := [3]) (by kernel_rfl) (by simp) ?_
  refine AllReadyH.cons rfl (fun K hK => ?_) AllReadyH.nil
  go_simp
  refine hK.out _ _ hHeld (fun hHeld => ?_)
  clear hK K hlk
  try simp only [List.getElem_toArray, List.getElem_cons_zero, List.getElem_cons_succ, Act.put, List.setIfInBounds_toArray, List.set_cons_zero, List.set_cons_succ]
  refine wpAnyH_ready (rs := [10]) (by kernel_rfl) (by simp) ?_
  refine AllReadyH.cons rfl (fun K hK => ?_) AllReadyH.nil
  go_simp
  refine (t3_any x _ (by omega)).mono ?_; rintro e wq ⟨rfl, rfl⟩; have b3 := b2
  refine hK.out _ _ (⟨(b3.cell (p := ⟨w.heap.size, 0, none⟩) lp).trans p0, (b3.cell (p := ⟨w.heap.size, 1, none⟩) lp).trans p1, (b3.cell (p := ⟨w.heap.size + 1, 2, none⟩) lq).trans q2, (b3.cell (p := ⟨b, off + f, none⟩) lb1).trans x1⟩) (fun hHeld => ?_)
  clear hK K
  try simp only [List.getElem_toArray, List.getElem_cons_zero, List.getElem_cons_succ, Act.put, List.setIfInBounds_toArray, List.set_cons_zero, List.set_cons_succ]
  refine tH 11 (h := ?_)
  refine wpAnyH_done (by kernel_rfl) ?_ _
  refine NoPanic.normal ?_
  go_wp2_with fail
  go_ret
  exact ⟨HY.out, HB0.out.trans (b3.mono HB0.out.size)⟩
set_option maxHeartbeats 4000000 in
theorem part_5 (f : Nat) (i ver : Int) (sv : Value) (vals : List (List UInt8)) (w : World) (h : Vec w Any1 1 encS sv vals) (hf : f < vals.length) (hn : vals.length ≤ 1000000) (h0 : vals.getD f [] ≠ []) (hs : (vals.getD f []).length ≤ 1000) (has : ascii (vals.getD f [])) :
    Calls Tryz.prog 67 #[.agg #[.int .i64 f, .int .i64 5], .agg #[.int .i64 i, .int .i64 ver, sv]] w fun e w' => e = .returned (strV (transN 5 (vals.getD f []))) ∧ Below w.heap.size w w' := by
  obtain ⟨a, cap, rfl⟩ := h.slice
  obtain ⟨b, off, rfl, lb, hc⟩ := h.get f hf
  have c0 := hc 0 _ rfl
  rw [Nat.mul_one, Nat.add_zero] at c0
  obtain ⟨x, hx⟩ : ∃ x, vals.getD f [] = x := ⟨_, rfl⟩
  have hx2 : vals[f] = x := by rw [← hx, List.getD, List.getElem?_eq_getElem hf]; rfl
  rw [hx2] at c0
  rw [hx] at h0 hs has ⊢
  obtain ⟨y, hy⟩ : ∃ y, transN 5 x = y := ⟨_, rfl⟩
  have hy2 : numL x = y := by rw [← hy]; rfl
  rw [hy]
  have hex : x.isEmpty = false := by simpa using h0
  have hfi : (f : Int) < (vals.length : Int) := by omega
  have HAs := Lib.hid has; have HY := Lib.hid (show Ending.returned (strV (numL x)) = .returned (strV y) by rw [hy2])
  clear h hc h0 hx hx2 has hy hy2
  go_enter Tryz.func67, Tryz.ntmps67
  go_wp2_with fail
  refine wp_world (fun W hW => ?_)
  have hb0 : Below w.heap.size w W := by rw [hW]; exact ((Below.refl w.heap.size w).alloc (Nat.le_refl _) _).alloc (by simp) _
  have hp0 : W.heap[w.heap.size]? = some (.cells #[.int .i64 f, .int .i64 5] 31 (0, 0)) := by rw [hW]; exact blk_old (blk_new rfl)
  have hq0 : W.heap[w.heap.size + 1]? = some (.cells #[.int .i64 i, .int .i64 ver, .slice (some ⟨b, off, none⟩) vals.length cap] 29 (0, 0)) := by rw [hW]; exact blk_new (by simp)
  clear hW
  have x1 := (hb0.cell (p := ⟨b, off + f, none⟩) lb).trans c0
  have lb1 : b < W.heap.size := Nat.lt_of_lt_of_le lb hb0.size
  obtain ⟨p0, p1⟩ := cells2K hp0; obtain ⟨q0, q1, q2⟩ := cells3 hq0
  have lp := lt_of_blk hp0; have lq := lt_of_blk hq0
  have HB0 := Lib.hid hb0
  clear hp0 hq0 hb0 c0
  have bD : Below W.heap.size W W.drew := (Below.refl _ _).drew
  refine wp_region_noPanic ?_
  refine wp_region_held_drew (S := (fun w' => w'.cell? ⟨w.heap.size, 0, none⟩ = some (.int .i64 f) ∧ w'.cell? ⟨w.heap.size, 1, none⟩ = some (.int .i64 5) ∧ w'.cell? ⟨w.heap.size + 1, 2, none⟩ = some (.slice (some ⟨b, off, none⟩) vals.length cap) ∧ w'.cell? ⟨b, off + f, none⟩ = some (strV x))) (by kernel_rfl) (⟨p0, p1, q2, x1⟩) (fun hHeld => ?_)
  refine tH 1 (h := ?_)
  refine tH 2 (h := ?_)
  refine tH 4 (h := ?_)
  refine tH 5 (h := ?_)
  refine tH 6 (h := ?_)
  refine tH 7 (h := ?_)
  refine tH 8 (h := ?_)
  refine tH 9 (h := ?_)
  refine wpAnyH_ready (rs := [0]) (by kernel_rfl) (by simp) ?_
  refine AllReadyH.cons rfl (fun K hK => ?_) AllReadyH.nil
  go_simp
  refine (trans_any _).mono ?_; rintro e w2 ⟨mb, rfl, hmb, hmz, hb⟩; have b2 := bD.trans hb; clear hb
  refine hK.out _ _ (⟨(b2.cell (p := ⟨w.heap.size, 0, none⟩) lp).trans p0, (b2.cell (p := ⟨w.heap.size, 1, none⟩) lp).trans p1, (b2.cell (p := ⟨w.heap.size + 1, 2, none⟩) lq).trans q2, (b2.cell (p := ⟨b, off + f, none⟩) lb1).trans x1⟩) (fun hHeld => ?_)
  clear hK K
  try simp only [List.getElem_toArray, List.getElem_cons_zero, List.getElem_cons_succ, Act.put, List.setIfInBounds_toArray, List.set_cons_zero, List.set_cons_succ]
  have hlk := look_int (P := Tryz.prog) (i := 4) 5 (.func (.func 190) #[] #[]) Tryz.underlying170 Tryz.underlying3 hmb rfl
  refine wpAnyH_ready (rs := [3]) (by kernel_rfl) (by simp) ?_
  refine AllReadyH.cons rfl (fun K hK => ?_) AllReadyH.nil
  go_simp
  refine hK.out _ _ hHeld (fun hHeld => ?_)
  clear hK K hlk
  try simp only [List.getElem_toArray, List.getElem_cons_zero, List.getElem_cons_succ, Act.put, List.setIfInBounds_toArray, List.set_cons_zero, List.set_cons_succ]
  refine wpAnyH_ready (rs := [10]) (by kernel_rfl) (by simp) ?_
  refine AllReadyH.cons rfl (fun K hK => ?_) AllReadyH.nil
  go_simp
  refine (anum_any x _ HAs.out (by omega)).mono ?_; rintro e wq ⟨rfl, hb⟩; have b3 := b2.trans (hb.mono b2.size); clear hb
  refine hK.out _ _ (⟨(b3.cell (p := ⟨w.heap.size, 0, none⟩) lp).trans p0, (b3.cell (p := ⟨w.heap.size, 1, none⟩) lp).trans p1, (b3.cell (p := ⟨w.heap.size + 1, 2, none⟩) lq).trans q2, (b3.cell (p := ⟨b, off + f, none⟩) lb1).trans x1⟩) (fun hHeld => ?_)
  clear hK K
  try simp only [List.getElem_toArray, List.getElem_cons_zero, List.getElem_cons_succ, Act.put, List.setIfInBounds_toArray, List.set_cons_zero, List.set_cons_succ]
  refine tH 11 (h := ?_)
  refine wpAnyH_done (by kernel_rfl) ?_ _
  refine NoPanic.normal ?_
  go_wp2_with fail
  go_ret
  exact ⟨HY.out, HB0.out.trans (b3.mono HB0.out.size)⟩
theorem part_yes (f : Nat) (t i ver : Int) (sv : Value) (vals : List (List UInt8)) (w : World) (h : Vec w Any1 1 encS sv vals) (hf : f < vals.length) (hn : vals.length ≤ 1000000) (ht : 1 ≤ t ∧ t ≤ 5) (hs : (vals.getD f []).length ≤ 1000) (has : t = 2 ∨ t = 5 → ascii (vals.getD f [])) :
    Calls Tryz.prog 67 #[.agg #[.int .i64 f, .int .i64 t], .agg #[.int .i64 i, .int .i64 ver, sv]] w fun e w' => e = .returned (strV (partN t (vals.getD f []))) ∧ Below w.heap.size w w' := by
  unfold partN
  by_cases h0 : vals.getD f [] = []
  · rw [if_pos h0]; exact part_none f t i ver sv vals w h hf hn h0
  · rw [if_neg h0]
    obtain ⟨t1, t2⟩ := ht
    rcases (by omega : t = 1 ∨ t = 2 ∨ t = 3 ∨ t = 4 ∨ t = 5) with rfl | rfl | rfl | rfl | rfl
    · exact part_1 f i ver sv vals w h hf hn h0 hs
    · exact part_2 f i ver sv vals w h hf hn h0 hs (has (.inl rfl))
    · exact part_3 f i ver sv vals w h hf hn h0 hs
    · exact part_4 f i ver sv vals w h hf hn h0 hs
    · exact part_5 f i ver sv vals w h hf hn h0 hs (has (.inr rfl))
end
section
open Go.RowKit
theorem getD_at {α : Type} (l : List α) (d : α) {i : Nat} (h : i < l.length) : l.getD i d = l[i] := by rw [List.getD, List.getElem?_eq_getElem h]; rfl
def cmp3 (x y : Int) : Int := if x < y then -1 else if y < x then 1 else 0
theorem cmp3_self (x : Int) : cmp3 x x = 0 := by unfold cmp3; simp
theorem cmp3_eq {x y : Int} (h : cmp3 x y = 0) : x = y := by
  unfold cmp3 at h
  split at h
  · simp at h
  · split at h
    · simp at h
    · omega
/-- the first that is not zero -/
def orN : List Int → Int
  | [] => 0
  | x :: l => if x = 0 then orN l else x
end
section
set_option maxRecDepth 100000
open Go.RowKit
theorem nanU_any (x : Int) (w : World) : Calls Tryz.prog 168 #[.int .u64 x] w fun e w' => e = .returned (.bool false) ∧ w = w' := by
  have h1 : (x != x) = false := by simp
  go_enter Tryz.func168, Tryz.ntmps168
  go_wp2_with fail
  go_ret
  exact ⟨by simp, rfl⟩
theorem nanI_any (x : Int) (w : World) : Calls Tryz.prog 201 #[.int .i64 x] w fun e w' => e = .returned (.bool false) ∧ w = w' := by
  have h1 : (x != x) = false := by simp
  go_enter Tryz.func201, Tryz.ntmps201
  go_wp2_with fail
  go_ret
  exact ⟨by simp, rfl⟩
set_option maxHeartbeats 1000000 in
theorem cmpU_any (x y : Int) (w : World) : Calls Tryz.prog 113 #[.int .u64 x, .int .u64 y] w fun e w' => e = .returned (.int .i64 (cmp3 x y)) ∧ w = w' := by
  obtain ⟨c, hc⟩ : ∃ c, cmp3 x y = c := ⟨_, rfl⟩
  rw [hc]
  unfold cmp3 at hc
  go_enter Tryz.func113, Tryz.ntmps113
  go_wp2_with fail
  refine (nanU_any x _).mono ?_
  rintro e w1 ⟨rfl, rfl⟩
  go_wp2_with fail
  refine (nanU_any y _).mono ?_
  rintro e w1 ⟨rfl, rfl⟩
  by_cases h1 : x < y
  · have d1 : decide (x < y) = true := by simpa using h1
    rw [if_pos h1] at hc; subst hc
    go_wp2_with fail
    go_ret
    exact ⟨rfl, rfl⟩
  · have d1 : decide (x < y) = false := by simpa using h1
    rw [if_neg h1] at hc
    by_cases h2 : y < x
    · have d2 : decide (y < x) = true := by simpa using h2
      rw [if_pos h2] at hc; subst hc
      go_wp2_with fail
      go_ret
      exact ⟨rfl, rfl⟩
    · have d2 : decide (y < x) = false := by simpa using h2
      rw [if_neg h2] at hc; subst hc
      go_wp2_with fail
      go_ret
      exact ⟨rfl, rfl⟩
set_option maxHeartbeats 1000000 in
theorem cmpI_any (x y : Int) (w : World) : Calls Tryz.prog 147 #[.int .i64 x, .int .i64 y] w fun e w' => e = .returned (.int .i64 (cmp3 x y)) ∧ w = w' := by
  obtain ⟨c, hc⟩ : ∃ c, cmp3 x y = c := ⟨_, rfl⟩
  rw [hc]
  unfold cmp3 at hc
  go_enter Tryz.func147, Tryz.ntmps147
  go_wp2_with fail
  refine (nanI_any x _).mono ?_
  rintro e w1 ⟨rfl, rfl⟩
  go_wp2_with fail
  refine (nanI_any y _).mono ?_
  rintro e w1 ⟨rfl, rfl⟩
  by_cases h1 : x < y
  · have d1 : decide (x < y) = true := by simpa using h1
    rw [if_pos h1] at hc; subst hc
    go_wp2_with fail
    go_ret
    exact ⟨rfl, rfl⟩
  · have d1 : decide (x < y) = false := by simpa using h1
    rw [if_neg h1] at hc
    by_cases h2 : y < x
    · have d2 : decide (y < x) = true := by simpa using h2
      rw [if_pos h2] at hc; subst hc
      go_wp2_with fail
      go_ret
      exact ⟨rfl, rfl⟩
    · have d2 : decide (y < x) = false := by simpa using h2
      rw [if_neg h2] at hc; subst hc
      go_wp2_with fail
      go_ret
      exact ⟨rfl, rfl⟩
/-- numbers of a slice of ints -/
abbrev encZ (x : Int) : List Value := [.int .i64 x]
set_option maxHeartbeats 1000000 in
theorem orI_any (v : Value) (L : List Int) (w : World) (h : Vec w Any1 1 encZ v L) (hn : L.length ≤ 1000000) :
    Calls Tryz.prog 146 #[v] w fun e w' => e = .returned (.int .i64 (orN L)) ∧ w = w' := by
  obtain ⟨a, cap, rfl⟩ := h.slice
  have HV := Lib.hid h; clear h
  obtain ⟨r, hr⟩ : ∃ r, orN L = r := ⟨_, rfl⟩
  rw [hr]
  have HR := Lib.hid hr; clear hr
  go_enter Tryz.func146, Tryz.ntmps146
  go_wp2_with fail
  go_loopw [8] (fun i wr => wr = w ∧ ∃ k : Nat, i = .int .i64 k ∧ k ≤ L.length ∧ Hid (orN (L.drop k) = r)) (fun i _ => L.length - (intOf i).toNat)
  case atStart => exact ⟨rfl, 0, rfl, by omega, Lib.hid HR.out⟩
  case round =>
    obtain ⟨rfl, k, rfl, hk, HT⟩ := hrel
    by_cases hlt : k < L.length
    · have hq : decide ((k : Int) < L.length) = true := by simp; omega
      obtain ⟨b, off, rfl, hb, hc⟩ := HV.out.get k hlt
      have c0 := hc 0 _ rfl
      rw [Nat.mul_one, Nat.add_zero] at c0
      have hd := List.drop_eq_getElem_cons hlt
      have ht := HT.out
      rw [hd] at ht
      obtain ⟨x, hx⟩ : ∃ x, L[k] = x := ⟨_, rfl⟩
      rw [hx] at c0 ht
      clear HT hd hx hc
      by_cases h0 : x = 0
      · subst h0
        unfold orN at ht
        rw [if_pos rfl] at ht
        have HT := Lib.hid ht; clear ht
        have d0 : ((0 : Int) != 0) = false := rfl
        go_wp2_with fail
        go_roundw
        case rel => exact ⟨trivial, k + 1, by go_num, by omega, HT⟩
        case measure => simp [intOf]; omega
      · have d0 : (x != (0 : Int)) = true := by simpa using h0
        unfold orN at ht
        rw [if_neg h0] at ht
        subst ht
        go_wp2_with fail
        go_ret
        exact ⟨rfl, rfl⟩
    · have hq : decide ((k : Int) < L.length) = false := by simp; omega
      have ht := HT.out
      rw [List.drop_eq_nil_of_le (by omega)] at ht
      unfold orN at ht
      subst ht
      clear HT
      go_wp2_with fail
      go_ret
      exact ⟨rfl, rfl⟩
end
section
set_option maxRecDepth 100000
open Go.RowKit
def fitsB (t k : Int) : Bool := if t = 1 ∨ t = 3 then true else if t = 2 then decide (k = 1) else if t = 4 then decide (k = 2) else if t = 5 then decide (k = 4) else false
set_option maxHeartbeats 2000000 in
theorem fits_any (t k : Int) (w : World) : Calls Tryz.prog 124 #[.int .i64 t, .int .i64 k] w fun e w' => e = .returned (.bool (fitsB t k)) ∧ w = w' := by
  obtain ⟨r, hr⟩ : ∃ r, fitsB t k = r := ⟨_, rfl⟩
  rw [hr]
  unfold fitsB at hr
  have b1 := beq_dec k 1; have b2 := beq_dec k 2; have b4 := beq_dec k 4
  by_cases h1 : t = 1
  · subst h1
    have hr2 : true = r := hr
    subst hr2; clear hr
    go_enter Tryz.func124, Tryz.ntmps124
    go_wp2_with fail
    go_ret
    exact ⟨rfl, rfl⟩
  by_cases h3 : t = 3
  · subst h3
    have hr2 : true = r := hr
    subst hr2; clear hr
    go_enter Tryz.func124, Tryz.ntmps124
    go_wp2_with fail
    go_ret
    exact ⟨rfl, rfl⟩
  rw [if_neg (by omega)] at hr
  have d1 : (t == (1 : Int)) = false := by simpa using h1
  have d3 : (t == (3 : Int)) = false := by simpa using h3
  by_cases h2 : t = 2
  · subst h2
    have hr2 : decide (k = 1) = r := hr
    have HR := Lib.hid (show Ending.returned (.bool (k == 1)) = .returned (.bool r) by rw [b1, hr2])
    clear hr hr2 b1 b2 b4
    go_enter Tryz.func124, Tryz.ntmps124
    go_wp2_with fail
    go_ret
    exact ⟨HR.out, rfl⟩
  rw [if_neg h2] at hr
  have d2 : (t == (2 : Int)) = false := by simpa using h2
  by_cases h4 : t = 4
  · subst h4
    have hr2 : decide (k = 2) = r := hr
    have HR := Lib.hid (show Ending.returned (.bool (k == 2)) = .returned (.bool r) by rw [b2, hr2])
    clear hr hr2 b1 b2 b4
    go_enter Tryz.func124, Tryz.ntmps124
    go_wp2_with fail
    go_ret
    exact ⟨HR.out, rfl⟩
  rw [if_neg h4] at hr
  have d4 : (t == (4 : Int)) = false := by simpa using h4
  by_cases h5 : t = 5
  · subst h5
    have hr2 : decide (k = 4) = r := hr
    have HR := Lib.hid (show Ending.returned (.bool (k == 4)) = .returned (.bool r) by rw [b4, hr2])
    clear hr hr2 b1 b2 b4
    go_enter Tryz.func124, Tryz.ntmps124
    go_wp2_with fail
    go_ret
    exact ⟨HR.out, rfl⟩
  rw [if_neg h5] at hr
  have d5 : (t == (5 : Int)) = false := by simpa using h5
  subst hr
  clear b1 b2 b4 h1 h2 h3 h4 h5
  go_enter Tryz.func124, Tryz.ntmps124
  go_wp2_with fail
  go_ret
  exact ⟨rfl, rfl⟩
set_option maxHeartbeats 4000000 in
/-- of a field that there is -/
theorem right_in (S : Nat → Prop) (vf vt vn vs : Value) (F : List F2) (f : Nat) (t : Int) (w : World) (h : Vec w S 2 encF vf F) (hf : f < F.length) (hn : F.length ≤ 1000000) :
    Calls Tryz.prog 66 #[.agg #[vf, vt, vn, vs], .agg #[.int .i64 f, .int .i64 t]] w fun e w' => e = .returned (.bool (fitsB t (F.getD f default).2)) ∧ Below w.heap.size w w' := by
  obtain ⟨a, cap, rfl⟩ := h.slice
  obtain ⟨b, off, rfl, lb, hc⟩ := h.get f hf
  have c1 := hc 1 _ rfl
  obtain ⟨kk, hk⟩ : ∃ kk, (F.getD f default).2 = kk := ⟨_, rfl⟩
  have hk2 : F[f].2 = kk := by rw [← hk, List.getD, List.getElem?_eq_getElem hf]; rfl
  rw [hk2] at c1
  rw [hk]
  have d0 : decide ((0 : Int) ≤ (f : Int)) = true := by simp
  have hfi : decide ((f : Int) < (F.length : Int)) = true := by simp; omega
  have hfi2 : (f : Int) < (F.length : Int) := by omega
  clear h hc hk hk2
  go_enter Tryz.func66, Tryz.ntmps66
  go_wp2_with fail
  refine wp_world (fun W hW => ?_)
  have hb0 : Below w.heap.size w W := by rw [hW]; exact ((Below.refl w.heap.size w).alloc (Nat.le_refl _) _).alloc (by simp) _
  have hs0 : W.heap[w.heap.size]? = some (.cells #[.slice (some ⟨b, off, none⟩) F.length cap, vt, vn, vs] 43 (0, 0)) := by rw [hW]; exact blk_old (blk_new rfl)
  have hq0 : W.heap[w.heap.size + 1]? = some (.cells #[.int .i64 f, .int .i64 t] 31 (0, 0)) := by rw [hW]; exact blk_new (by simp)
  clear hW
  have x1 := (hb0.cell (p := ⟨b, off + f * 2 + 1, none⟩) lb).trans c1
  obtain ⟨s0, s1, s2, s3⟩ := cellsS hs0; obtain ⟨q0, q1⟩ := cells2K hq0
  have HB0 := Lib.hid hb0
  clear hs0 hq0 hb0 c1
  refine wp_region_noPanic ?_
  refine wp_region_held_drew (S := (fun w' => w'.cell? ⟨w.heap.size, 0, none⟩ = some (.slice (some ⟨b, off, none⟩) F.length cap) ∧ w'.cell? ⟨w.heap.size + 1, 0, none⟩ = some (.int .i64 f) ∧ w'.cell? ⟨w.heap.size + 1, 1, none⟩ = some (.int .i64 t) ∧ w'.cell? ⟨b, off + f * 2 + 1, none⟩ = some (.int .i64 kk))) (by kernel_rfl) (⟨s0, q0, q1, x1⟩) (fun hHeld => ?_)
  refine tH 0 (h := ?_)
  refine tH 1 (h := ?_)
  refine tH 2 (h := ?_)
  refine tH 3 (h := ?_)
  refine tH 4 (h := ?_)
  refine tH 5 (h := ?_)
  refine tH 6 (h := ?_)
  refine tH 7 (h := ?_)
  refine tH 8 (h := ?_)
  refine tH 9 (h := ?_)
  refine tH 10 (h := ?_)
  refine tH 11 (h := ?_)
  refine tH 12 (h := ?_)
  refine tH 13 (h := ?_)
  refine tH 14 (h := ?_)
  refine tH 15 (h := ?_)
  refine tH 16 (h := ?_)
  refine tH 17 (h := ?_)
  refine tH 18 (h := ?_)
  refine tH 19 (h := ?_)
  refine tH 20 (h := ?_)
  refine wpAnyH_ready (rs := [21]) (by kernel_rfl) (by simp) ?_
  refine AllReadyH.cons rfl (fun K hK => ?_) AllReadyH.nil
  go_simp
  refine (fits_any _ _ _).mono ?_; rintro e wq ⟨rfl, rfl⟩
  refine hK.out _ _ (⟨s0, q0, q1, x1⟩) (fun hHeld => ?_)
  clear hK K
  try simp only [List.getElem_toArray, List.getElem_cons_zero, List.getElem_cons_succ, Act.put, List.setIfInBounds_toArray, List.set_cons_zero, List.set_cons_succ]
  refine tH 22 (h := ?_)
  refine tH 23 (h := ?_)
  refine wpAnyH_done (by kernel_rfl) ?_ _
  refine NoPanic.normal ?_
  go_wp2_with fail
  go_ret
  exact ⟨rfl, HB0.out.drew⟩
def orderC (a b : Int × Int) : Int := orN [cmp3 a.1 b.1, cmp3 a.2 b.2]
set_option maxHeartbeats 4000000 in
theorem order_any (a b : Int × Int) (w : World) :
    Calls Tryz.prog 107 #[.agg #[.int .i64 a.1, .int .i64 a.2], .agg #[.int .i64 b.1, .int .i64 b.2]] w fun e w' => e = .returned (.int .i64 (orderC a b)) ∧ Below w.heap.size w w' := by
  obtain ⟨x, hx⟩ : ∃ x, cmp3 a.1 b.1 = x := ⟨_, rfl⟩
  obtain ⟨y, hy⟩ : ∃ y, cmp3 a.2 b.2 = y := ⟨_, rfl⟩
  obtain ⟨r, hr⟩ : ∃ r, orderC a b = r := ⟨_, rfl⟩
  have hr2 : orN [x, y] = r := by rw [← hr, ← hx, ← hy]; rfl
  rw [hr]
  have HX := Lib.hid hx; have HY := Lib.hid hy; have HR := Lib.hid hr2
  clear hx hy hr hr2
  go_enter Tryz.func107, Tryz.ntmps107
  go_wp2_with fail
  refine wp_world (fun W hW => ?_)
  have hb0 : Below w.heap.size w W := by rw [hW]; exact ((Below.refl w.heap.size w).alloc (Nat.le_refl _) _).alloc (by simp) _
  have ha0 : W.heap[w.heap.size]? = some (.cells #[.int .i64 a.1, .int .i64 a.2] 31 (0, 0)) := by rw [hW]; exact blk_old (blk_new rfl)
  have he0 : W.heap[w.heap.size + 1]? = some (.cells #[.int .i64 b.1, .int .i64 b.2] 31 (0, 0)) := by rw [hW]; exact blk_new (by simp)
  clear hW
  have HB0 := Lib.hid hb0
  obtain ⟨a0, a1⟩ := cells2K ha0; obtain ⟨b0, b1⟩ := cells2K he0
  have hwz := lt_of_blk he0
  clear ha0 he0 hb0
  refine wp_region_noPanic ?_
  refine wp_region_held_drew (S := (fun w' => w'.cell? ⟨w.heap.size, 0, none⟩ = some (.int .i64 a.1) ∧ w'.cell? ⟨w.heap.size, 1, none⟩ = some (.int .i64 a.2) ∧ w'.cell? ⟨w.heap.size + 1, 0, none⟩ = some (.int .i64 b.1) ∧ w'.cell? ⟨w.heap.size + 1, 1, none⟩ = some (.int .i64 b.2))) (by kernel_rfl) (⟨a0, a1, b0, b1⟩) (fun hHeld => ?_)
  refine tH 0 (h := ?_)
  refine tH 1 (h := ?_)
  refine tH 2 (h := ?_)
  refine tH 3 (h := ?_)
  refine tH 5 (h := ?_)
  refine tH 6 (h := ?_)
  refine tH 7 (h := ?_)
  refine tH 8 (h := ?_)
  refine wpAnyH_ready (rs := [4]) (by kernel_rfl) (by simp) ?_
  refine AllReadyH.cons rfl (fun K hK => ?_) AllReadyH.nil
  go_simp
  refine (cmpI_any _ _ _).mono ?_; rw [HX.out]; rintro e w1 ⟨rfl, rfl⟩
  refine hK.out _ _ (⟨a0, a1, b0, b1⟩) (fun hHeld => ?_)
  clear hK K
  try simp only [List.getElem_toArray, List.getElem_cons_zero, List.getElem_cons_succ, Act.put, List.setIfInBounds_toArray, List.set_cons_zero, List.set_cons_succ]
  refine wpAnyH_ready (rs := [9]) (by kernel_rfl) (by simp) ?_
  refine AllReadyH.cons rfl (fun K hK => ?_) AllReadyH.nil
  go_simp
  refine (cmpI_any _ _ _).mono ?_; rw [HY.out]; rintro e w1 ⟨rfl, rfl⟩
  refine hK.out _ _ (⟨a0, a1, b0, b1⟩) (fun hHeld => ?_)
  clear hK K
  try simp only [List.getElem_toArray, List.getElem_cons_zero, List.getElem_cons_succ, Act.put, List.setIfInBounds_toArray, List.set_cons_zero, List.set_cons_succ]
  refine wpAnyH_ready (rs := [10]) (by kernel_rfl) (by simp) ?_
  refine AllReadyH.cons rfl (fun K hK => ?_) AllReadyH.nil
  go_simp
  refine hK.out _ _ (⟨((Below.refl W.heap.size W).drew.alloc (Nat.le_refl _) _).cell (p := ⟨w.heap.size, 0, none⟩) (by show w.heap.size < _; omega) |>.trans a0, ((Below.refl W.heap.size W).drew.alloc (Nat.le_refl _) _).cell (p := ⟨w.heap.size, 1, none⟩) (by show w.heap.size < _; omega) |>.trans a1, ((Below.refl W.heap.size W).drew.alloc (Nat.le_refl _) _).cell (p := ⟨w.heap.size + 1, 0, none⟩) hwz |>.trans b0, ((Below.refl W.heap.size W).drew.alloc (Nat.le_refl _) _).cell (p := ⟨w.heap.size + 1, 1, none⟩) hwz |>.trans b1⟩) (fun hHeld => ?_)
  clear hK K
  try simp only [List.getElem_toArray, List.getElem_cons_zero, List.getElem_cons_succ, Act.put, List.setIfInBounds_toArray, List.set_cons_zero, List.set_cons_succ]
  refine wph_name (fun W1 hW1 => ?_)
  have hb1 : Below w.heap.size w W1 := by rw [hW1]; exact HB0.out.drew.alloc (by have := HB0.out.size; simpa using this) _
  have hv1 : Vec W1 Any1 1 encZ (.slice (some ⟨W.heap.size, 0, none⟩) 2 2) [x, y] := by rw [hW1]; exact blockVec (k := 1) (enc := encZ) (L := [x, y]) (S := Any1) (A := W.heap.size) (fun _ => rfl) (blk_new rfl) trivial 2 rfl
  have hHeld2 := hHeld
  rw [← hW1] at hHeld2
  clear hHeld hW1
  have hHeld := hHeld2; clear hHeld2
  have HV1 := Lib.hid hv1; have HB1 := Lib.hid hb1
  clear hv1 hb1
  refine wpAnyH_ready (rs := [11]) (by kernel_rfl) (by simp) ?_
  refine AllReadyH.cons rfl (fun K hK => ?_) AllReadyH.nil
  go_simp
  refine (orI_any _ [x, y] _ HV1.out (by simp)).mono ?_; rw [HR.out]; rintro e w1 ⟨rfl, rfl⟩
  refine hK.out _ _ (hHeld) (fun hHeld => ?_)
  clear hK K
  try simp only [List.getElem_toArray, List.getElem_cons_zero, List.getElem_cons_succ, Act.put, List.setIfInBounds_toArray, List.set_cons_zero, List.set_cons_succ]
  refine tH 12 (h := ?_)
  refine wpAnyH_done (by kernel_rfl) ?_ _
  refine NoPanic.normal ?_
  go_wp2_with fail
  go_ret
  exact ⟨rfl, HB1.out⟩
end
section
set_option maxRecDepth 100000
open Go.RowKit
/-- the cells of a component -/
abbrev encC (c : Int × Int) : List Value := [.int .i64 c.1, .int .i64 c.2]
structure KeyOk (F : List F2) (K : List (Int × Int)) : Prop where
  len1 : 1 ≤ K.length
  len2 : K.length ≤ 3
  fit : ∀ c ∈ K, 0 ≤ c.1 ∧ c.1 < F.length ∧ fitsB c.2 (F.getD c.1.toNat default).2 = true
  asc : ∀ i, i + 1 < K.length → orderC (K.getD i (0, 0)) (K.getD (i + 1) (0, 0)) < 0
set_option maxHeartbeats 8000000 in
theorem bkey_yes (S T : Nat → Prop) (vf vt vn vs kv : Value) (F : List F2) (K : List (Int × Int)) (w : World) (h : Vec w S 2 encF vf F) (hk : Vec w T 2 encC kv K) (hn : F.length ≤ 1000000) (ok : KeyOk F K) :
    Calls Tryz.prog 51 #[.agg #[vf, vt, vn, vs], .agg #[kv]] w fun e w' => e = .returned (.int .i64 0) ∧ Below w.heap.size w w' := by
  obtain ⟨ak, ck, rfl⟩ := hk.slice
  have HF := Lib.hid h; have HK := Lib.hid hk; have HOk := Lib.hid ok
  have l1 := ok.len1; have l2 := ok.len2
  have d1 : decide ((K.length : Int) < 1) = false := by simp; omega
  have d2 : decide ((3 : Int) < (K.length : Int)) = false := by simp; omega
  clear h hk ok
  go_enter Tryz.func51, Tryz.ntmps51
  go_wp2_with fail
  refine wp_world (fun W hW => ?_)
  have hb0 : Below w.heap.size w W := by rw [hW]; exact ((Below.refl w.heap.size w).alloc (Nat.le_refl _) _).alloc (by simp) _
  have hs0 : W.heap[w.heap.size]? = some (.cells #[vf, vt, vn, vs] 43 (0, 0)) := by rw [hW]; exact blk_old (blk_new rfl)
  have hq0 : W.heap[w.heap.size + 1]? = some (.cells #[.slice ak K.length ck] 51 (0, 0)) := by rw [hW]; exact blk_new (by simp)
  clear hW
  have HB0 := Lib.hid hb0; have HS0 := Lib.hid hs0; have HQ0 := Lib.hid hq0
  clear hb0 hs0 hq0 d1 d2
  go_loopw [20] (fun i wr => ∃ j : Nat, i = .int .i64 j ∧ j ≤ K.length ∧ Below W.heap.size W wr) (fun i _ => K.length - (intOf i).toNat)
  case atStart => exact ⟨0, rfl, by omega, Below.refl _ _⟩
  case round =>
    obtain ⟨j, rfl, hj, hbw⟩ := hrel
    have HBW := Lib.hid hbw
    by_cases hlt : j < K.length
    · have hq : decide ((j : Int) < (K.length : Int)) = true := by simp; omega
      have hji : (j : Int) < (K.length : Int) := by omega
      have hbw0 := HB0.out.trans (hbw.mono HB0.out.size)
      obtain ⟨b, off, rfl, lb, hc⟩ := (HK.out.below hbw0).get j hlt
      have c0 := hc 0 _ rfl; have c1 := hc 1 _ rfl
      obtain ⟨⟨f, t⟩, hx⟩ : ∃ x, K[j] = x := ⟨_, rfl⟩
      have hfit := HOk.out.fit K[j] (List.getElem_mem hlt)
      rw [hx] at c0 c1 hfit
      obtain ⟨hf0, hfF, hft⟩ := hfit
      dsimp only at c0 c1 hf0 hfF hft
      rw [Nat.add_zero] at c0
      obtain ⟨fn, rfl⟩ : ∃ fn : Nat, f = fn := ⟨f.toNat, by omega⟩
      have hft2 : fitsB t (F.getD fn default).2 = true := hft
      have HFT := Lib.hid hft2
      have hs1 := blk_below hbw (lt_of_blk HS0.out) HS0.out; have hq1 := blk_below hbw (lt_of_blk HQ0.out) HQ0.out
      clear hbw hc hft hft2
      go_wp2_with fail
      refine wp_world (fun Wc hWc => ?_)
      have hbc : Below wr.heap.size wr Wc := by rw [hWc]; exact (Below.refl wr.heap.size wr).alloc (Nat.le_refl _) _
      have hc0 : Wc.heap[wr.heap.size]? = some (.cells #[.int .i64 fn, .int .i64 t] 31 (0, 0)) := by rw [hWc]; exact blk_new rfl
      clear hWc
      have hs2 := blk_below hbc (lt_of_blk hs1) hs1; have hq2 := blk_below hbc (lt_of_blk hq1) hq1
      obtain ⟨s0, s1, s2, s3⟩ := cellsS hs2; obtain ⟨k0, k1⟩ := cells2K hc0
      have q0 : Wc.cell? ⟨w.heap.size + 1, 0, none⟩ = some (.slice (some ⟨b, off, none⟩) K.length ck) := by rw [cell_of_row _ _ _ _ _ _ hq2]; rfl
      have ls := lt_of_blk hs2; have lq := lt_of_blk hq2; have lc := lt_of_blk hc0
      have HFC := Lib.hid (HF.out.below (hbw0.trans (hbc.mono hbw0.size)))
      have HBC := Lib.hid hbc
      have bD : Below Wc.heap.size Wc Wc.drew := (Below.refl _ _).drew
      by_cases hj0 : j = 0
      · have g0 : decide ((0 : Int) < (j : Int)) = false := by simp; omega
        have g0n : decide (0 < j) = false := by simp; omega
        clear hs1 hq1 hc0 hs2 hq2 hbc c0 c1 hj0
        refine wp_region_noPanic ?_
        refine wp_region_held_drew (S := (fun w' => w'.cell? ⟨w.heap.size, 0, none⟩ = some (vf) ∧ w'.cell? ⟨w.heap.size, 1, none⟩ = some (vt) ∧ w'.cell? ⟨w.heap.size, 2, none⟩ = some (vn) ∧ w'.cell? ⟨w.heap.size, 3, none⟩ = some (vs) ∧ w'.cell? ⟨w.heap.size + 1, 0, none⟩ = some (.slice (some ⟨b, off, none⟩) K.length ck) ∧ w'.cell? ⟨wr.heap.size, 0, none⟩ = some (.int .i64 fn) ∧ w'.cell? ⟨wr.heap.size, 1, none⟩ = some (.int .i64 t))) (by kernel_rfl) (⟨s0, s1, s2, s3, q0, k0, k1⟩) (fun hHeld => ?_)
        refine tH 0 (h := ?_)
        refine tH 1 (h := ?_)
        refine wpAnyH_ready (rs := [2]) (by kernel_rfl) (by simp) ?_
        refine AllReadyH.cons rfl (fun K hK => ?_) AllReadyH.nil
        go_simp
        refine (right_in S _ _ _ _ F fn t _ (HFC.out.below bD) (by omega) hn).mono ?_; rw [HFT.out]; rintro e w2 ⟨rfl, hb⟩; have b2 := bD.trans hb; clear hb
        refine hK.out _ _ (⟨(b2.cell (p := ⟨w.heap.size, 0, none⟩) ls).trans s0, (b2.cell (p := ⟨w.heap.size, 1, none⟩) ls).trans s1, (b2.cell (p := ⟨w.heap.size, 2, none⟩) ls).trans s2, (b2.cell (p := ⟨w.heap.size, 3, none⟩) ls).trans s3, (b2.cell (p := ⟨w.heap.size + 1, 0, none⟩) lq).trans q0, (b2.cell (p := ⟨wr.heap.size, 0, none⟩) lc).trans k0, (b2.cell (p := ⟨wr.heap.size, 1, none⟩) lc).trans k1⟩) (fun hHeld => ?_)
        clear hK K
        try simp only [List.getElem_toArray, List.getElem_cons_zero, List.getElem_cons_succ, Act.put, List.setIfInBounds_toArray, List.set_cons_zero, List.set_cons_succ]
        refine tH 3 (h := ?_)
        refine tH 4 (h := ?_)
        refine tH 5 (h := ?_)
        refine tH 6 (h := ?_)
        refine tH 7 (h := ?_)
        refine sH 8 (h := ?_)
        refine sH 9 (h := ?_)
        refine sH 10 (h := ?_)
        refine sH 11 (h := ?_)
        refine sH 12 (h := ?_)
        refine sH 13 (h := ?_)
        refine sH 14 (h := ?_)
        refine sH 15 (h := ?_)
        refine sH 16 (h := ?_)
        refine tH 17 (h := ?_)
        refine tH 18 (h := ?_)
        refine wpAnyH_done (by kernel_rfl) ?_ _
        refine NoPanic.normal ?_
        go_wp2_with fail
        go_roundw
        case rel => exact ⟨j + 1, by go_num, by omega, HBW.out.trans ((HBC.out.trans (b2.mono HBC.out.size)).mono HBW.out.size)⟩
        case measure => simp [intOf]; omega
      · obtain ⟨p, hp⟩ : ∃ p, j = p + 1 := ⟨j - 1, by omega⟩
        have g0 : decide ((0 : Int) < (j : Int)) = true := by simp; omega
        have g0n : decide (0 < j) = true := by simp; omega
        have hw1 : IntKind.i64.wrap ((j : Int) - 1) = (p : Int) := by rw [IntKind.wrap_i64]; omega
        have hpi : (p : Int) < (K.length : Int) := by omega
        obtain ⟨b2', off2, e2, -, hcp⟩ := (HK.out.below (hbw0.trans (hbc.mono hbw0.size))).get p (by omega)
        cases e2
        have y0 := hcp 0 _ rfl; have y1 := hcp 1 _ rfl
        rw [Nat.add_zero] at y0
        have hasc := HOk.out.asc p (by omega)
        obtain ⟨⟨f', t'⟩, hx'⟩ : ∃ x, K.getD p (0, 0) = x := ⟨_, rfl⟩
        have hx'' : K[p]'(by omega) = (f', t') := by rw [← hx', List.getD, List.getElem?_eq_getElem (by omega)]; rfl
        have hxc : K.getD (p + 1) (0, 0) = ((fn : Int), t) := by rw [← hx, List.getD, List.getElem?_eq_getElem (by omega)]; simp only [hp]; rfl
        rw [hx', hxc] at hasc
        rw [hx''] at y0 y1
        dsimp only at y0 y1
        obtain ⟨oc, hoc⟩ : ∃ o, orderC (f', t') ((fn : Int), t) = o := ⟨_, rfl⟩
        rw [hoc] at hasc
        have hge : decide ((0 : Int) ≤ oc) = false := by simp; omega
        have HOc := Lib.hid hoc
        have lbc : b < Wc.heap.size := Nat.lt_of_lt_of_le lb hbc.size
        clear hs1 hq1 hc0 hs2 hq2 hbc c0 c1 hj0 hcp hx hx' hx'' hxc hoc hp hasc
        refine wp_region_noPanic ?_
        refine wp_region_held_drew (S := (fun w' => w'.cell? ⟨w.heap.size, 0, none⟩ = some (vf) ∧ w'.cell? ⟨w.heap.size, 1, none⟩ = some (vt) ∧ w'.cell? ⟨w.heap.size, 2, none⟩ = some (vn) ∧ w'.cell? ⟨w.heap.size, 3, none⟩ = some (vs) ∧ w'.cell? ⟨w.heap.size + 1, 0, none⟩ = some (.slice (some ⟨b, off, none⟩) K.length ck) ∧ w'.cell? ⟨wr.heap.size, 0, none⟩ = some (.int .i64 fn) ∧ w'.cell? ⟨wr.heap.size, 1, none⟩ = some (.int .i64 t) ∧ w'.cell? ⟨b, off + p * 2, none⟩ = some (.int .i64 f') ∧ w'.cell? ⟨b, off + p * 2 + 1, none⟩ = some (.int .i64 t'))) (by kernel_rfl) (⟨s0, s1, s2, s3, q0, k0, k1, y0, y1⟩) (fun hHeld => ?_)
        refine tH 0 (h := ?_)
        refine tH 1 (h := ?_)
        refine wpAnyH_ready (rs := [2]) (by kernel_rfl) (by simp) ?_
        refine AllReadyH.cons rfl (fun K hK => ?_) AllReadyH.nil
        go_simp
        refine (right_in S _ _ _ _ F fn t _ (HFC.out.below bD) (by omega) hn).mono ?_; rw [HFT.out]; rintro e w2 ⟨rfl, hb⟩; have b2 := bD.trans hb; clear hb
        refine hK.out _ _ (⟨(b2.cell (p := ⟨w.heap.size, 0, none⟩) ls).trans s0, (b2.cell (p := ⟨w.heap.size, 1, none⟩) ls).trans s1, (b2.cell (p := ⟨w.heap.size, 2, none⟩) ls).trans s2, (b2.cell (p := ⟨w.heap.size, 3, none⟩) ls).trans s3, (b2.cell (p := ⟨w.heap.size + 1, 0, none⟩) lq).trans q0, (b2.cell (p := ⟨wr.heap.size, 0, none⟩) lc).trans k0, (b2.cell (p := ⟨wr.heap.size, 1, none⟩) lc).trans k1, (b2.cell (p := ⟨b, off + p * 2, none⟩) lbc).trans y0, (b2.cell (p := ⟨b, off + p * 2 + 1, none⟩) lbc).trans y1⟩) (fun hHeld => ?_)
        clear hK K
        try simp only [List.getElem_toArray, List.getElem_cons_zero, List.getElem_cons_succ, Act.put, List.setIfInBounds_toArray, List.set_cons_zero, List.set_cons_succ]
        refine tH 3 (h := ?_)
        refine tH 4 (h := ?_)
        refine tH 5 (h := ?_)
        refine tH 6 (h := ?_)
        refine tH 7 (h := ?_)
        refine tH 8 (h := ?_)
        refine tH 9 (h := ?_)
        refine tH 10 (h := ?_)
        refine tH 11 (h := ?_)
        refine tH 12 (h := ?_)
        refine tH 13 (h := ?_)
        refine tH 14 (h := ?_)
        refine wpAnyH_ready (rs := [15]) (by kernel_rfl) (by simp) ?_
        refine AllReadyH.cons rfl (fun K hK => ?_) AllReadyH.nil
        go_simp
        refine (order_any (f', t') ((fn : Int), t) _).mono ?_; rw [HOc.out]; rintro e w3 ⟨rfl, hb⟩; have b3 := b2.trans (hb.mono b2.size); clear hb
        refine hK.out _ _ (⟨(b3.cell (p := ⟨w.heap.size, 0, none⟩) ls).trans s0, (b3.cell (p := ⟨w.heap.size, 1, none⟩) ls).trans s1, (b3.cell (p := ⟨w.heap.size, 2, none⟩) ls).trans s2, (b3.cell (p := ⟨w.heap.size, 3, none⟩) ls).trans s3, (b3.cell (p := ⟨w.heap.size + 1, 0, none⟩) lq).trans q0, (b3.cell (p := ⟨wr.heap.size, 0, none⟩) lc).trans k0, (b3.cell (p := ⟨wr.heap.size, 1, none⟩) lc).trans k1, (b3.cell (p := ⟨b, off + p * 2, none⟩) lbc).trans y0, (b3.cell (p := ⟨b, off + p * 2 + 1, none⟩) lbc).trans y1⟩) (fun hHeld => ?_)
        clear hK K
        try simp only [List.getElem_toArray, List.getElem_cons_zero, List.getElem_cons_succ, Act.put, List.setIfInBounds_toArray, List.set_cons_zero, List.set_cons_succ]
        refine tH 16 (h := ?_)
        refine tH 17 (h := ?_)
        refine tH 18 (h := ?_)
        refine wpAnyH_done (by kernel_rfl) ?_ _
        refine NoPanic.normal ?_
        go_wp2_with fail
        go_roundw
        case rel => exact ⟨j + 1, by go_num, by omega, HBW.out.trans ((HBC.out.trans (b3.mono HBC.out.size)).mono HBW.out.size)⟩
        case measure => simp [intOf]; omega
    · have hq : decide ((j : Int) < (K.length : Int)) = false := by simp; omega
      go_wp2_with fail
      go_ret
      exact ⟨rfl, HB0.out.trans (hbw.mono HB0.out.size)⟩
end
section
set_option maxRecDepth 100000
open Go.RowKit
theorem fl_u : ∀ l : List Int, l.flatMap encU = l.map (Value.int .u64) := by
  intro l; induction l with
  | nil => rfl
  | cons a l ih => simp only [List.flatMap_cons, List.map_cons, ih]; rfl
theorem word_set (W : List Int) (q : Nat) (x : Int) : ((W.flatMap encU).toArray).setIfInBounds q (.int .u64 x) = ((W.set q x).flatMap encU).toArray := by
  rw [fl_u, fl_u, List.setIfInBounds_toArray, List.map_set]
/-- where bloom.Encode stands: the boxes, the array's two cells, its words -/
structure EncAt (w : World) (p : ParL) (k : Int × Int) (gw c9 m : Nat) (W : List Int) (wr : World) : Prop where
  hp : wr.heap[w.heap.size]? = some (.cells (parC p) 75 (0, 0))
  hk : wr.heap[w.heap.size + 1]? = some (.cells #[.int .u64 k.1, .int .u64 k.2] 26 (0, 0))
  hr : wr.heap[w.heap.size + 2]? = some (.cells #[.int .i64 0, .slice none 0 0] 120 (0, 0))
  hc : wr.heap[c9]? = some (.cells #[.int .i64 p.len, .slice (some ⟨gw, 0, none⟩) m m] 120 (0, 0))
  hw : wr.heap[gw]? = some (.cells (W.flatMap encU).toArray 24 (0, 0))
  len : W.length = m
  ne : w.heap.size + 2 < gw ∧ w.heap.size + 2 < c9 ∧ gw ≠ c9
  b : Below w.heap.size w wr
theorem EncAt.below {w : World} {p : ParL} {k : Int × Int} {gw c9 m : Nat} {W : List Int} {wr wx : World} (h : EncAt w p k gw c9 m W wr) (hb : Below wr.heap.size wr wx) : EncAt w p k gw c9 m W wx :=
  ⟨blk_below hb (lt_of_blk h.hp) h.hp, blk_below hb (lt_of_blk h.hk) h.hk, blk_below hb (lt_of_blk h.hr) h.hr, blk_below hb (lt_of_blk h.hc) h.hc, blk_below hb (lt_of_blk h.hw) h.hw, h.len, h.ne, h.b.trans (hb.mono h.b.size)⟩
theorem EncAt.set {w : World} {p : ParL} {k : Int × Int} {gw c9 m : Nat} {W : List Int} {wr : World} (h : EncAt w p k gw c9 m W wr) (q : Nat) (x : Int) : EncAt w p k gw c9 m (W.set q x) (wr.setCell ⟨gw, q, none⟩ (.int .u64 x)) := by
  obtain ⟨n1, n2, n3⟩ := h.ne
  refine ⟨blk_far h.hp (by show w.heap.size ≠ gw; omega), blk_far h.hk (by show w.heap.size + 1 ≠ gw; omega), blk_far h.hr (by show w.heap.size + 2 ≠ gw; omega), blk_far h.hc (Ne.symm n3), ?_, by rw [List.length_set]; exact h.len, h.ne, h.b.setCell (p := ⟨gw, q, none⟩) (by show w.heap.size ≤ gw; omega) _⟩
  rw [← word_set]; exact blk_set h.hw
theorem EncAt.drew {w : World} {p : ParL} {k : Int × Int} {gw c9 m : Nat} {W : List Int} {wr : World} (h : EncAt w p k gw c9 m W wr) : EncAt w p k gw c9 m W wr.drew := ⟨h.hp, h.hk, h.hr, h.hc, h.hw, h.len, h.ne, h.b.drew⟩
end
end Go.Proofs.YtaoebplnbcimlaaGreatDoor
section
namespace Go.Proofs
open Go.Shelf
def Tryz.lays171_ren : Go.Shelf.Ren := ⟨fun | 171 => 84 | 243 => 141 | 246 => 198 | 283 => 234 | 284 => 235 | 285 => 236 | 286 => 237 | 129 => 262 | 317 => 261 | 318 => 263 | 319 => 264 | 320 => 265 | 337 => 288 | 338 => 289 | n => n, fun | 3 => 3 | 9 => 9 | 2 => 2 | 4 => 4 | 171 => 244 | 0 => 0 | 53 => 24 | 37 => 183 | 5 => 5 | 173 => 247 | 212 => 272 | 51 => 273 | 20 => 20 | 213 => 274 | 46 => 99 | 232 => 289 | 233 => 290 | n => n, fun | 17 => 2 | 18 => 6 | 19 => 7 | n => n⟩
theorem Tryz.lays171 : Go.Proofs.Lays.n171 Tryz.prog Tryz.lays171_ren := {
  mixed := by kernel_rfl
  f129 := Tryz.func262.trans (congrArg some (by kernel_rfl))
  f171 := Tryz.func84.trans (congrArg some (by kernel_rfl))
  f243 := Tryz.func141.trans (congrArg some (by kernel_rfl))
  f246 := Tryz.func198.trans (congrArg some (by kernel_rfl))
  f283 := Tryz.func234.trans (congrArg some (by kernel_rfl))
  f284 := Tryz.func235.trans (congrArg some (by kernel_rfl))
  f285 := Tryz.func236.trans (congrArg some (by kernel_rfl))
  f286 := Tryz.func237.trans (congrArg some (by kernel_rfl))
  f317 := Tryz.func261.trans (congrArg some (by kernel_rfl))
  f318 := Tryz.func263.trans (congrArg some (by kernel_rfl))
  f319 := Tryz.func264.trans (congrArg some (by kernel_rfl))
  f320 := Tryz.func265.trans (congrArg some (by kernel_rfl))
  f337 := Tryz.func288.trans (congrArg some (by kernel_rfl))
  f338 := Tryz.func289.trans (congrArg some (by kernel_rfl))
  t0 := Tryz.underlying0
  a0 := Tryz.isAgg0
  z0 := Tryz.sizeOf0
  v0 := Tryz.zeroValue0
  t2 := Tryz.underlying2
  a2 := Tryz.isAgg2
  z2 := Tryz.sizeOf2
  v2 := Tryz.zeroValue2
  t3 := Tryz.underlying3
  a3 := Tryz.isAgg3
  z3 := Tryz.sizeOf3
  v3 := Tryz.zeroValue3
  t4 := Tryz.underlying4
  a4 := Tryz.isAgg4
  z4 := Tryz.sizeOf4
  v4 := Tryz.zeroValue4
  t5 := Tryz.underlying5
  a5 := Tryz.isAgg5
  z5 := Tryz.sizeOf5
  v5 := Tryz.zeroValue5
  t9 := Tryz.underlying9
  a9 := Tryz.isAgg9
  z9 := Tryz.sizeOf9
  v9 := Tryz.zeroValue9
  t20 := Tryz.underlying20
  a20 := Tryz.isAgg20
  z20 := Tryz.sizeOf20
  v20 := Tryz.zeroValue20
  t37 := Tryz.underlying183
  a37 := Tryz.isAgg183
  z37 := Tryz.sizeOf183
  v37 := Tryz.zeroValue183
  t46 := Tryz.underlying99
  a46 := Tryz.isAgg99
  z46 := Tryz.sizeOf99
  v46 := Tryz.zeroValue99
  t51 := Tryz.underlying273
  a51 := Tryz.isAgg273
  z51 := Tryz.sizeOf273
  v51 := Tryz.zeroValue273
  t53 := Tryz.underlying24
  a53 := Tryz.isAgg24
  z53 := Tryz.sizeOf24
  v53 := Tryz.zeroValue24
  t171 := Tryz.underlying244
  a171 := Tryz.isAgg244
  z171 := Tryz.sizeOf244
  v171 := Tryz.zeroValue244
  t173 := Tryz.underlying247
  a173 := Tryz.isAgg247
  z173 := Tryz.sizeOf247
  v173 := Tryz.zeroValue247
  t212 := Tryz.underlying272
  a212 := Tryz.isAgg272
  z212 := Tryz.sizeOf272
  v212 := Tryz.zeroValue272
  t213 := Tryz.underlying274
  a213 := Tryz.isAgg274
  z213 := Tryz.sizeOf274
  t232 := Tryz.underlying289
  a232 := Tryz.isAgg289
  z232 := Tryz.sizeOf289
  v232 := Tryz.zeroValue289
  t233 := Tryz.underlying290
  a233 := Tryz.isAgg290
  z233 := Tryz.sizeOf290
  v233 := Tryz.zeroValue290
  g17 := by kernel_rfl
  g18 := by kernel_rfl
  g19 := by kernel_rfl }
open Go.RowKit Go.Sort Go.Lib in
/-- THE ROAD WITHOUT THE TABLE: 0 <= i < 100: NO PREMISE ON THE WORLD, AND THE WORLD IS AS IT WAS: a row that keeps its argument in that range need list no table ('laid = []'). (LAID: no walk: one application.) -/
theorem Tryz.strconv_Itoa_small (i : Nat) (hi : i < 100) (w : World) :
    Calls Tryz.prog 84 #[.int .i64 i] w fun e w' => e = .returned (.string ⟨(Lib.decDigits i).toArray⟩) ∧ w' = w := Any.strconv_Itoa_small Tryz.lays171 i hi w
end Go.Proofs
end
namespace Go.Proofs.YtaoebplnbcimlaaGreatDoor
section
set_option maxRecDepth 100000
open Go.RowKit
attribute [local go_sem] toList_mk mk_size str_append
theorem digs_len (i : Nat) (h : i < 100) : (Lib.decDigits i).length ≤ 2 := by
  have : ∀ j : Fin 100, (Lib.decDigits j).length ≤ 2 := by decide +kernel
  exact this ⟨i, h⟩
end
section
set_option maxRecDepth 100000
open Go.RowKit Cal
attribute [local go_sem] toList_mk mk_size str_append
/-- what a field's array needs: the schema, a normal record, valid parameters -/
structure FieldIn (s : SchemaL) (p : ParL) (vals : List (List UInt8)) (i : Nat) : Prop where
  par : ParOk p
  salt : p.salt < vals.length
  at_ : i < vals.length
  five : vals.length ≤ 5
  kind : (findN s i).2 = 0
  norm : normalB s i (vals.getD i []) = true
  short : ∀ v ∈ vals, v.length ≤ 64
/-- where encode.field stands: its boxes -/
structure FldAt (w : World) (vf vt vn vs : Value) (p : ParL) (k : Int × Int) (id ver : Int) (sv : Value) (W : World) : Prop where
  s : W.heap[w.heap.size]? = some (.cells #[vf, vt, vn, vs] 43 (0, 0))
  p : W.heap[w.heap.size + 1]? = some (.cells (parC p) 75 (0, 0))
  k : W.heap[w.heap.size + 2]? = some (.cells #[.int .u64 k.1, .int .u64 k.2] 26 (0, 0))
  r : W.heap[w.heap.size + 3]? = some (.cells #[.int .i64 id, .int .i64 ver, sv] 29 (0, 0))
  z : W.heap[w.heap.size + 4]? = some (.cells #[.int .i64 0, .slice none 0 0] 120 (0, 0))
  b : Below w.heap.size w W
theorem FldAt.below {w : World} {vf vt vn vs : Value} {p : ParL} {k : Int × Int} {id ver : Int} {sv : Value} {W W' : World} (h : FldAt w vf vt vn vs p k id ver sv W) (hb : Below W.heap.size W W') : FldAt w vf vt vn vs p k id ver sv W' :=
  ⟨blk_below hb (lt_of_blk h.1) h.1, blk_below hb (lt_of_blk h.2) h.2, blk_below hb (lt_of_blk h.3) h.3, blk_below hb (lt_of_blk h.4) h.4, blk_below hb (lt_of_blk h.5) h.5, h.6.trans (hb.mono h.6.size)⟩
theorem FldAt.start (w : World) (vf vt vn vs : Value) (p : ParL) (k : Int × Int) (id ver : Int) (sv : Value) : FldAt w vf vt vn vs p k id ver sv (((((w.alloc (.cells #[vf, vt, vn, vs] 43)).alloc (.cells (parC p) 75)).alloc (.cells #[.int .u64 k.1, .int .u64 k.2] 26)).alloc (.cells #[.int .i64 id, .int .i64 ver, sv] 29)).alloc (.cells #[.int .i64 0, .slice none 0 0] 120)) :=
  ⟨blk_old (blk_old (blk_old (blk_old (blk_new rfl)))), blk_old (blk_old (blk_old (blk_new (by simp)))), blk_old (blk_old (blk_new (by simp))), blk_old (blk_new (by simp)), blk_new (by simp),
    (((((Below.refl w.heap.size w).alloc (Nat.le_refl _) _).alloc (by simp) _).alloc (by simp; omega) _).alloc (by simp; omega) _).alloc (by simp; omega) _⟩
end
section
set_option maxRecDepth 100000
open Go.RowKit Cal
attribute [local go_sem] toList_mk mk_size str_append
/-- where the function stands that encoded hands on: what it has captured -/
structure CapAt (sb kb rb : Nat) (vf vt vn vs : Value) (s : SchemaL) (k : Int × Int) (id ver : Int) (sv : Value) (vals : List (List UInt8)) (w : World) : Prop where
  bs : w.heap[sb]? = some (.cells #[vf, vt, vn, vs] 43 (0, 0))
  bk : w.heap[kb]? = some (.cells #[.int .u64 k.1, .int .u64 k.2] 26 (0, 0))
  br : w.heap[rb]? = some (.cells #[.int .i64 id, .int .i64 ver, sv] 29 (0, 0))
  sch : SchemaAt w Any1 vf vt vn vs s
  val : Vec w Any1 1 encS sv vals
theorem CapAt.below {sb kb rb : Nat} {vf vt vn vs : Value} {s : SchemaL} {k : Int × Int} {id ver : Int} {sv : Value} {vals : List (List UInt8)} {w w' : World} (h : CapAt sb kb rb vf vt vn vs s k id ver sv vals w) (hb : Below w.heap.size w w') : CapAt sb kb rb vf vt vn vs s k id ver sv vals w' :=
  ⟨blk_below hb (lt_of_blk h.bs) h.bs, blk_below hb (lt_of_blk h.bk) h.bk, blk_below hb (lt_of_blk h.br) h.br, h.sch.below hb, h.val.below hb⟩
structure BV where
  len : Int
  a : Option Addr
  n : Nat
  c : Nat
abbrev encBV (x : BV) : List Value := [.int .i64 x.len, .slice x.a x.n x.c]
/-- arrays whose words lie in blocks of S -/
def BitsAll (w : World) (S : Nat → Prop) (C : List BV) (L : List BitsL) : Prop := C.length = L.length ∧ ∀ n (h1 : n < C.length) (h2 : n < L.length), BitsAt w S (.agg (encBV C[n]).toArray) L[n]
theorem BitsAt.below {w w' : World} {S : Nat → Prop} {v : Value} {b : BitsL} (h : BitsAt w S v b) (hb : Below w.heap.size w w') : BitsAt w' S v b := by
  obtain ⟨s, rfl, hv⟩ := h; exact ⟨s, rfl, hv.below hb⟩
theorem BitsAll.below {w w' : World} {S : Nat → Prop} {C : List BV} {L : List BitsL} (h : BitsAll w S C L) (hb : Below w.heap.size w w') : BitsAll w' S C L := ⟨h.1, fun n h1 h2 => (h.2 n h1 h2).below hb⟩
theorem BitsAll.snoc {w : World} {S : Nat → Prop} {C : List BV} {L : List BitsL} {c : BV} {b : BitsL} (h : BitsAll w S C L) (hc : BitsAt w S (.agg (encBV c).toArray) b) : BitsAll w S (C ++ [c]) (L ++ [b]) := by
  refine ⟨by simp [h.1], fun n h1 h2 => ?_⟩
  by_cases hn : n < C.length
  · rw [List.getElem_append_left hn, List.getElem_append_left (by rw [← h.1]; exact hn)]; exact h.2 n _ _
  · have : n = C.length := by simp at h1; omega
    subst this
    rw [List.getElem_append_right (Nat.le_refl _), List.getElem_append_right (by rw [h.1]; exact Nat.le_refl _)]
    simpa using hc
theorem BitsAt.form {w : World} {S : Nat → Prop} {v : Value} {b : BitsL} (h : BitsAt w S v b) : ∃ c : BV, v = .agg (encBV c).toArray ∧ BitsAt w S (.agg (encBV c).toArray) b := by
  obtain ⟨s, rfl, hv⟩ := h
  obtain ⟨a, cap, rfl⟩ := hv.slice
  exact ⟨⟨b.len, a, _, cap⟩, rfl, _, rfl, hv⟩
theorem BitsAt.weaken {w : World} {S T : Nat → Prop} {v : Value} {b : BitsL} (h : BitsAt w S v b) (hS : ∀ x, S x → T x) : BitsAt w T v b := by
  obtain ⟨s, rfl, hv⟩ := h
  exact ⟨s, rfl, hv.move (Nat.le_refl _) fun x _ hx => ⟨rfl, hS x hx⟩⟩
theorem BitsAt.move {w w' : World} {S : Nat → Prop} {v : Value} {b : BitsL} (h : BitsAt w S v b) (hz : w.heap.size ≤ w'.heap.size) (hS : ∀ x, x < w.heap.size → S x → w'.heap[x]? = w.heap[x]?) : BitsAt w' S v b := by
  obtain ⟨s, rfl, hv⟩ := h
  exact ⟨s, rfl, hv.move hz fun x h1 h2 => ⟨hS x h1 h2, h2⟩⟩
theorem BitsAll.weaken {w : World} {S T : Nat → Prop} {C : List BV} {L : List BitsL} (h : BitsAll w S C L) (hS : ∀ x, S x → T x) : BitsAll w T C L := ⟨h.1, fun n h1 h2 => (h.2 n h1 h2).weaken hS⟩
theorem BitsAll.move {w w' : World} {S T : Nat → Prop} {C : List BV} {L : List BitsL} (h : BitsAll w S C L) (hz : w.heap.size ≤ w'.heap.size) (hS : ∀ x, x < w.heap.size → S x → w'.heap[x]? = w.heap[x]? ∧ T x) : BitsAll w' T C L :=
  ⟨h.1, fun n h1 h2 => by obtain ⟨s, e, hv⟩ := h.2 n h1 h2; exact ⟨s, e, hv.move hz hS⟩⟩
/-- a slice of arrays -/
def BitsVec (w : World) (S : Nat → Prop) (v : Value) (L : List BitsL) : Prop := ∃ C, Vec w S 2 encBV v C ∧ BitsAll w S C L
end
section
set_option maxRecDepth 100000
open Go.RowKit
structure SV where
  a : Option Addr
  n : Nat
  c : Nat
abbrev encSV (x : SV) : List Value := [.slice x.a x.n x.c]
def KeysAll (w : World) (S : Nat → Prop) (C : List SV) (Ks : List (List (Int × Int))) : Prop := C.length = Ks.length ∧ ∀ n (h1 : n < C.length) (h2 : n < Ks.length), Vec w S 2 encC (.slice C[n].a C[n].n C[n].c) Ks[n]
/-- block keys: each one cell, the slice of its components -/
def KeysVec (w : World) (S : Nat → Prop) (v : Value) (Ks : List (List (Int × Int))) : Prop := ∃ C, Vec w S 1 encSV v C ∧ KeysAll w S C Ks
theorem KeysVec.slice {w : World} {S : Nat → Prop} {v : Value} {L : List (List (Int × Int))} (h : KeysVec w S v L) : ∃ a cap, v = .slice a L.length cap := by
  obtain ⟨C, hC, hA⟩ := h
  obtain ⟨a, cap, rfl⟩ := hC.slice
  exact ⟨a, cap, by rw [hA.1]⟩
theorem KeysVec.move {w w' : World} {S T : Nat → Prop} {v : Value} {L : List (List (Int × Int))} (h : KeysVec w S v L) (hz : w.heap.size ≤ w'.heap.size) (hS : ∀ x, x < w.heap.size → S x → w'.heap[x]? = w.heap[x]? ∧ T x) : KeysVec w' T v L := by
  obtain ⟨C, hC, hA⟩ := h
  exact ⟨C, hC.move hz hS, hA.1, fun n h1 h2 => (hA.2 n h1 h2).move hz hS⟩
theorem KeysVec.below {w w' : World} {S : Nat → Prop} {v : Value} {L : List (List (Int × Int))} (h : KeysVec w S v L) (hb : Below w.heap.size w w') : KeysVec w' S v L :=
  h.move hb.size fun x hx hs => ⟨hb.block x hx, hs⟩
theorem KeysVec.at {w : World} {S : Nat → Prop} {a : Option Addr} {n cap : Nat} {L : List (List (Int × Int))} (h : KeysVec w S (.slice a n cap) L) (j : Nat) (hj : j < L.length) :
    ∃ (b off : Nat) (c : SV), a = some ⟨b, off, none⟩ ∧ b < w.heap.size ∧ w.cell? ⟨b, off + j, none⟩ = some (.slice c.a c.n c.c) ∧ Vec w S 2 encC (.slice c.a c.n c.c) (L.getD j []) := by
  obtain ⟨C, hC, hA⟩ := h
  have hj2 : j < C.length := by rw [hA.1]; exact hj
  obtain ⟨b, off, e, hb, hc⟩ := hC.get j hj2
  refine ⟨b, off, C[j], e, hb, by have := hc 0 _ rfl; simpa using this, ?_⟩
  rw [getD_at _ _ hj]
  exact hA.2 j hj2 hj
structure KeysOk (F : List F2) (Ks : List (List (Int × Int))) : Prop where
  len : Ks.length ≤ 8
  key : ∀ K ∈ Ks, KeyOk F K
set_option maxHeartbeats 4000000 in
theorem bchk_yes (S T : Nat → Prop) (vf vt vn vs kv : Value) (s : SchemaL) (Ks : List (List (Int × Int))) (w : World) (h : SchemaAt w S vf vt vn vs s) (hk : KeysVec w T kv Ks) (hc : checkS s = 0) (hn : s.fields.length ≤ 1000000) (ok : KeysOk s.fields Ks) :
    Calls Tryz.prog 14 #[.agg #[vf, vt, vn, vs], kv] w fun e w' => e = .returned (.int .i64 0) ∧ Below w.heap.size w w' := by
  obtain ⟨ak, ck, rfl⟩ := hk.slice
  have HS := Lib.hid h; have HK := Lib.hid hk; have HOk := Lib.hid ok; have HC := Lib.hid hc
  have l8 := ok.len
  have d2 : decide ((8 : Int) < (Ks.length : Int)) = false := by simp; omega
  have dz : ((0 : Int) != 0) = false := rfl
  clear h hk ok hc
  go_enter Tryz.func14, Tryz.ntmps14
  go_wp2_with fail
  refine wp_calls_world (fun W hW => ?_)
  have hb0 : Below w.heap.size w W := by rw [hW]; exact (Below.refl w.heap.size w).alloc (Nat.le_refl _) _
  have hs0 : W.heap[w.heap.size]? = some (.cells #[vf, vt, vn, vs] 43 (0, 0)) := by rw [hW]; exact blk_new rfl
  clear hW
  refine (scheck_any S _ _ _ _ s W (HS.out.below hb0)).mono ?_
  rw [HC.out]
  rintro e w1 ⟨rfl, hb⟩
  have hs1 := blk_below hb (lt_of_blk hs0) hs0
  have HB1 := Lib.hid (hb0.trans (hb.mono hb0.size)); have HS1 := Lib.hid hs1
  clear hb hb0 hs0 hs1
  go_wp2_with fail
  go_loopw [19] (fun i wr => ∃ j : Nat, i = .int .i64 j ∧ j ≤ Ks.length ∧ Below w1.heap.size w1 wr) (fun i _ => Ks.length - (intOf i).toNat)
  case atStart => exact ⟨0, rfl, by omega, Below.refl _ _⟩
  case round =>
    obtain ⟨j, rfl, hj, hbw⟩ := hrel
    have HBW := Lib.hid hbw
    by_cases hlt : j < Ks.length
    · have hq : decide ((j : Int) < (Ks.length : Int)) = true := by simp; omega
      have hji : (j : Int) < (Ks.length : Int) := by omega
      have hbw0 := HB1.out.trans (hbw.mono HB1.out.size)
      obtain ⟨b, off, c, rfl, lb, c0, hv⟩ := (HK.out.below hbw0).at j hlt
      have hok := HOk.out.key (Ks.getD j []) (by rw [getD_at _ _ hlt]; exact List.getElem_mem hlt)
      obtain ⟨ca, cn, cc⟩ := c
      dsimp only at c0 hv
      have hs1 := blk_below hbw (lt_of_blk HS1.out) HS1.out
      obtain ⟨s0, s1, s2, s3⟩ := cellsS hs1
      have ls := lt_of_blk hs1
      have HV := Lib.hid hv; have HOk1 := Lib.hid hok
      clear hbw hs1 hv hok
      go_wp2_with fail
      refine wp_calls_world (fun Wc hWc => ?_)
      have hbc : Below wr.heap.size wr Wc := by rw [hWc]; exact (Below.refl wr.heap.size wr).alloc (Nat.le_refl _) _
      clear hWc
      refine (bkey_yes S T _ _ _ _ _ s.fields (Ks.getD j []) Wc ((HS.out.below (hbw0.trans (hbc.mono hbw0.size))).1) (HV.out.below hbc) hn HOk1.out).mono ?_
      rintro e w2 ⟨rfl, hb⟩
      have HB2 := Lib.hid (HBW.out.trans ((hbc.trans (hb.mono hbc.size)).mono HBW.out.size))
      clear hb hbc
      go_wp2_with fail
      go_roundw
      case rel => exact ⟨j + 1, by go_num, by omega, HB2.out⟩
      case measure => simp [intOf]; omega
    · have hq : decide ((j : Int) < (Ks.length : Int)) = false := by simp; omega
      go_wp2_with fail
      go_ret
      exact ⟨rfl, HB1.out.trans (hbw.mono HB1.out.size)⟩
end
end Go.Proofs.YtaoebplnbcimlaaGreatDoor
