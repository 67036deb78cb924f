/- Parts of one proof: SchT, SchU, AppendNil, OwnV, MakeQ, GramPlain, RefGramPlain, Iter, GramA, GramC, GramB, GramD, RefTextA, RefTextB, FoldPlain, RefTextC, RefTextD, RefTextE, RefNameA. -/
import Derived.Test.YtfgoiojmbphmnaaGreatDoorPartSchemaExact4
import Derived.Laws.IdiomStrings
import Derived.Deep.AppendLies
import Derived.Deep.RegionLaw
import Derived.Laws.OwnMore
import Derived.Sort.KeysCollected
import Derived.Sort.Walk0
import Derived.Shelf.SlIter.Nil
import Derived.Shelf.SortM.Plain
import Derived.Shelf.SortM.SortNone
import Derived.Ground.GgzProg
import Derived.Ground.SlgmProg
import Derived.Test.YtfgoiojmbphmnaaGreatDoorProg
import Derived.Maps.OwnSet
import Derived.StringKeys
import Derived.Deep.DeepCutAuto
import Derived.Deep.CutBlock
section
/- strings.Cut and strings.Split at one byte; schema.Parse. -/
set_option linter.unusedSimpArgs false
set_option linter.unusedVariables false
set_option maxRecDepth 100000
namespace Go.Proofs.YtfgoiojmbphmnaaGreatDoor
open Go.RowKit Cal
attribute [local go_sem] toList_mk mk_size
/-- the library's variable internal/bytealg.MaxLen holds some number -/
def MaxAt (w : World) : Prop := ∃ m : Int, w.cell? ⟨Tryz.laysM145_ren.g 1, 0, none⟩ = some (.int .i64 m)
theorem MaxAt.lt {w : World} (h : MaxAt w) : Tryz.laysM145_ren.g 1 < w.heap.size := by
  obtain ⟨m, hm⟩ := h; exact World.block_lt_of_cell? _ ⟨_, 0, none⟩ hm
theorem MaxAt.below {w w' : World} {B : Nat} (h : MaxAt w) (hb : Below B w w') (hB : Tryz.laysM145_ren.g 1 < B) : MaxAt w' := by
  obtain ⟨m, hm⟩ := h
  exact ⟨m, (hb.cell (p := ⟨_, 0, none⟩) hB).trans hm⟩
theorem MaxAt.old {w w' : World} (h : MaxAt w) (hb : Below w.heap.size w w') : MaxAt w' := h.below hb h.lt
theorem cut_any (c : UInt8) (l : List UInt8) (w : World) (hm : MaxAt w) (hl : l.length ≤ 4294967200) :
    Calls Tryz.prog 72 #[strV l, strV [c]] w fun e w' => e = .returned (.tuple #[strV (Lib.cut l [c]).1, strV (Lib.cut l [c]).2.1, .bool (Lib.cut l [c]).2.2]) ∧ Below w.heap.size w w' := by
  obtain ⟨m, hm⟩ := hm
  have h := Any.strings_Cut { Tryz.laysM145 with } ⟨l.toArray⟩ ⟨#[c]⟩ m w (by rw [mk_size]; omega) hm
  refine h.mono ?_
  rintro e w' ⟨rfl, n, rfl⟩
  exact ⟨rfl, below_drewN (Below.refl _ _) n⟩
theorem split_any (c : UInt8) (l : List UInt8) (w : World) (hm : MaxAt w) (hl : l.length ≤ 4294967200) :
    Calls Tryz.prog 74 #[strV l, strV [c]] w fun e w' => e = .returned (.slice (some ⟨w.heap.size, 0, none⟩) (splC c [] l).length (splC c [] l).length) ∧ RowB w' w.heap.size (splC c [] l) ∧ Below w.heap.size w w' := by
  obtain ⟨m, hm⟩ := hm
  have h := Any.strings_Split { Tryz.laysM146 with } Tryz.laysM146.i9 ⟨l.toArray⟩ ⟨#[c]⟩ m w (by rw [mk_size]; omega) hm (by simp [ByteArray.size])
  obtain ⟨k1, k2⟩ := splitK_spl c l.length l (Nat.le_refl _) (l.length + 1) (by omega)
  have hd := Lib.splitB_data ⟨#[c]⟩ 0 (Lib.countB ⟨l.toArray⟩ ⟨#[c]⟩) ⟨l.toArray⟩
  have hc : Lib.countB ⟨l.toArray⟩ ⟨#[c]⟩ = Lib.countFrom [c] (l.length + 1) l := by unfold Lib.countB Lib.count; rfl
  have hd2 : (Lib.splitB ⟨#[c]⟩ 0 (Lib.countB ⟨l.toArray⟩ ⟨#[c]⟩) ⟨l.toArray⟩).map (·.data.toList) = splC c [] l := by
    rw [hd, hc]; exact k1
  have hv : (Lib.splitB ⟨#[c]⟩ 0 (Lib.countB ⟨l.toArray⟩ ⟨#[c]⟩) ⟨l.toArray⟩).map Value.string = (splC c [] l).flatMap encS := by
    rw [← hd2]
    induction Lib.splitB ⟨#[c]⟩ 0 (Lib.countB ⟨l.toArray⟩ ⟨#[c]⟩) ⟨l.toArray⟩ with
    | nil => rfl
    | cons x L ih => rw [List.map_cons, List.map_cons, List.flatMap_cons, ih]; rfl
  refine h.mono ?_
  rintro e w' ⟨rfl, rfl⟩
  rw [hv, hc, k2]
  exact ⟨rfl, blk_new rfl, (Below.refl _ _).alloc (Nat.le_refl _) _⟩
def ParsePost (p : SchemaL × Int) (w : World) (e : Ending) (w' : World) : Prop := ∃ vf vt vn vs, e = .returned (.tuple #[.agg #[vf, vt, vn, vs], .int .i64 p.2]) ∧ SchemaAt w' (fun b => w.heap.size ≤ b) vf vt vn vs p.1 ∧ Below w.heap.size w w'
theorem nil_schema (w : World) (S : Nat → Prop) : SchemaAt w S (.slice none 0 0) (.slice none 0 0) (.slice none 0 0) (.slice none 0 0) nilS := ⟨Vec.nil _ _ _ _, Vec.nil _ _ _ _, Vec.nil _ _ _ _, Vec.nil _ _ _ _⟩
theorem parseA_line {a b : List UInt8} (h : (10 : UInt8) ∉ a) (s : SchemaL) (last : Int) : parseA [] s last (a ++ 10 :: b) = if (readN s (splC 32 [] a)).1 < last then none else parseA [] (readN s (splC 32 [] a)).2 (readN s (splC 32 [] a)).1 b := by
  rw [parseA_run a (fun x hx e => h (e ▸ hx))]; simp [parseA]
theorem parseA_rest {a : List UInt8} (h : (10 : UInt8) ∉ a) (h0 : a ≠ []) (s : SchemaL) (last : Int) : parseA [] s last a = none := by
  have := parseA_run a (fun x hx e => h (e ▸ hx)) [] s last []
  rw [List.append_nil] at this
  rw [this]; simp [parseA, h0]
theorem splC_len (c : UInt8) (l : List UInt8) : ∀ p, (splC c p l).length ≤ l.length + 1 := by
  induction l with
  | nil => intro p; simp [splC]
  | cons x l ih =>
    intro p
    simp only [splC]
    split
    · have := ih []; simp; omega
    · have := ih (p ++ [x]); simp; omega
theorem schema_setRow {w : World} {B g : Nat} {cs : Array Value} {vf vt vn vs : Value} {s : SchemaL} (h : SchemaAt w (fun b => B ≤ b) vf vt vn vs s) (hg : g < B) : SchemaAt (w.setRow g cs) (fun b => g ≤ b) vf vt vn vs s := by
  have hz : w.heap.size ≤ (w.setRow g cs).heap.size := by simp [World.setRow]
  have mv : ∀ b, b < w.heap.size → B ≤ b → (w.setRow g cs).heap[b]? = w.heap[b]? ∧ g ≤ b := fun b _ hb => ⟨setRow_other (by omega), by omega⟩
  exact ⟨h.1.move hz mv, h.2.1.move hz mv, h.2.2.1.move hz mv, h.2.2.2.move hz mv⟩
/-- while a text is read -/
structure PIn (w W1 : World) (t : List UInt8) (s : SchemaL) (last : Int) (r : List UInt8) (vf vt vn vs : Value) (wr : World) : Prop where
  p : PAt (w.heap.size + 1) (w.heap.size + 1) vf vt vn vs s wr
  b : Below (w.heap.size + 1) W1 wr
  eq : parseA [] nilS 0 t = parseA [] s last r
  room : ∃ n, Room s n ∧ n + r.length ≤ 65536
set_option maxHeartbeats 8000000 in
theorem parse_yes (t : List UInt8) (w : World) (hm : MaxAt w) (ht : t.length ≤ 65536) :
    Calls Tryz.prog 36 #[strV t] w (ParsePost (parseN t) w) := by
  have d1 : decide ((65536 : Int) < t.length) = false := by simp; omega
  have HM := Lib.hid hm
  clear hm
  go_enter Tryz.func36, Tryz.ntmps36
  go_wp2_with fail
  clear d1
  refine wp_world (fun W1 hW1 => ?_)
  have b1 : Below w.heap.size w W1 := by rw [hW1]; exact ((Below.refl _ _).alloc (Nat.le_refl _) _).alloc (by simp) _
  have x0 : W1.heap[w.heap.size]? = some (.cells nil4 33 (0, 0)) := by rw [hW1]; exact blk_old (blk_new rfl)
  have x1 : W1.heap[w.heap.size + 1]? = some (.cells nil4 33 (0, 0)) := by rw [hW1]; exact blk_new (by simp)
  have K0 := Lib.hid (show PIn w W1 t nilS 0 t (.slice none 0 0) (.slice none 0 0) (.slice none 0 0) (.slice none 0 0) W1 from
    ⟨⟨x1, ⟨rfl, .inl ⟨rfl, rfl⟩⟩, ⟨rfl, .inl ⟨rfl, rfl⟩⟩, ⟨rfl, .inl ⟨rfl, rfl⟩⟩, ⟨rfl, .inl ⟨rfl, rfl⟩⟩, .inl rfl, Nat.le_refl _⟩, Below.refl _ _, rfl, 0, ⟨Nat.le_refl _, Nat.le_refl _, Nat.le_refl _, Nat.le_refl _⟩, by omega⟩)
  have HB1 := Lib.hid b1; have HX0 := Lib.hid x0
  have z1 := lt_of_blk x1
  clear hW1 b1 x0 x1
  go_loopw [0, 5] (fun t0 t5 wr => ∃ (s : SchemaL) (last : Int) (r : List UInt8) (vf vt vn vs : Value), t0 = strV r ∧ t5 = .int .i64 last ∧ PIn w W1 t s last r vf vt vn vs wr) (fun t0 _ _ => match t0 with | .string b => b.size | _ => 0)
  case atStart => exact ⟨nilS, 0, t, _, _, _, _, rfl, rfl, K0.out⟩
  case round =>
    obtain ⟨s, last, r, vf, vt, vn, vs, rfl, rfl, hp⟩ := hrel
    have K := Lib.hid hp
    clear hp K0
    have hmx : MaxAt wr := (HM.out.old HB1.out).below K.out.b (by have := HM.out.lt; omega)
    have hlt : (w.heap.size + 1) < wr.heap.size := lt_of_blk K.out.p.y
    have hxr : wr.heap[w.heap.size]? = some (.cells nil4 33 (0, 0)) := blk_below K.out.b (by omega) HX0.out
    have HMX := Lib.hid hmx; have HXR := Lib.hid hxr
    clear hmx hxr
    obtain ⟨N, hN⟩ := K.out.room
    have HN := Lib.hid hN
    have hrl : r.length ≤ 65536 ∧ N ≤ 65536 := by omega
    clear hN
    by_cases hr : r = []
    · subst hr
      have hend : parseN t = if checkS s = 0 then (s, 0) else (nilS, checkS s) := by
        unfold parseN; rw [if_neg (by omega), K.out.eq]; simp [parseA]
      have HE := Lib.hid hend
      obtain ⟨af, cf, rfl⟩ := own_slice K.out.p.f
      obtain ⟨at', ct, rfl⟩ := own_slice K.out.p.t
      obtain ⟨an, cn, rfl⟩ := own_slice K.out.p.n
      obtain ⟨as', cs, rfl⟩ := own_slice K.out.p.s
      have HB4 := Lib.hid (HB1.out.trans (K.out.b.mono (Nat.le_succ _)))
      obtain ⟨y0, y1, y2, y3⟩ := cells4 K.out.p.y
      clear hend HMX
      go_wp2_with fail
      refine (scheck_any Any1 _ _ _ _ s _ K.out.p.schema.any).mono ?_
      obtain ⟨c, hc⟩ : ∃ c, checkS s = c := ⟨_, rfl⟩
      rw [hc]
      rw [hc] at HE
      rintro e w5 ⟨rfl, hb5⟩
      have hy5 := blk_below hb5 hlt K.out.p.y
      obtain ⟨y0, y1, y2, y3⟩ := cells4 hy5
      have z5 := lt_of_blk hy5
      have HX5 := Lib.hid (blk_below hb5 (by omega) HXR.out)
      have HP5 := Lib.hid (K.out.p.below hb5)
      have HBZ := Lib.hid (HB4.out.trans (hb5.mono (by omega)))
      clear hb5 hy5 hc
      by_cases hc0 : c = 0
      · subst hc0
        have HE0 := Lib.hid (show parseN t = (s, 0) by rw [HE.out, if_pos rfl])
        go_wp2_with (refine wpList_store_row rfl 33 (.tmp 2) (.tmp 42) rfl w.heap.size _ rfl rfl 33 nil4 HX5.out (by kernel_rfl) (by kernel_rfl) (by kernel_rfl) ?_)
        exact bodyPost_row2 rfl rfl (heap_setRow HX5.out) Tryz.underlying33 rfl (by kernel_rfl) ⟨_, _, _, _, by rw [HE0.out]; rfl, by rw [HE0.out]; exact schema_setRow HP5.out.schema (Nat.lt_succ_self _), below_setRow HBZ.out (Nat.le_refl _)⟩
      · have q4 : (c != 0) = true := by simpa using hc0
        have HN14 := Lib.hid (show parseN t = (nilS, c) by rw [HE.out, if_neg hc0])
        clear hc0
        go_wp2_with (refine wpList_store_row rfl 33 (.tmp 2) (.tmp 40) rfl w.heap.size nil4 rfl rfl 33 nil4 HX5.out (by kernel_rfl) (by kernel_rfl) (by kernel_rfl) ?_)
        exact bodyPost_row2 rfl rfl (heap_setRow HX5.out) Tryz.underlying33 rfl (by kernel_rfl) ⟨_, _, _, _, by rw [HN14.out]; rfl, by rw [HN14.out]; exact nil_schema _ _, below_setRow HBZ.out (Nat.le_refl _)⟩
    · have q1 : (r == []) = false := by simpa using hr
      have q2 : r.isEmpty = false := by simpa using hr
      have q3 : (r != []) = true := by simpa using hr
      rcases byte_cases 10 r with hno | ⟨a, b, rfl, ha⟩
      · have hcut := cut_not 10 r hno
        have HN14 := Lib.hid (show parseN t = (nilS, 14) by unfold parseN; rw [if_neg (by omega), K.out.eq, parseA_rest hno hr s last])
        have HC := Lib.hid hcut
        clear hcut hr hno
        go_wp2_with fail
        refine (cut_any 10 r _ HMX.out (by omega)).mono ?_
        rw [HC.out]
        rintro e w2 ⟨rfl, hb2⟩
        have HB2 := Lib.hid hb2
        have HM2 := Lib.hid (HMX.out.old hb2)
        clear hb2
        go_wp2_with fail
        refine (split_any 32 r _ HM2.out (by omega)).mono ?_
        rintro e w3 ⟨rfl, hrow, hb3⟩
        have HB3 := Lib.hid (HB2.out.trans (hb3.mono HB2.out.size))
        have hv := RowB.vec hrow (splC 32 [] r).length (Nat.le_refl _)
        have HV := Lib.hid hv
        clear hb3 hrow hv
        go_wp2_with fail
        have hsl := splC_len 32 r []
        refine (sread_any (w.heap.size + 1) (w.heap.size + 1) vf vt vn vs s _ (splC 32 [] r) _ (K.out.p.below HB3.out) HV.out (by omega) (by have := HB3.out.size; omega) ⟨by have := HN.out.1.f; omega, by have := HN.out.1.t; omega, by have := HN.out.1.n; omega, by have := HN.out.1.s; omega⟩).mono ?_
        obtain ⟨⟨k, s'⟩, hk⟩ : ∃ p, readN s (splC 32 [] r) = p := ⟨_, rfl⟩
        rw [hk]
        rintro e w4 ⟨vf', vt', vn', vs', rfl, hp4, hb4⟩
        dsimp only at hp4
        have HB4 := Lib.hid ((K.out.b.trans (HB3.out.mono (Nat.le_of_lt hlt))).trans hb4)
        have hx4 := blk_below hb4 (Nat.lt_succ_self _) (blk_below HB3.out (by omega) HXR.out)
        have HX4 := Lib.hid hx4
        have HBZ := Lib.hid (HB1.out.trans (HB4.out.mono (Nat.le_succ _)))
        clear hp4 hb4 hk HV HB2 HB3 HM2 HMX hx4 hsl
        go_wp2_with (refine wpList_store_row rfl 33 (.tmp 2) (.tmp 33) rfl w.heap.size nil4 rfl rfl 33 nil4 HX4.out (by kernel_rfl) (by kernel_rfl) (by kernel_rfl) ?_)
        exact bodyPost_row2 rfl rfl (heap_setRow HX4.out) Tryz.underlying33 rfl (by kernel_rfl) ⟨_, _, _, _, by rw [HN14.out]; rfl, by rw [HN14.out]; exact nil_schema _ _, below_setRow HBZ.out (Nat.le_refl _)⟩
      · have hcut := cut_at 10 a b ha
        have hend := parseA_line ha (b := b) s last
        have HC := Lib.hid hcut; have HE := Lib.hid hend
        obtain ⟨l, hl⟩ : ∃ l, a ++ 10 :: b = l := ⟨_, rfl⟩
        rw [hl] at q1 q2 q3 hrl HC HE K HN ⊢
        have hal : a.length < l.length ∧ b.length < l.length := by rw [← hl]; simp; omega
        have HL := Lib.hid hl
        clear hcut hend hr hl ha
        go_wp2_with fail
        refine (cut_any 10 l _ HMX.out (by omega)).mono ?_
        rw [HC.out]
        rintro e w2 ⟨rfl, hb2⟩
        have HB2 := Lib.hid hb2
        have HM2 := Lib.hid (HMX.out.old hb2)
        clear hb2
        go_wp2_with fail
        refine (split_any 32 a _ HM2.out (by omega)).mono ?_
        rintro e w3 ⟨rfl, hrow, hb3⟩
        have HB3 := Lib.hid (HB2.out.trans (hb3.mono HB2.out.size))
        have hv := RowB.vec hrow (splC 32 [] a).length (Nat.le_refl _)
        have HV := Lib.hid hv
        clear hb3 hrow hv
        go_wp2_with fail
        have hsl := splC_len 32 a []
        refine (sread_any (w.heap.size + 1) (w.heap.size + 1) vf vt vn vs s _ (splC 32 [] a) _ (K.out.p.below HB3.out) HV.out (by omega) (by have := HB3.out.size; omega) ⟨by have := HN.out.1.f; omega, by have := HN.out.1.t; omega, by have := HN.out.1.n; omega, by have := HN.out.1.s; omega⟩).mono ?_
        obtain ⟨⟨k, s'⟩, hk⟩ : ∃ p, readN s (splC 32 [] a) = p := ⟨_, rfl⟩
        have hroom := HN.out.1.read (splC 32 [] a)
        rw [hk] at HE hroom ⊢
        dsimp only at HE hroom
        rintro e w4 ⟨vf', vt', vn', vs', rfl, hp4, hb4⟩
        dsimp only at hp4
        have HP4 := Lib.hid hp4
        have HB4 := Lib.hid ((K.out.b.trans (HB3.out.mono (Nat.le_of_lt hlt))).trans hb4)
        have hx4 := blk_below hb4 (Nat.lt_succ_self _) (blk_below HB3.out (by omega) HXR.out)
        have HX4 := Lib.hid hx4
        have HR4 := Lib.hid hroom
        have hlt4 := lt_of_blk HP4.out.y
        clear hp4 hb4 hk HV HB2 HB3 HM2 HMX hx4 hroom hsl
        by_cases hkl : k < last
        · have q4 : decide (k < last) = true := by simpa using hkl
          have HN14 := Lib.hid (show parseN t = (nilS, 14) by unfold parseN; rw [if_neg (by omega), K.out.eq, HE.out, if_pos hkl])
          have HBZ := Lib.hid (HB1.out.trans (HB4.out.mono (Nat.le_succ _)))
          clear hkl
          go_wp2_with (refine wpList_store_row rfl 33 (.tmp 2) (.tmp 33) rfl w.heap.size nil4 rfl rfl 33 nil4 HX4.out (by kernel_rfl) (by kernel_rfl) (by kernel_rfl) ?_)
          exact bodyPost_row2 rfl rfl (heap_setRow HX4.out) Tryz.underlying33 rfl (by kernel_rfl) ⟨_, _, _, _, by rw [HN14.out]; rfl, by rw [HN14.out]; exact nil_schema _ _, below_setRow HBZ.out (Nat.le_refl _)⟩
        · have q4 : decide (k < last) = false := by simpa using hkl
          have HK2 := Lib.hid (show PIn w W1 t s' k b vf' vt' vn' vs' w4 from ⟨HP4.out, HB4.out, by rw [K.out.eq, HE.out, if_neg hkl], N + 1, HR4.out, by have := HN.out.2; omega⟩)
          clear hkl
          go_wp2_with fail
          go_roundw
          case rel => exact ⟨s', k, b, vf', vt', vn', vs', rfl, rfl, HK2.out⟩
          case measure => simp [mk_size]; omega
set_option maxHeartbeats 4000000 in
theorem parse_long (t : List UInt8) (w : World) (ht : 65536 < t.length) (hs : t.length ≤ 9223372036854775807) :
    Calls Tryz.prog 36 #[strV t] w (ParsePost (parseN t) w) := by
  have d1 : decide ((65536 : Int) < t.length) = true := by simp; omega
  have HN := Lib.hid (show parseN t = (nilS, 1) by unfold parseN; rw [if_pos ht])
  go_enter Tryz.func36, Tryz.ntmps36
  go_wp2_with (refine wpList_store_row rfl 33 (.tmp 2) (.tmp 14) rfl w.heap.size nil4 rfl rfl 33 nil4 (blk_new rfl) (by kernel_rfl) (by kernel_rfl) (by kernel_rfl) ?_)
  exact bodyPost_row2 rfl rfl (heap_setRow (blk_new rfl)) Tryz.underlying33 rfl (by kernel_rfl) ⟨_, _, _, _, by rw [HN.out]; rfl, by rw [HN.out]; exact nil_schema _ _, below_setRow ((Below.refl _ _).alloc (Nat.le_refl _) _) (Nat.le_refl _)⟩
theorem sparse_any (t : List UInt8) (w : World) (hm : MaxAt w) (ht : t.length ≤ 9223372036854775807) :
    Calls Tryz.prog 36 #[strV t] w (ParsePost (parseN t) w) := by
  by_cases h : t.length ≤ 65536
  · exact parse_yes t w hm h
  · exact parse_long t w (by omega) ht
end Go.Proofs.YtfgoiojmbphmnaaGreatDoor
end
section
/- schema.Text of any schema; a text as bytes, and back. -/
set_option linter.unusedSimpArgs false
set_option linter.unusedVariables false
set_option maxRecDepth 100000
namespace Go.Proofs.YtfgoiojmbphmnaaGreatDoor
open Go.RowKit Cal
attribute [local go_sem] toList_mk mk_size
def textN (s : SchemaL) : List UInt8 × Int := if checkS s = 0 then (textL s, 0) else ([], checkS s)
set_option maxHeartbeats 2000000 in
theorem text_no (S : Nat → Prop) (vf vt vn vs : Value) (s : SchemaL) (w : World) (h : SchemaAt w S vf vt vn vs s) (hc : checkS s ≠ 0) :
    Calls Tryz.prog 34 #[.agg #[vf, vt, vn, vs]] w fun e w' => e = .returned (pairV (textN s)) ∧ Below w.heap.size w w' := by
  have HS := Lib.hid h.any
  have HT := Lib.hid (show textN s = ([], checkS s) by unfold textN; rw [if_neg hc])
  have hne : (checkS s != 0) = true := by simpa using hc
  obtain ⟨c, hcc⟩ : ∃ c, checkS s = c := ⟨_, rfl⟩
  rw [hcc] at hne HT
  have HC := Lib.hid hcc
  clear h hc hcc
  go_enter Tryz.func34, Tryz.ntmps34
  go_wp2_with fail
  refine (scheck_any Any1 _ _ _ _ _ _ (HS.out.below ((Below.refl _ _).alloc (Nat.le_refl _) _))).mono ?_
  rw [HC.out]
  rintro e w1 ⟨rfl, hb1⟩
  have HB1 := Lib.hid (((Below.refl w.heap.size w).alloc (Nat.le_refl _) (.cells #[vf, vt, vn, vs] 33)).trans (hb1.mono (by simp)))
  clear hb1
  go_wp2_with fail
  go_ret2
  exact ⟨by rw [HT.out]; rfl, HB1.out⟩
theorem stext_any (S : Nat → Prop) (vf vt vn vs : Value) (s : SchemaL) (w : World) (h : SchemaAt w S vf vt vn vs s) :
    Calls Tryz.prog 34 #[.agg #[vf, vt, vn, vs]] w fun e w' => e = .returned (pairV (textN s)) ∧ Below w.heap.size w w' := by
  by_cases hc : checkS s = 0
  · have := text_yes S vf vt vn vs s w h hc
    rwa [show (textL s, (0 : Int)) = textN s by unfold textN; rw [if_pos hc]] at this
  · exact text_no S vf vt vn vs s w h hc
/-- block k holds the bytes l, which may be written -/
def BytesAt (w : World) (k : Nat) (l : List UInt8) : Prop := ∃ cs fr, w.heap[k]? = some (.cells cs 5 fr) ∧ l.length ≤ fr.1 ∧ ∀ i (h : i < l.length), cs[i]? = some (byteV l[i])
theorem BytesAt.below {w w' : World} {k : Nat} {l : List UInt8} (h : BytesAt w k l) (hb : Below w.heap.size w w') : BytesAt w' k l := by
  obtain ⟨cs, fr, h1, h2⟩ := h
  exact ⟨cs, fr, blk_below hb (lt_of_blk h1) h1, h2⟩
theorem BytesAt.cell {w : World} {k : Nat} {l : List UInt8} (h : BytesAt w k l) (i : Nat) (hi : i < l.length) : w.cell? ⟨k, i, none⟩ = some (byteV l[i]) ∧ w.frozen? ⟨k, i, none⟩ = false := by
  obtain ⟨cs, fr, h1, h2, h3⟩ := h
  refine ⟨by rw [cell_of_row _ _ _ _ _ _ h1]; exact h3 i hi, ?_⟩
  unfold World.frozen?
  simp only [h1]
  simp; omega
theorem BytesAt.set {w : World} {k : Nat} {l : List UInt8} (h : BytesAt w k l) (i : Nat) (x : UInt8) : BytesAt (w.setCell ⟨k, i, none⟩ (byteV x)) k (l.set i x) := by
  obtain ⟨cs, fr, h1, h2, h3⟩ := h
  refine ⟨_, fr, blk_set h1, by simpa using h2, fun j hj => ?_⟩
  have hj' : j < l.length := by simpa using hj
  have := h3 j hj'
  have hlt : j < cs.size := (Array.getElem?_eq_some_iff.1 this).1
  rw [Array.getElem?_setIfInBounds]
  by_cases e : i = j
  · subst e; rw [if_pos rfl, if_pos hlt]; simp
  · rw [if_neg e, this, List.getElem_set_ne e]
theorem bytes_conv (w : World) (l : List UInt8) : ∃ cap wN, (convert 9 66 (strV l)).run Tryz.prog w = .ok (.slice (some ⟨w.heap.size, 0, none⟩) l.length cap) wN ∧ BytesAt wN w.heap.size l ∧ Below w.heap.size w wN ∧ w.heap.size < wN.heap.size := by
  have h := run_bytes_of_string (P := Tryz.prog) w 9 66 5 ⟨l.toArray⟩ Tryz.underlying9 Tryz.underlying66 Tryz.underlying5
  refine ⟨_, _, h, ⟨_, _, blk_new rfl, ?_, ?_⟩, (Below.refl _ _).drew.alloc (Nat.le_refl _) _, by simp⟩
  · simp [bytesRow, ByteArray.size]
  · intro i hi
    unfold bytesRow
    rw [Array.getElem?_append_left (by simpa using hi)]
    simp [hi, byteV]
theorem bytes_back (w : World) (k : Nat) (l : List UInt8) (cap : Nat) (h : BytesAt w k l) : (convert 66 9 (.slice (some ⟨k, 0, none⟩) l.length cap)).run Tryz.prog w = .ok (strV l) w :=
  run_convert_bytes_back (P := Tryz.prog) w _ _ _ ⟨k, 0, none⟩ cap l Tryz.underlying66 Tryz.underlying5 Tryz.underlying9 (fun j hj => by
    rw [add_plain, Nat.zero_add]; exact (h.cell j hj).1)
end Go.Proofs.YtfgoiojmbphmnaaGreatDoor
end
section
/- append of a slice to a row that the call owns: of none or of some elements, wherever they lie. -/
set_option linter.unusedSimpArgs false
set_option linter.unusedVariables false
namespace Go.Proofs.YtfgoiojmbphmnaaGreatDoor
open Go
theorem run_load_zero {P : Program} (a : Addr) (w : World) : Sem.run P (loadCells a 0) w = .ok #[] w := rfl
theorem run_append_zero {P : Program} {w : World} (base : Nat) (t ty e : TypeId) (i : TypeInfo) (size : Nat) (ht : P.underlying t = some (.slice e)) (hi : P.info? e = some i)
    (v : Value) (n : Nat) (xs : List Value) (hown : w.ownsRow base e size v n xs) (ad : Option Addr) (c : Nat) :
    (Builtin.append_ #[t, t] ty #[v, .slice ad 0 c]).run P w = .ok v w := by
  have lz := fun a => run_load_zero (P := P) a w
  rcases hown.2 with ⟨rfl, rfl⟩ | ⟨g, cap, cur, rfl, _, _, hnc, _⟩
  · cases ad <;> simp [Builtin.append_, run_underlying ht, sizeOf, typeInfo, hi, Builtin.lenOf, Builtin.firstCells, lz, Sem.run_pure, Result.andThen]
  · cases ad <;> simp [Builtin.append_, run_underlying ht, sizeOf, typeInfo, hi, Builtin.lenOf, Builtin.firstCells, hnc, storeCells, lz, Sem.run_pure, Result.andThen]
theorem wp_append_zero {P : Program} {w : World} {o : Oper} {a : Act} {K : Act → World → Prop} {Q : Exit → Act → World → Prop} (s x : Operand) (t : TypeId)
    (ho : o.op = .call { callee := .builtin .append, args := #[s, x], argTypes := #[t, t] })
    (base : Nat) (e : TypeId) (i : TypeInfo) (size : Nat) (ht : P.underlying t = some (.slice e)) (hi : P.info? e = some i)
    (v : Value) (n : Nat) (xs : List Value) (hs : a.eval s = v) (hown : w.ownsRow base e size v n xs) (ad : Option Addr) (c : Nat) (hx : a.eval x = .slice ad 0 c)
    (h : K (a.put o.dst v) w) : Oper.wp P o a w K Q := by
  have hrun := run_append_zero (P := P) (w := w) base t o.type e i size ht hi v n xs hown ad c
  unfold Oper.wp execOp
  simp only [ho, resolve, invoke, builtin, Sem.run_bind, Sem.run_pure, Result.andThen_ok, List.map_toArray, List.map_cons, List.map_nil, hs, hx, hrun]
  exact h
theorem step_append_zero {P : Program} {w : World} {ops : Array Oper} {o : Oper} {a : Act} {K : Act → World → Prop} {Q : Exit → Act → World → Prop} {E : Prop} (hgd : o.guard = none) (s x : Operand) (t : TypeId)
    (ho : o.op = .call { callee := .builtin .append, args := #[s, x], argTypes := #[t, t] })
    (base : Nat) (e : TypeId) (i : TypeInfo) (size : Nat) (ht : P.underlying t = some (.slice e)) (hi : P.info? e = some i)
    (v : Value) (n : Nat) (xs : List Value) (hs : a.eval s = v) (hown : w.ownsRow base e size v n xs) (ad : Option Addr) (c : Nat) (hx : a.eval x = .slice ad 0 c)
    (h : K (a.put o.dst v) w) :
    if Region.wanted o (yielded ops a.tmps) = true then Oper.wp P o a w K Q else E := by
  have hw : Region.wanted o (yielded ops a.tmps) = true := by simp [Region.wanted, hgd]
  rw [if_pos hw]
  exact wp_append_zero s x t ho base e i size ht hi v n xs hs hown ad c hx h
/-- a slice's elements can be read: m of them, of size cells each -/
def Reads (w : World) (size : Nat) (u : Value) (m : Nat) (news : List Value) : Prop :=
  ∃ ad c, u = .slice ad m c ∧ news.length = m * size ∧ (0 < m → ∃ A, ad = some A ∧ ∀ j v, news[j]? = some v → w.cell? (A.add j) = some v)
/-- append of whatever slice -/
theorem wp_append_reads {P : Program} {w : World} {o : Oper} {a : Act} {K : Act → World → Prop} {Q : Exit → Act → World → Prop} (s x : Operand) (t : TypeId)
    (ho : o.op = .call { callee := .builtin .append, args := #[s, x], argTypes := #[t, t] })
    (base : Nat) (e : TypeId) (z : Value) (size bytes : Nat) (ht : P.underlying t = some (.slice e)) (hinfo : (P.info? e).map (fun i => (i.zero, i.size, i.bytes)) = some (some z, size, bytes))
    (hzs : z.cells.size = size) (hsz : 0 < size)
    (v : Value) (n : Nat) (xs : List Value) (hs : a.eval s = v) (hown : w.ownsRow base e size v n xs)
    (u : Value) (m : Nat) (news : List Value) (hx : a.eval x = u) (hr : Reads w size u m news) (h1 : ∀ u ∈ news, u.oneCell' = true)
    (h63 : n + m ≤ maxLen) (hbytes : (n + m) * bytes ≤ 140737488355328) (hbase : base ≤ w.heap.size)
    (h : ∀ v' w', w'.ownsRow base e size v' (n + m) (xs ++ news) → w.grownBy w' v.ownBlock → (v'.ownBlock = none ∨ v.ownBlock = v'.ownBlock ∨ v'.ownBlock = some w.heap.size) → K (a.put o.dst v') w') : Oper.wp P o a w K Q := by
  obtain ⟨ad, c, rfl, hl, hc⟩ := hr
  obtain ⟨i, hi, hz, h2, h3⟩ := info_parts hinfo
  by_cases hm : m = 0
  · subst hm
    have hn : news = [] := List.length_eq_zero_iff.1 (by omega)
    subst hn
    refine wp_append_zero s x t ho base e i size ht hi v n xs hs hown ad c hx (h v w (by simpa using hown) ⟨rfl, rfl, rfl, Nat.le_refl _, fun _ _ _ => rfl⟩ (.inr (.inl rfl)))
  · obtain ⟨A, rfl, hcell⟩ := hc (by omega)
    refine wp_append_lies w s x t ho base e i z size bytes ht hi hz h2 h3 hzs hsz v n xs hs hown A m c news hx hl hcell h1 (by omega) h63 hbytes hbase _ rfl fun g cap w' ho' hg hat hlt => ?_
    rcases hat with h4 | h4
    · exact h _ w' ho' hg (.inr (.inl h4))
    · exact h _ w' ho' hg (.inr (.inr (by rw [h4]; rfl)))
end Go.Proofs.YtfgoiojmbphmnaaGreatDoor
end
section
/- Rows that the call owns, as lists: append of a list to them. -/
set_option linter.unusedSimpArgs false
set_option linter.unusedVariables false
namespace Go.Proofs.YtfgoiojmbphmnaaGreatDoor
open Go.RowKit
variable {α : Type}
/-- v is a row of elements of type e, which lies in blocks made since w0; what lay in w0 is as it was -/
def OwnV (e : TypeId) (size : Nat) (enc : α → List Value) (w0 : World) (v : Value) (L : List α) (w : World) : Prop :=
  w.ownsRow w0.heap.size e size v L.length (L.flatMap enc) ∧ Below w0.heap.size w0 w
theorem own_below' {w w' : World} {B e size n : Nat} {v : Value} {xs : List Value} (h : w.ownsRow B e size v n xs) (hb : Below w.heap.size w w') : w'.ownsRow B e size v n xs := by
  refine ⟨h.1, ?_⟩
  rcases h.2 with h0 | ⟨g, cap, cur, hv, hg, hh, rest⟩
  · exact .inl h0
  · exact .inr ⟨g, cap, cur, hv, hg, (hb.block g (lt_of_blk hh)).trans hh, rest⟩
theorem OwnV.below {e size : Nat} {enc : α → List Value} {w0 w w' : World} {v : Value} {L : List α} (h : OwnV e size enc w0 v L w) (hb : Below w.heap.size w w') : OwnV e size enc w0 v L w' :=
  ⟨own_below' h.1 hb, h.2.trans (hb.mono h.2.size)⟩
theorem OwnV.start (e size : Nat) (enc : α → List Value) (w0 : World) : OwnV e size enc w0 (.slice none 0 0) [] w0 := ⟨⟨by simp, .inl ⟨rfl, rfl⟩⟩, Below.refl _ _⟩
theorem OwnV.nil {e size : Nat} {enc : α → List Value} {w0 w : World} (hb : Below w0.heap.size w0 w) : OwnV e size enc w0 (.slice none 0 0) [] w := ⟨⟨by simp, .inl ⟨rfl, rfl⟩⟩, hb⟩
theorem OwnV.vec {e size : Nat} {enc : α → List Value} (hk : ∀ x, (enc x).length = size) {w0 w : World} {v : Value} {L : List α} (h : OwnV e size enc w0 v L w) : Vec w (fun b => w0.heap.size ≤ b) size enc v L :=
  Vec.owns hk h.1 fun b hb _ => hb
theorem OwnV.form {e size : Nat} {enc : α → List Value} {w0 w : World} {v : Value} {L : List α} (h : OwnV e size enc w0 v L w) : (v = .slice none 0 0 ∧ L = []) ∨ ∃ g cap, v = .slice (some ⟨g, 0, none⟩) L.length cap ∧ L.length ≤ cap ∧ cap ≤ maxLen ∧ g < w.heap.size := by
  rcases h.1.2 with ⟨rfl, h0⟩ | ⟨g, cap, cur, rfl, _, hh, h1, h2, _⟩
  · exact .inl ⟨rfl, List.length_eq_zero_iff.1 h0⟩
  · exact .inr ⟨g, cap, rfl, h1, h2, lt_of_blk hh⟩
theorem OwnV.rebase {e size : Nat} {enc : α → List Value} {w0 w1 w : World} {v : Value} {L : List α} (h : OwnV e size enc w1 v L w) (hb : Below w0.heap.size w0 w1) : OwnV e size enc w0 v L w := by
  refine ⟨⟨h.1.1, ?_⟩, hb.trans (h.2.mono hb.size)⟩
  rcases h.1.2 with h0 | ⟨g, cap, cur, hv, hg, rest⟩
  · exact .inl h0
  · exact .inr ⟨g, cap, cur, hv, Nat.le_trans hb.size hg, rest⟩
/-- one element that lies at the head of a block -/
theorem reads_block {w : World} {g : Nat} {t : TypeId} {fr : Nat × Nat} {size c : Nat} {xs : List Value} (h : w.heap[g]? = some (.cells xs.toArray t fr)) (hl : xs.length = size) : Reads w size (.slice (some ⟨g, 0, none⟩) 1 c) 1 xs :=
  ⟨_, c, rfl, by omega, fun _ => ⟨_, rfl, fun j u hj => by rw [add_plain, cell_of_row _ _ _ _ _ _ h, Nat.zero_add]; simpa using hj⟩⟩
/-- the elements of a row can be read -/
theorem Vec.reads {w : World} {S : Nat → Prop} {k : Nat} {enc : α → List Value} (hk : ∀ x, (enc x).length = k) {v : Value} {L : List α} (h : Vec w S k enc v L) : Reads w k v L.length (L.flatMap enc) := by
  obtain ⟨a, cap, rfl, _, h3⟩ := h
  refine ⟨a, cap, rfl, flat_len hk L, fun h0 => ?_⟩
  obtain ⟨b, off, rfl, _, hb, hc⟩ := h3 h0
  refine ⟨⟨b, off, none⟩, rfl, fun j u hj => ?_⟩
  rw [add_plain]
  have hjl : j < L.length * k := by rw [← flat_len hk L]; exact (List.getElem?_eq_some_iff.1 hj).1
  have hk0 : 0 < k := by
    rcases Nat.eq_zero_or_pos k with h' | h'
    · rw [h', Nat.mul_zero] at hjl; omega
    · exact h'
  have hq : j / k < L.length := Nat.div_lt_of_lt_mul (by rw [Nat.mul_comm]; exact hjl)
  have hr : j % k < k := Nat.mod_lt _ hk0
  have e1 : j / k * k + j % k = j := Nat.div_add_mod' j k
  have hg := flat_get hk L (j / k) _ (List.getElem?_eq_getElem hq) (j % k) hr
  rw [e1, hj] at hg
  have := hc (j / k) _ (List.getElem?_eq_getElem hq) (j % k) u hg.symm
  rwa [Nat.add_assoc, e1] at this
theorem Vec.reads_take {w : World} {S : Nat → Prop} {k : Nat} {enc : α → List Value} (hk : ∀ x, (enc x).length = k) {a : Option Addr} {n cap : Nat} {L : List α} (h : Vec w S k enc (.slice a n cap) L) (m : Nat) (hm : m ≤ L.length) : Reads w k (.slice a m cap) m ((L.take m).flatMap enc) := by
  have h' : Vec w S k enc (.slice a m cap) (L.take m) := by
    obtain ⟨a', cap', h1, h2, h3⟩ := h
    cases h1
    refine ⟨a, cap, by rw [List.length_take, Nat.min_eq_left hm], by rw [List.length_take]; omega, fun h0 => ?_⟩
    rw [List.length_take] at h0
    obtain ⟨b, off, h4, h5, h5', h6⟩ := h3 (by omega)
    refine ⟨b, off, h4, h5, h5', fun j x hj => h6 j x ?_⟩
    rw [List.getElem?_take] at hj
    split at hj
    · exact hj
    · cases hj
  have := h'.reads hk
  rwa [List.length_take, Nat.min_eq_left hm] at this
theorem Vec.reads_drop {w : World} {S : Nat → Prop} {enc : α → List Value} (hk : ∀ x, (enc x).length = 1) {b off n cap : Nat} {L : List α} (h : Vec w S 1 enc (.slice (some ⟨b, off, none⟩) n cap) L) (m : Nat) (hm : m ≤ L.length) (p : Prop) [Decidable p] (hp : p → m = L.length) (c : Nat) :
    Reads w 1 (.slice (if p then some ⟨b, off, none⟩ else some ⟨b, off + m, none⟩) (L.length - m) c) (L.length - m) ((L.drop m).flatMap enc) := by
  have hr := h.reads hk
  obtain ⟨a, c', he, hl, hc⟩ := hr
  cases he
  refine ⟨_, c, rfl, by rw [flat_len hk, List.length_drop], fun h0 => ?_⟩
  have hnp : ¬ p := fun hp' => by have := hp hp'; omega
  rw [if_neg hnp]
  obtain ⟨A, hA, hcell⟩ := hc (by omega)
  cases hA
  refine ⟨_, rfl, fun j v hj => ?_⟩
  have e : (L.flatMap enc)[m + j]? = some v := by
    have h2 : L.flatMap enc = (L.take m).flatMap enc ++ (L.drop m).flatMap enc := by rw [← List.flatMap_append, List.take_append_drop]
    have h3 : ((L.take m).flatMap enc).length = m := by rw [flat_len hk, List.length_take, Nat.min_eq_left hm]; omega
    rw [h2, List.getElem?_append_right (by omega), h3, show m + j - m = j by omega]; exact hj
  have := hcell (m + j) v e
  rw [add_plain] at this ⊢
  rwa [Nat.add_assoc]
section
variable {P : Program} {w : World} {o : Oper} {a : Act} {K : Act → World → Prop} {Q : Exit → Act → World → Prop}
/-- append of a list, as an operation -/
theorem wp_append_v (s x : Operand) (t : TypeId) (ho : o.op = .call { callee := .builtin .append, args := #[s, x], argTypes := #[t, t] })
    (e : TypeId) (z : Value) (size bytes : Nat) (enc : α → List Value) (hk : ∀ x, (enc x).length = size) (h1 : ∀ x, ∀ u ∈ enc x, u.oneCell' = true) (ht : P.underlying t = some (.slice e)) (hinfo : (P.info? e).map (fun i => (i.zero, i.size, i.bytes)) = some (some z, size, bytes))
    (hzs : z.cells.size = size) (hsz : 0 < size) (hby : bytes ≤ 128) {w0 : World} {v u : Value} {A B : List α} (hs : a.eval s = v) (hown : OwnV e size enc w0 v A w) (hx : a.eval x = u) (hr : Reads w size u B.length (B.flatMap enc)) (hn : A.length + B.length ≤ 1000000000)
    (h : ∀ v' w', OwnV e size enc w0 v' (A ++ B) w' → (∀ k o, some k ≠ v.ownBlock → w.heap[k]? = some o → w'.heap[k]? = some o) → w.heap.size ≤ w'.heap.size → K (a.put o.dst v') w') : Oper.wp P o a w K Q := by
  refine wp_append_reads s x t ho w0.heap.size e z size bytes ht hinfo hzs hsz v A.length (A.flatMap enc) hs hown.1 u B.length (B.flatMap enc) hx hr (fun u hu => ?_) (by unfold maxLen; omega) ?_ hown.2.size ?_
  · obtain ⟨y, _, hy⟩ := List.mem_flatMap.1 hu
    exact h1 y u hy
  · exact Nat.le_trans (Nat.mul_le_mul hn hby) (by decide)
  · intro v' w' ho' hg hat
    refine h v' w' ⟨by rw [List.length_append, List.flatMap_append]; exact ho', hown.2.grown hg hown.2.size fun k hk => ?_⟩ (fun k o hk hko => (hg.block k (lt_of_blk hko) hk).trans hko) hg.size
    rcases hown.1.2 with ⟨rfl, _⟩ | ⟨g, cap, cur, rfl, hg1, _⟩
    · simp [Value.ownBlock] at hk
    · have : g = k := by simpa [Value.ownBlock] using hk
      omega
end
end Go.Proofs.YtfgoiojmbphmnaaGreatDoor
end
section
/- Rows that are made while the deck moves on: append to them. -/
set_option linter.unusedSimpArgs false
set_option linter.unusedVariables false
namespace Go.Proofs.YtfgoiojmbphmnaaGreatDoor
open Go.RowKit
variable {α : Type}
/-- v is a row of elements of type e, in blocks made since wA; what lay in wA is as it was, but for the deck in block D -/
def OwnM (D e size : Nat) (enc : α → List Value) (wA : World) (v : Value) (L : List α) (w : World) : Prop :=
  w.ownsRow wA.heap.size e size v L.length (L.flatMap enc) ∧ Moved D wA w
theorem OwnM.moved {D e size : Nat} {enc : α → List Value} {wA w w' : World} {v : Value} {L : List α} (h : OwnM D e size enc wA v L w) (m : Moved D w w') : OwnM D e size enc wA v L w' := by
  refine ⟨⟨h.1.1, ?_⟩, h.2.trans m⟩
  rcases h.1.2 with h0 | ⟨g, cap, cur, hv, hg, hh, rest⟩
  · exact .inl h0
  · exact .inr ⟨g, cap, cur, hv, hg, m.blk (by have := h.2.lt; omega) hh, rest⟩
theorem OwnM.below {D e size : Nat} {enc : α → List Value} {wA w w' : World} {v : Value} {L : List α} (h : OwnM D e size enc wA v L w) (hb : Below w.heap.size w w') : OwnM D e size enc wA v L w' :=
  h.moved ((Moved.start h.2.deck).below hb)
theorem OwnM.nil {D e size : Nat} {enc : α → List Value} {wA w : World} (m : Moved D wA w) : OwnM D e size enc wA (.slice none 0 0) [] w := ⟨⟨by simp, .inl ⟨rfl, rfl⟩⟩, m⟩
theorem OwnM.vec {D e size : Nat} {enc : α → List Value} (hk : ∀ x, (enc x).length = size) {wA w : World} {v : Value} {L : List α} (h : OwnM D e size enc wA v L w) : Vec w (fun b => wA.heap.size ≤ b) size enc v L :=
  Vec.owns hk h.1 fun b hb _ => hb
theorem Moved.grown' {D : Nat} {wA w w' : World} {row : Option Nat} (h : Moved D wA w) (hg : w.grownBy w' row) (hr : ∀ k, row = some k → wA.heap.size ≤ k) : Moved D wA w' := by
  have hlt := h.lt
  refine ⟨⟨hg.os.trans h.grown.os, hg.tape.trans h.grown.tape, hg.output.trans h.grown.output, Nat.le_trans h.size hg.size, fun k hk hne => ?_⟩, h.deck.same fun k hk => hg.block k (by have := h.size; omega) (fun e => by have := hr k e.symm; omega), hlt⟩
  rw [hg.block k (by have := h.size; omega) (fun e => by have := hr k e.symm; omega)]
  exact h.grown.block k hk hne
section
variable {P : Program} {w : World} {o : Oper} {a : Act} {K : Act → World → Prop} {Q : Exit → Act → World → Prop}
theorem wp_append_m (s x : Operand) (t : TypeId) (ho : o.op = .call { callee := .builtin .append, args := #[s, x], argTypes := #[t, t] })
    (D e : Nat) (z : Value) (size bytes : Nat) (enc : α → List Value) (hk : ∀ x, (enc x).length = size) (h1 : ∀ x, ∀ u ∈ enc x, u.oneCell' = true) (ht : P.underlying t = some (.slice e)) (hinfo : (P.info? e).map (fun i => (i.zero, i.size, i.bytes)) = some (some z, size, bytes))
    (hzs : z.cells.size = size) (hsz : 0 < size) (hby : bytes ≤ 128) {wA : World} {v u : Value} {A B : List α} (hs : a.eval s = v) (hown : OwnM D e size enc wA v A w) (hx : a.eval x = u) (hr : Reads w size u B.length (B.flatMap enc)) (hn : A.length + B.length ≤ 1000000000)
    (h : ∀ v' w', OwnM D e size enc wA v' (A ++ B) w' → (∀ k o, some k ≠ v.ownBlock → w.heap[k]? = some o → w'.heap[k]? = some o) → K (a.put o.dst v') w') : Oper.wp P o a w K Q := by
  refine wp_append_reads s x t ho wA.heap.size e z size bytes ht hinfo hzs hsz v A.length (A.flatMap enc) hs hown.1 u B.length (B.flatMap enc) hx hr (fun u hu => ?_) (by unfold maxLen; omega) ?_ hown.2.size ?_
  · obtain ⟨y, _, hy⟩ := List.mem_flatMap.1 hu
    exact h1 y u hy
  · exact Nat.le_trans (Nat.mul_le_mul hn hby) (by decide)
  · intro v' w' ho' hg hat
    refine h v' w' ⟨by rw [List.length_append, List.flatMap_append]; exact ho', hown.2.grown' hg fun k hk => ?_⟩ (fun k o hk hko => (hg.block k (lt_of_blk hko) hk).trans hko)
    rcases hown.1.2 with ⟨rfl, _⟩ | ⟨g, cap, cur, rfl, hg1, _⟩
    · simp [Value.ownBlock] at hk
    · have : g = k := by simpa [Value.ownBlock] using hk
      omega
theorem wpList_append_m {ops : Array Oper} {rest : List Oper} (hgd : o.guard = none) (s x : Operand) (t : TypeId) (ho : o.op = .call { callee := .builtin .append, args := #[s, x], argTypes := #[t, t] })
    (D e : Nat) (z : Value) (size bytes : Nat) (enc : α → List Value) (hk : ∀ x, (enc x).length = size) (h1 : ∀ x, ∀ u ∈ enc x, u.oneCell' = true) (ht : P.underlying t = some (.slice e)) (hinfo : (P.info? e).map (fun i => (i.zero, i.size, i.bytes)) = some (some z, size, bytes))
    (hzs : z.cells.size = size) (hsz : 0 < size) (hby : bytes ≤ 128) {wA : World} {v u : Value} {A B : List α} (hs : a.eval s = v) (hown : OwnM D e size enc wA v A w) (hx : a.eval x = u) (hr : Reads w size u B.length (B.flatMap enc)) (hn : A.length + B.length ≤ 1000000000)
    (h : ∀ v' w', OwnM D e size enc wA v' (A ++ B) w' → (∀ k o, some k ≠ v.ownBlock → w.heap[k]? = some o → w'.heap[k]? = some o) → wpList P ops Q rest (a.put o.dst v') w') : wpList P ops Q (o :: rest) a w :=
  wpList_plain hgd fun _ hK => wp_append_m s x t ho D e z size bytes enc hk h1 ht hinfo hzs hsz hby hs hown hx hr hn fun v' w' h2 h3 => hK _ _ (h v' w' h2 h3)
theorem wpList_append_v {ops : Array Oper} {rest : List Oper} (hgd : o.guard = none) (s x : Operand) (t : TypeId) (ho : o.op = .call { callee := .builtin .append, args := #[s, x], argTypes := #[t, t] })
    (e : TypeId) (z : Value) (size bytes : Nat) (enc : α → List Value) (hk : ∀ x, (enc x).length = size) (h1 : ∀ x, ∀ u ∈ enc x, u.oneCell' = true) (ht : P.underlying t = some (.slice e)) (hinfo : (P.info? e).map (fun i => (i.zero, i.size, i.bytes)) = some (some z, size, bytes))
    (hzs : z.cells.size = size) (hsz : 0 < size) (hby : bytes ≤ 128) {w0 : World} {v u : Value} {A B : List α} (hs : a.eval s = v) (hown : OwnV e size enc w0 v A w) (hx : a.eval x = u) (hr : Reads w size u B.length (B.flatMap enc)) (hn : A.length + B.length ≤ 1000000000)
    (h : ∀ v' w', OwnV e size enc w0 v' (A ++ B) w' → (∀ k o, some k ≠ v.ownBlock → w.heap[k]? = some o → w'.heap[k]? = some o) → w.heap.size ≤ w'.heap.size → wpList P ops Q rest (a.put o.dst v') w') : wpList P ops Q (o :: rest) a w :=
  wpList_plain hgd fun _ hK => wp_append_v s x t ho e z size bytes enc hk h1 ht hinfo hzs hsz hby hs hown hx hr hn fun v' w' h2 h3 h4 => hK _ _ (h v' w' h2 h3 h4)
end
end Go.Proofs.YtfgoiojmbphmnaaGreatDoor
end
section
/- Plain law: grams: the set of a list, ascending; bigrams; how many. -/
set_option linter.unusedSimpArgs false
set_option linter.unusedVariables false
set_option maxRecDepth 100000
namespace Go.Proofs.YtfgoiojmbphmnaaGreatDoor
open Go.RowKit Go.Maps
/-- the elements of a list, ascending -/
def setL (L : List (List UInt8)) : List (List UInt8) := L.eraseDups.mergeSort leB
theorem leB_trans : ∀ a b c : List UInt8, leB a b = true → leB b c = true → leB a c = true := fun a b c h1 h2 => by simp only [leB, decide_eq_true_eq] at *; exact List.le_trans h1 h2
theorem leB_total : ∀ a b : List UInt8, (leB a b || leB b a) = true := fun a b => by simp only [leB, Bool.or_eq_true, decide_eq_true_eq]; exact List.le_total a b
theorem erase_nodup (L : List (List UInt8)) : ∀ n, L.length ≤ n → L.eraseDups.Nodup := by
  intro n
  induction n generalizing L with
  | zero => intro h; have : L = [] := List.length_eq_zero_iff.1 (by omega); subst this; simp
  | succ n ih =>
    intro h
    cases L with
    | nil => simp
    | cons a L =>
      rw [List.eraseDups_cons]
      refine List.nodup_cons.2 ⟨?_, ih _ ?_⟩
      · rw [List.mem_eraseDups]; simp
      · have := List.length_filter_le (fun b => !b == a) L; simp at h ⊢; omega
theorem erase_len (L : List (List UInt8)) : ∀ n, L.length ≤ n → L.eraseDups.length ≤ L.length := by
  intro n
  induction n generalizing L with
  | zero => intro h; have : L = [] := List.length_eq_zero_iff.1 (by omega); subst this; simp
  | succ n ih =>
    intro h
    cases L with
    | nil => simp
    | cons a L =>
      rw [List.eraseDups_cons, List.length_cons, List.length_cons]
      have h1 := List.length_filter_le (fun b => !b == a) L
      have := ih (L.filter fun b => !b == a) (by simp at h ⊢; omega)
      omega
theorem set_mem (L : List (List UInt8)) (x : List UInt8) : x ∈ setL L ↔ x ∈ L := by
  unfold setL; rw [List.mem_mergeSort, List.mem_eraseDups]
theorem set_nodup (L : List (List UInt8)) : (setL L).Nodup := (List.mergeSort_perm _ _).nodup_iff.2 (erase_nodup L _ (Nat.le_refl _))
theorem set_len (L : List (List UInt8)) : (setL L).length ≤ L.length := by
  unfold setL; rw [(List.mergeSort_perm _ _).length_eq]; exact erase_len L _ (Nat.le_refl _)
theorem set_nil (L : List (List UInt8)) : setL L = [] ↔ L = [] := by
  constructor
  · intro h
    cases L with
    | nil => rfl
    | cons a L => have := (set_mem (a :: L) a).2 (by simp); rw [h] at this; simp at this
  · intro h; subst h; simp [setL]
def AscB (L : List (List UInt8)) : Prop := ∀ i, i + 1 < L.length → Op.bytesLess (L.getD i []) (L.getD (i + 1) []) = true
theorem set_asc (L : List (List UInt8)) : AscB (setL L) := by
  intro i hi
  have hs : (setL L).Pairwise fun a b => leB a b = true := List.pairwise_mergeSort leB_trans leB_total _
  have h1 := (List.pairwise_iff_getElem.1 hs) i (i + 1) (by omega) hi (by omega)
  have h2 := (List.pairwise_iff_getElem.1 (set_nodup L)) i (i + 1) (by omega) hi (by omega)
  rw [bytesLess_eq, List.getD, List.getD, List.getElem?_eq_getElem (by omega), List.getElem?_eq_getElem hi]
  simp only [leB, decide_eq_true_eq] at h1
  simp only [Option.getD_some, decide_eq_true_eq]
  rcases List.le_iff_lt_or_eq.1 h1 with h | h
  · exact h
  · exact absurd h h2
/-- whatever has the same elements, each once, is sorted to the set -/
theorem set_of_perm {L ss : List (List UInt8)} (hn : ss.Nodup) (hm : ∀ x, x ∈ ss ↔ x ∈ L) : ss.mergeSort leB = setL L := by
  refine mergeSort_of_perm ((List.perm_ext_iff_of_nodup hn (erase_nodup L _ (Nat.le_refl _))).2 fun x => ?_)
  rw [hm, List.mem_eraseDups]
/-- the bigrams of a text, in order -/
def bigrA : List UInt8 → List (List UInt8)
  | a :: b :: r => [a, b] :: bigrA (b :: r)
  | _ => []
theorem bigr_len : ∀ l : List UInt8, (bigrA l).length = l.length - 1 := by
  intro l
  induction l using bigrA.induct with
  | case1 a b r ih => simp [bigrA, ih]
  | case2 l h =>
    match l, h with
    | [], _ => rfl
    | [a], _ => rfl
    | a :: b :: r, h => exact absurd rfl (h a b r)
theorem bigr_snoc (l : List UInt8) (a b : UInt8) : bigrA (l ++ [a, b]) = bigrA (l ++ [a]) ++ [[a, b]] := by
  induction l with
  | nil => rfl
  | cons c l ih =>
    cases l with
    | nil => rfl
    | cons d l => simp only [List.cons_append, bigrA] at ih ⊢; rw [ih]
def wrapT (t : List UInt8) : List UInt8 := [95] ++ t ++ [95]
/-- the bigrams of all tokens of a text -/
def gramsAll (T : List (List UInt8)) : List (List UInt8) := T.flatMap fun t => bigrA (wrapT t)
def gramsL (l : List UInt8) : List (List UInt8) := setL (gramsAll (toks l))
theorem gramsAll_len (T : List (List UInt8)) : T ≠ [] → (gramsAll T).length = (joinL T).length + 1 := by
  induction T with
  | nil => intro h; exact absurd rfl h
  | cons t T ih =>
    intro _
    have e : (gramsAll (t :: T)).length = t.length + 1 + (gramsAll T).length := by
      simp only [gramsAll, List.flatMap_cons, List.length_append, bigr_len, wrapT]; simp; try omega
    by_cases hT : T = []
    · subst hT; rw [e]; simp [gramsAll, joinL]
    · rw [e, ih hT, join_cons_ne _ _ hT]; simp; omega
/-- a text of 64 bytes at most has 65 grams at most; one that is not empty has some -/
theorem grams_bound {l : List UInt8} (h : l.length ≤ 64) : (gramsL l).length ≤ 65 := by
  have h1 := set_len (gramsAll (toks l))
  have h2 := (toksA_len l []).1
  by_cases hT : toks l = []
  · unfold gramsL; rw [hT]; simp [gramsAll, setL]
  · have h3 := gramsAll_len (toks l) hT
    unfold gramsL; unfold toks at *; simp at h2; omega
theorem grams_some {l : List UInt8} (h : toks l ≠ []) : gramsL l ≠ [] := by
  intro e
  have e2 := (set_nil _).1 e
  have := gramsAll_len (toks l) h
  rw [e2] at this; simp at this
theorem pos_asc (l : List UInt8) : ∀ j, j + l.length ≤ 26 → AscB (posL j l) := by
  intro j hj i hi
  have key : ∀ (l : List UInt8) (j i : Nat), i < l.length → (posL j l).getD i [] = [UInt8.ofNat (97 + (j + i)), l.getD i 0] := by
    intro l
    induction l with
    | nil => intro j i hi; simp at hi
    | cons c l ih =>
      intro j i hi
      cases i with
      | zero => rfl
      | succ i =>
        have := ih (j + 1) i (by simp at hi; omega)
        simp only [posL, List.getD_cons_succ] at this ⊢
        rw [this]; congr 2; congr 1; omega
  rw [posL_len] at hi
  rw [key l j i (by omega), key l j (i + 1) (by omega), bytesLess_eq, decide_eq_true_iff]
  refine List.cons_lt_cons_iff.2 (.inl ?_)
  rw [UInt8.lt_iff_toNat_lt, UInt8.toNat_ofNat', UInt8.toNat_ofNat']; omega
end Go.Proofs.YtfgoiojmbphmnaaGreatDoor
end
section
/- The plain law of the reference's set: sorted insertion. -/
set_option linter.unusedSimpArgs false
set_option linter.unusedVariables false
namespace Go.Proofs.YtfgoiojmbphmnaaGreatDoor
def insL (x : List UInt8) : List (List UInt8) → List (List UInt8)
  | [] => [x]
  | y :: r => if y < x then y :: insL x r else if y = x then y :: r else x :: y :: r
theorem insL_mem (x z : List UInt8) (L : List (List UInt8)) : z ∈ insL x L ↔ z = x ∨ z ∈ L := by
  induction L with
  | nil => simp [insL]
  | cons y r ih =>
    unfold insL
    by_cases h : y < x
    · rw [if_pos h, List.mem_cons, ih, List.mem_cons]
      constructor
      · rintro (h | h | h) <;> simp [h]
      · rintro (h | h | h) <;> simp [h]
    · rw [if_neg h]
      by_cases h2 : y = x
      · rw [if_pos h2, List.mem_cons]
        subst h2
        constructor
        · rintro (h | h) <;> simp [h]
        · rintro (h | h | h) <;> simp [h]
      · rw [if_neg h2, List.mem_cons, List.mem_cons]
theorem insL_asc (x : List UInt8) (L : List (List UInt8)) (h : L.Pairwise (· < ·)) : (insL x L).Pairwise (· < ·) := by
  induction L with
  | nil => simp [insL]
  | cons y r ih =>
    rw [List.pairwise_cons] at h
    unfold insL
    by_cases h1 : y < x
    · rw [if_pos h1, List.pairwise_cons]
      refine ⟨fun z hz => ?_, ih h.2⟩
      rcases (insL_mem x z r).1 hz with rfl | hz
      · exact h1
      · exact h.1 z hz
    · rw [if_neg h1]
      by_cases h2 : y = x
      · rw [if_pos h2, List.pairwise_cons]; exact h
      · rw [if_neg h2, List.pairwise_cons, List.pairwise_cons]
        have hxy : x < y := by
          rcases List.le_iff_lt_or_eq.1 (List.not_lt.1 h1) with h3 | h3
          · exact h3
          · exact absurd h3.symm h2
        refine ⟨fun z hz => ?_, h⟩
        rcases List.mem_cons.1 hz with rfl | hz
        · exact hxy
        · exact List.lt_trans hxy (h.1 z hz)
def foldI (L : List (List UInt8)) : List (List UInt8) := L.foldl (fun a x => insL x a) []
theorem foldI_take (L : List (List UInt8)) (k : Nat) (hk : k < L.length) : foldI (L.take (k + 1)) = insL L[k] (foldI (L.take k)) := by
  unfold foldI
  rw [List.take_succ_eq_append_getElem hk, List.foldl_append]
  rfl
theorem foldI_is (L : List (List UInt8)) : ∀ A : List (List UInt8), A.Pairwise (· < ·) → (L.foldl (fun a x => insL x a) A).Pairwise (· < ·) ∧ ∀ z, z ∈ L.foldl (fun a x => insL x a) A ↔ z ∈ A ∨ z ∈ L := by
  induction L with
  | nil => intro A h; exact ⟨h, fun z => by simp⟩
  | cons x L ih =>
    intro A h
    obtain ⟨h1, h2⟩ := ih (insL x A) (insL_asc x A h)
    refine ⟨h1, fun z => ?_⟩
    show z ∈ L.foldl (fun a x => insL x a) (insL x A) ↔ _
    rw [h2, insL_mem, List.mem_cons]
    constructor
    · rintro ((h | h) | h) <;> simp [h]
    · rintro (h | h | h) <;> simp [h]
theorem foldI_asc (L : List (List UInt8)) : (foldI L).Pairwise (· < ·) := (foldI_is L [] List.Pairwise.nil).1
theorem foldI_set (L : List (List UInt8)) : foldI L = setL L := by
  have ha := foldI_asc L
  have hm := (foldI_is L [] List.Pairwise.nil).2
  have hn : (foldI L).Nodup := ha.imp fun {a b} h e => by subst e; exact List.lt_irrefl a h
  have hs : (foldI L).mergeSort leB = foldI L := List.mergeSort_of_pairwise (ha.imp fun {a b} h => by simpa [leB] using List.le_of_lt h)
  rw [← hs]
  exact set_of_perm hn fun z => by rw [foldI, hm]; simp
/-- what an insertion at the first place that is not smaller makes -/
theorem insL_split (x : List UInt8) (A B : List (List UInt8)) (hA : ∀ y ∈ A, y < x) (hB : ∀ y r, B = y :: r → ¬ y < x) :
    insL x (A ++ B) = if B.head? = some x then A ++ B else A ++ x :: B := by
  induction A with
  | nil =>
    cases B with
    | nil => rfl
    | cons y r =>
      show insL x (y :: r) = _
      unfold insL
      rw [if_neg (hB y r rfl)]
      simp only [List.nil_append, List.head?_cons, Option.some.injEq]
  | cons a A ih =>
    show insL x (a :: (A ++ B)) = _
    unfold insL
    rw [if_pos (hA a (by simp)), ih (fun y hy => hA y (by simp [hy]))]
    split <;> rfl
theorem insL_len (x : List UInt8) (L : List (List UInt8)) : (insL x L).length ≤ L.length + 1 := by
  induction L with
  | nil => simp [insL]
  | cons y r ih =>
    unfold insL
    split
    · simp; omega
    · split <;> simp
end Go.Proofs.YtfgoiojmbphmnaaGreatDoor
end
section
/- The contracts of slices.Sorted(maps.Keys(m)) at this program (written by the kit's lay-iter.mjs, the layings apart). -/
namespace Go.Proofs
open Go.RowKit Go.Maps Go.Sort Go.Shelf


theorem Tryz.sorts159 (m : Nat) : AnyZ.SortsIn Tryz.prog Tryz.sorted159_ren Fence.wide m :=
  ⟨fun blk off cap ss W hH hblk hsz => callsIn_wide.2 (AnyM.slices_Sort_string Tryz.sort175 blk off cap ss W hH hblk hsz),
   fun p cap W => callsIn_wide.2 (AnyM.slices_Sort_string_none Tryz.sort175 p cap W)⟩

theorem Tryz.maps_Keys (mb : Option Nat) (W : World) : CallsIn Fence.wide 5 Tryz.prog 160 #[.map mb] W fun e w' => e = .returned (.func (.func 176) #[] #[.pointer (some ⟨W.heap.size, 0, none⟩)]) ∧ w' = W.alloc (.cells #[.map mb] 151) :=
  AnyZ.keys_in Tryz.keys160 Fence.wide 5 trivial rfl mb W

set_option maxHeartbeats 1000000 in
theorem Tryz.slices_Sorted_keys {H : Type} (b nn : Nat) (D0 : DataW H) (R : Value → Option (DataW H × List MemPlace)) (w : World) (hown : w.ownsMap Tryz.prog 9 R b nn D0) (hmax : Maps.size D0 ≤ maxLen) (hbytes : Maps.size D0 * 16 ≤ 140737488355328) :
    CallsIn Fence.wide 5 Tryz.prog 159 #[.func (.func 176) #[] #[.pointer (some ⟨w.heap.size, 0, none⟩)]] (w.alloc (.cells #[.map (some b)] 151)) fun e w' => ∃ (v : Value) (ss : List (List UInt8)), e = .returned v ∧ ss.Perm (strKeys D0) ∧
      w'.ownsRow (w.alloc (.cells #[.map (some b)] 151)).heap.size 9 1 v ss.length ((ss.mergeSort (fun x y => decide (x ≤ y))).map encStr) ∧ (v = .slice none 0 0 ↔ ss = []) ∧ Below (w.alloc (.cells #[.map (some b)] 151)).heap.size (w.alloc (.cells #[.map (some b)] 151)) w' := by
  have hbl := hown.lt
  have hseq : SeqGives Fence.wide 2 Tryz.prog 176 #[.pointer (some ⟨w.heap.size, 0, none⟩)] encStr (fun ss => ss.Perm (strKeys D0)) (Maps.size D0) (w.alloc (.cells #[.map (some b)] 151)) :=
    AnyZ.keys_gives (ρ := Tryz.keys160_ren) { Tryz.keys160 with } Fence.wide _ trivial rfl (by omega) w.heap.size b nn D0 _ (by simp) (by simp) (by
      obtain ⟨es, clock, hb, Ft, hs, hD⟩ := hown
      exact ⟨es, clock, (Below.heap_alloc _ _ b hbl).trans hb, Ft, hs, hD⟩)
  exact AnyZ.sorted_in Tryz.sorted159 Fence.wide 5 trivial trivial trivial trivial rfl (by omega) (Tryz.sorts159 _) (enters_of Tryz.func175 (by kernel_rfl) rfl) 176 #[.pointer (some ⟨w.heap.size, 0, none⟩)] trivial (enters_of Tryz.func176 (by kernel_rfl) rfl) _ _ hmax hbytes _ hseq

set_option maxHeartbeats 1000000 in
theorem Tryz.slices_Sorted_keys_nil (w : World) :
    CallsIn Fence.wide 5 Tryz.prog 159 #[.func (.func 176) #[] #[.pointer (some ⟨w.heap.size, 0, none⟩)]] (w.alloc (.cells #[.map none] 151)) fun e w' => ∃ (v : Value) (ss : List (List UInt8)), e = .returned v ∧ ss = [] ∧
      w'.ownsRow (w.alloc (.cells #[.map none] 151)).heap.size 9 1 v ss.length ((ss.mergeSort (fun x y => decide (x ≤ y))).map encStr) ∧ (v = .slice none 0 0 ↔ ss = []) ∧ Below (w.alloc (.cells #[.map none] 151)).heap.size (w.alloc (.cells #[.map none] 151)) w' := by
  have hseq : SeqGives Fence.wide 2 Tryz.prog 176 #[.pointer (some ⟨w.heap.size, 0, none⟩)] encStr (fun ss : List (List UInt8) => ss = []) 0 (w.alloc (.cells #[.map none] 151)) :=
    AnyZ.keys_gives_nil (ρ := Tryz.keys160_ren) { Tryz.keys160 with } Fence.wide _ trivial rfl w.heap.size _ (by simp) (by simp)
  exact AnyZ.sorted_in Tryz.sorted159 Fence.wide 5 trivial trivial trivial trivial rfl (by omega) (Tryz.sorts159 _) (enters_of Tryz.func175 (by kernel_rfl) rfl) 176 #[.pointer (some ⟨w.heap.size, 0, none⟩)] trivial (enters_of Tryz.func176 (by kernel_rfl) rfl) _ 0 (Nat.zero_le _) (by omega) _ hseq



end Go.Proofs
end
section
/- gram: of, Set: the elements of a list of texts, ascending. -/
set_option linter.unusedSimpArgs false
set_option linter.unusedVariables false
set_option maxRecDepth 100000
namespace Go.Proofs.YtfgoiojmbphmnaaGreatDoor
open Go.RowKit Go.Maps
attribute [local go_sem] toList_mk mk_size
theorem lawS : Keyed Tryz.prog 9 := string_keyed Tryz.underlying9
def unitD : DataW Unit := .agg []
/-- the set of the first texts of a list, as a map's datum -/
def setD (L : List (List UInt8)) : DataW Unit := setOf unitD (L.map Lit.string)
theorem keyLit (L : List (List UInt8)) : ∀ x ∈ L.map Lit.string, WideAt.IsKeyLit x := by
  intro x hx
  obtain ⟨y, _, rfl⟩ := List.mem_map.1 hx
  trivial
theorem setD_snoc (L : List (List UInt8)) (x : List UInt8) : setD (L ++ [x]) = (setD L).put (.string x) unitD := by
  unfold setD; rw [List.map_append, List.map_cons, List.map_nil, setOf_snoc]
set_option maxHeartbeats 2000000 in
theorem of_any (S : Nat → Prop) (v : Value) (L : List (List UInt8)) (w : World) (h : Vec w S 1 encS v L) (hn : L.length ≤ 1000000) (hL : ∀ t ∈ L, t.length ≤ 1000000) :
    Calls Tryz.prog 161 #[v] w fun e w' => e = .returned (.map (some w.heap.size)) ∧ w'.ownsMap Tryz.prog 9 unitElem w.heap.size L.length (setD L) ∧ Below w.heap.size w w' := by
  have hmm := @run_makeMap Tryz.prog
  obtain ⟨a, cap, rfl⟩ := h.slice
  by_cases hz : L = []
  · subst hz
    clear h
    go_enter Tryz.func161, Tryz.ntmps161
    go_wp2
    refine wp_loop_rounds 1 ?_; rw [rounds_succ]
    go_wp2
    go_ret
    exact ⟨rfl, World.ownsMap_made _ _ _ _, (Below.refl _ _).alloc (Nat.le_refl _) _⟩
  · obtain ⟨b, off, rfl, _, hb, hc⟩ := vec_cell1 h (List.length_pos_iff.2 hz)
    have HC := Lib.hid hc; have HLn := Lib.hid hL
    clear hc h hz hL
    go_enter Tryz.func161, Tryz.ntmps161
    go_wp2
    go_loopw [9] (fun i wr => ∃ k : Nat, k ≤ L.length ∧ i = .int .i64 k ∧ wr.ownsMap Tryz.prog 9 unitElem w.heap.size k (setD (L.take k)) ∧ Below w.heap.size w wr) (fun i _ => L.length - (intOf i).toNat)
    case atStart => exact ⟨0, by omega, rfl, World.ownsMap_made _ _ _ _, (Below.refl _ _).alloc (Nat.le_refl _) _⟩
    case round =>
      obtain ⟨k, hk, rfl, ho, hbw⟩ := hrel
      have HO := Lib.hid ho; have HB := Lib.hid hbw
      by_cases hlt : k < L.length
      · have hq : decide ((k : Int) < L.length) = true := by simp; omega
        have c1 : wr.cell? ⟨b, off + k, none⟩ = some (strV (L.getD k [])) := (hbw.cell (p := ⟨b, off + k, none⟩) hb).trans (HC.out k hlt)
        have hx1 : (L.getD k []).length ≤ 1000000 := by rw [List.getD, List.getElem?_eq_getElem hlt]; exact HLn.out _ (List.getElem_mem hlt)
        have htk := take_snocA L k hlt
        rw [show (default : List UInt8) = [] from rfl] at htk
        obtain ⟨x, hx⟩ : ∃ x, L.getD k [] = x := ⟨_, rfl⟩
        rw [hx] at c1 hx1 htk
        have HT := Lib.hid htk
        have hkey := Lib.hid (WideMaps.keyOf_string_mk (P := Tryz.prog) (k := 9) (s := ⟨x.toArray⟩) Tryz.underlying9 (by rw [mk_size]; unfold maxLen; omega))
        clear hx htk hbw ho
        go_wp2_with (at_mapUpdate; refine wpList_mapUpdate_own _ rfl _ _ _ 151 rfl 9 152 lawS Tryz.underlying151 (unitElem (H := Unit)) w.heap.size k _ rfl HO.out (by unfold maxLen; omega) _ _ _ rfl rfl hkey.out _ [] unitElem_mk ?_; intro w1 hown1 hgrow1)
        go_roundw
        case rel => exact ⟨k + 1, by omega, by go_num, by rw [HT.out, setD_snoc]; exact hown1, HB.out.grown hgrow1 HB.out.size (fun j hj => by cases hj; exact Nat.le_refl _)⟩
        case measure => simp [intOf]; omega
      · have hq : decide ((k : Int) < L.length) = false := by simp; omega
        go_wp2_with fail
        go_ret
        exact ⟨rfl, by rw [List.take_of_length_le (by omega)] at HO; exact HO.out.mono hk, HB.out⟩
theorem keyStr {l : Lit} (h : KeysOf Tryz.prog 9 l) : ∃ x, l = .string x := by
  obtain ⟨v, hv⟩ := h
  obtain ⟨x, _, h2, _⟩ := keyOf_str Tryz.underlying9 hv
  exact ⟨x, h2⟩
theorem setD_perm {w : World} {b n : Nat} {L : List (List UInt8)} (h : w.ownsMap Tryz.prog 9 unitElem b n (setD L)) : L.eraseDups.Perm (strKeys (setD L)) := by
  have ht := tidy_setOf unitD (L.map Lit.string) (keyLit L)
  obtain ⟨es, e1, hk⟩ := h.keysOf
  obtain ⟨es', e2, hp⟩ := ht
  have e3 : setD L = .map es' := e2
  have hes : es = es' := by rw [e1] at e3; cases e3; rfl
  subst hes
  rw [e1]
  refine perm_strKeys hp (fun p hp' => keyStr (hk p hp')) (erase_nodup L _ (Nat.le_refl _)) fun x => ?_
  rw [← e1, List.mem_eraseDups]
  unfold setD
  rw [has_setOf _ _ _ (keyLit L), List.any_map, List.any_eq_true]
  constructor
  · intro hx; exact ⟨x, hx, by simp [Lit.sameKey]⟩
  · rintro ⟨y, hy, he⟩
    have := WideAt.sameKey_eq (show (Lit.string y).sameKey (Lit.string x) = true from he)
    cases this; exact hy
theorem flat_enc (L : List (List UInt8)) : L.map encStr = L.flatMap encS := by
  induction L with
  | nil => rfl
  | cons a L ih => rw [List.map_cons, List.flatMap_cons, ih]; rfl
set_option maxHeartbeats 1000000 in
/-- the elements of a list, ascending, in a new slice -/
theorem set_any (S : Nat → Prop) (v : Value) (L : List (List UInt8)) (w : World) (h : Vec w S 1 encS v L) (hn : L.length ≤ 1000000) (hL : ∀ t ∈ L, t.length ≤ 1000000) :
    Calls Tryz.prog 137 #[v] w fun e w' => ∃ v', e = .returned v' ∧ OwnAt w v' (setL L) w' := by
  have HV := Lib.hid h; have HLn := Lib.hid hL
  clear h hL
  go_enter Tryz.func137, Tryz.ntmps137
  go_wp2_with fail
  refine (of_any S v L _ HV.out hn HLn.out).mono ?_
  rintro e w1 ⟨rfl, ho, hb⟩
  have HO := Lib.hid ho; have HB := Lib.hid hb
  clear ho hb
  go_wp2_with fail
  refine ((callsIn_wide (n := 5)).1 (Tryz.maps_Keys _ _)).mono ?_
  rintro e w' ⟨rfl, rfl⟩
  go_wp2_with fail
  refine ((callsIn_wide (n := 5)).1 (Tryz.slices_Sorted_keys w.heap.size L.length (setD L) unitElem w1 HO.out (by have := HO.out.size_le; unfold maxLen; omega) (by have := HO.out.size_le; omega))).mono ?_
  rintro e w2 ⟨v', ss, rfl, hp, hrow, _, hb2⟩
  have e1 : ss.mergeSort leB = setL L := mergeSort_of_perm (hp.trans (setD_perm HO.out).symm)
  have e2 : ss.length = (setL L).length := by rw [← e1, (List.mergeSort_perm _ _).length_eq]
  have hrow2 : w2.ownsRow (w1.alloc (.cells #[.map (some w.heap.size)] 151)).heap.size 9 1 v' (setL L).length ((setL L).flatMap encS) := by
    rw [← flat_enc, ← e2, ← e1]; exact hrow
  have HR := Lib.hid hrow2
  have HB2 := Lib.hid ((HB.out.alloc HB.out.size (.cells #[.map (some w.heap.size)] 151)).trans (hb2.mono (by have := HB.out.size; simp; omega)))
  clear e1 e2 hrow hrow2 hp hb2
  have hbz := HB.out.size
  go_wp2_with fail
  go_ret
  exact ⟨v', rfl, ownsRow_base_a HR.out (by simp; omega), HB2.out⟩
end Go.Proofs.YtfgoiojmbphmnaaGreatDoor
end
section
/- Plain law: grams of a normal form: ascending, not more than 80, none only of the empty text. -/
set_option linter.unusedSimpArgs false
set_option linter.unusedVariables false
set_option maxRecDepth 100000
namespace Go.Proofs.YtfgoiojmbphmnaaGreatDoor
open Go.RowKit Cal
theorem nameN_toks {r : RulesL} {l v : List UInt8} (h : nameN r l = (v, 0)) : ∃ M : List (List UInt8), (∀ t ∈ M, okT t) ∧ v = joinL M ∧ M.length ≤ 6 ∧ v.length ≤ 64 := by
  unfold nameN at h
  by_cases hc : checkR r = 0
  · rw [if_pos hc] at h
    by_cases hv : foldV l = true
    · rw [if_pos hv] at h
      obtain ⟨h1, _⟩ := nameToks_same hc (toks (foldL l))
      generalize nameToks r (toks (foldL l)) = M at h h1
      by_cases hb : 6 < M.length ∨ 64 < (joinL M).length
      · rw [if_pos hb] at h; simp at h
      · rw [if_neg hb] at h
        obtain rfl : joinL M = v := congrArg Prod.fst h
        exact ⟨M, h1, rfl, by omega, by omega⟩
    · rw [if_neg hv] at h; simp at h
  · rw [if_neg hc] at h
    exact absurd (congrArg Prod.snd h) hc
theorem addrN_toks {r : RulesL} {l v : List UInt8} (h : addrN r l = (v, 0)) : ∃ M : List (List UInt8), (∀ t ∈ M, okT t) ∧ v = joinL M ∧ M.length ≤ 6 ∧ v.length ≤ 64 := by
  unfold addrN at h
  by_cases hc : checkR r = 0
  · rw [if_pos hc] at h
    obtain ⟨_, _, _, h3, _⟩ := check_zero hc
    by_cases hv : foldV l = true
    · rw [if_pos hv] at h
      have hok := toks_ok l
      generalize toks (foldL l) = T at h hok
      have hM : ∀ t ∈ order2 (T.map (addrTok r)), okT t := by
        intro t ht
        obtain ⟨x, hx, rfl⟩ := List.mem_map.1 (order2_mem ht)
        exact (addrTok_same h3 (hok x hx)).1
      have hlen : (order2 (T.map (addrTok r))).length = T.length := by rw [order2_length, List.length_map]
      by_cases hb : 6 < T.length ∨ 64 < (joinL (order2 (T.map (addrTok r)))).length
      · rw [if_pos hb] at h; simp at h
      · rw [if_neg hb] at h
        obtain rfl : joinL (order2 (T.map (addrTok r))) = v := congrArg Prod.fst h
        exact ⟨_, hM, rfl, by omega, by omega⟩
    · rw [if_neg hv] at h; simp at h
  · rw [if_neg hc] at h
    exact absurd (congrArg Prod.snd h) hc
/-- the grams of a normal form of a kind -/
def gramsK (k : Int) (l : List UInt8) : List (List UInt8) := if l = [] then [] else if k = 2 then posL 0 l else if k = 3 then [61 :: l] else gramsL l
theorem asc_one (x : List UInt8) : AscB [x] := by intro i hi; simp at hi
theorem asc_nil : AscB [] := by intro i hi; simp at hi
def GramsOk (L : List (List UInt8)) (v : List UInt8) : Prop := AscB L ∧ L.length ≤ 80 ∧ (L = [] ↔ v = [])
theorem toks_gramsOk {v : List UInt8} {M : List (List UInt8)} (h0 : v ≠ []) (h1 : ∀ t ∈ M, okT t) (h2 : v = joinL M) (h3 : v.length ≤ 64) : GramsOk (gramsL v) v := by
  have ht : toks v = M := by rw [h2]; exact toks_join M h1
  have hM : M ≠ [] := by intro e; subst e; exact h0 h2
  refine ⟨set_asc _, by have := grams_bound h3; omega, ⟨fun e => absurd e (grams_some (by rw [ht]; exact hM)), fun e => absurd e h0⟩⟩
theorem dayN_len {l v : List UInt8} (h : dayN l = (v, 0)) : v.length = 8 := by
  have := dayN_read h
  unfold readB at this
  cases hd : decide (v.length = 8)
  · rw [hd] at this; cases this
  · simpa using hd
theorem gramsK_law {s : SchemaL} {f kf : Int} {l v : List UInt8} (h : valueN s f l = (v, 0)) (hk : findN s f = (kf, 0)) : GramsOk (gramsK kf v) v := by
  by_cases hv : v = []
  · subst hv
    exact ⟨by unfold gramsK; rw [if_pos rfl]; exact asc_nil, by unfold gramsK; rw [if_pos rfl]; simp, by unfold gramsK; simp⟩
  · have hkk := findN_kind (s := s) (f := f) (by rw [hk])
    unfold valueN at h
    rw [hk] at h hkk
    dsimp only at h hkk
    rw [if_pos rfl] at h
    by_cases hl : l = []
    · rw [if_pos hl] at h; exact absurd (congrArg Prod.fst h).symm hv
    · rw [if_neg hl] at h
      unfold gramsK
      rw [if_neg hv]
      rcases hkk with rfl | rfl | rfl | rfl
      · rw [if_neg (by omega), if_neg (by omega)]
        obtain ⟨M, h1, h2, _, h3⟩ := nameN_toks (show nameN s.rules l = (v, 0) from h)
        exact toks_gramsOk hv h1 h2 h3
      · rw [if_pos rfl]
        have h8 := dayN_len (show dayN l = (v, 0) from h)
        exact ⟨pos_asc v 0 (by omega), by rw [posL_len]; omega, ⟨fun e => by have := congrArg List.length e; rw [posL_len] at this; simp at this; exact this, fun e => absurd e hv⟩⟩
      · rw [if_neg (by omega), if_pos rfl]
        exact ⟨asc_one _, by simp, by simp [hv]⟩
      · rw [if_neg (by omega), if_neg (by omega)]
        obtain ⟨M, h1, h2, _, h3⟩ := addrN_toks (show addrN s.rules l = (v, 0) from h)
        exact toks_gramsOk hv h1 h2 h3
end Go.Proofs.YtfgoiojmbphmnaaGreatDoor
end
section
/- gram.Grams. -/
set_option linter.unusedSimpArgs false
set_option linter.unusedVariables false
set_option maxRecDepth 100000
namespace Go.Proofs.YtfgoiojmbphmnaaGreatDoor
open Go.RowKit
attribute [local go_sem] toList_mk mk_size bytes_append
theorem wrapT_cons (t : List UInt8) : wrapT t = 95 :: (t ++ [95]) := rfl
theorem bigr_getD (l : List UInt8) : ∀ j, j + 1 < l.length → (bigrA l).getD j [] = [l.getD j 0, l.getD (j + 1) 0] := by
  induction l using bigrA.induct with
  | case1 a b r ih =>
    intro j hj
    cases j with
    | zero => rfl
    | succ j =>
      have := ih j (by simp at hj ⊢; omega)
      simp only [bigrA, List.getD_cons_succ] at this ⊢
      exact this
  | case2 l h =>
    intro j hj
    match l, h with
    | [], _ => simp at hj
    | [a], _ => simp at hj
    | a :: b :: r, h => exact absurd rfl (h a b r)
theorem take_two (l : List UInt8) (j : Nat) (h : j + 1 < l.length) : ((⟨l.toArray⟩ : ByteArray).extract j (j + 2)) = ⟨[l.getD j 0, l.getD (j + 1) 0].toArray⟩ := by
  have := ext_mk l j (j + 2) (by omega)
  unfold mkS at this
  rw [this]
  congr 2
  rw [List.drop_take, List.drop_eq_getElem_cons (by omega), List.drop_eq_getElem_cons (by omega), List.getD, List.getD, List.getElem?_eq_getElem (by omega), List.getElem?_eq_getElem h]
  rw [show j + 2 - j = 2 by omega]; rfl
theorem gramsAll_take (T : List (List UInt8)) (k : Nat) (h : k < T.length) : gramsAll (T.take (k + 1)) = gramsAll (T.take k) ++ bigrA (wrapT (T.getD k [])) := by
  have := take_snocA T k h
  rw [show (default : List UInt8) = [] from rfl] at this
  rw [this]; simp [gramsAll]
theorem gramsAll_small (T : List (List UInt8)) (h : ∀ t ∈ T, t.length ≤ 64) : (gramsAll T).length ≤ 65 * T.length := by
  induction T with
  | nil => simp [gramsAll]
  | cons t T ih =>
    have h1 := ih fun x hx => h x (List.mem_cons_of_mem _ hx)
    have h2 := h t List.mem_cons_self
    have e : (gramsAll (t :: T)).length = t.length + 1 + (gramsAll T).length := by
      simp only [gramsAll, List.flatMap_cons, List.length_append, bigr_len, wrapT]; simp; try omega
    rw [e, List.length_cons]; omega
theorem toks_len (l : List UInt8) (h : l.length ≤ 64) : (toks l).length ≤ 65 ∧ ∀ t ∈ toks l, t.length ≤ 64 := by
  have h1 := toksA_len l []
  unfold toks
  refine ⟨by simp at h1; omega, fun t ht => ?_⟩
  have : ∀ (L : List (List UInt8)), t ∈ L → t.length ≤ (joinL L).length := by
    intro L
    induction L with
    | nil => intro h; simp at h
    | cons a L ih =>
      intro h
      by_cases hL : L = []
      · subst hL; simp at h; subst h; exact Nat.le_refl _
      · rw [join_cons_ne _ _ hL]
        rcases List.mem_cons.1 h with rfl | h
        · simp
        · have := ih h; simp; omega
  have := this _ ht
  simp at h1; omega
set_option maxHeartbeats 4000000 in
theorem ggrams_any (s : ByteArray) (w : World) (hs : s.size ≤ 64) (ha : ascii s.data.toList) :
    Calls Tryz.prog 105 #[.string s] w fun e w' => ∃ v, e = .returned v ∧ Vec w' Any1 1 encS v (gramsL s.data.toList) ∧ Below w.heap.size w w' := by
  have hl : s.data.toList.length = s.size := by simp
  obtain ⟨hT1, hT2⟩ := toks_len s.data.toList (by omega)
  have hc := tokens_any s.data.toList w ha (by omega)
  rw [show strV s.data.toList = .string s by simp] at hc
  obtain ⟨T, hT⟩ : ∃ T, toks s.data.toList = T := ⟨_, rfl⟩
  have hG : gramsL s.data.toList = setL (gramsAll T) := by unfold gramsL; rw [hT]
  rw [hT] at hT1 hT2 hc
  rw [hG]
  have HC := Lib.hid hc; have HT2 := Lib.hid hT2
  have d1 : decide ((64 : Int) < s.size) = false := by simp; omega
  clear hl hc hT hG hT2 ha
  go_enter Tryz.func105, Tryz.ntmps105
  go_wp2_with fail
  refine HC.out.mono ?_
  rintro e w1 ⟨A, rfl, hA, ho, hb1⟩
  have HR := Lib.hid (own_block ho).2
  have zA := lt_of_blk HR.out
  have HB1 := Lib.hid hb1
  clear ho hb1 HC d1
  go_wp2_with fail
  go_loopw [3, 13] (fun v i wr => ∃ k : Nat, k ≤ T.length ∧ i = .int .i64 k ∧ OwnAt w1 v (gramsAll (T.take k)) wr) (fun _ i _ => T.length - (intOf i).toNat)
  case atStart => exact ⟨0, by omega, rfl, OwnAt.start w1⟩
  case round =>
    obtain ⟨k, hk, rfl, ho⟩ := hrel
    have HO := Lib.hid ho; clear ho
    by_cases hlt : k < T.length
    · have hq : decide ((k : Int) < T.length) = true := by simp; omega
      have hgl := gramsAll_small (T.take k) (fun t ht => HT2.out t (List.mem_of_mem_take ht))
      have htl := List.length_take_le k T
      have hx1 : (T.getD k []).length ≤ 64 := by rw [List.getD, List.getElem?_eq_getElem hlt]; exact HT2.out _ (List.getElem_mem hlt)
      have c1 := (show RowB _ A T from blk_below HO.out.2 zA HR.out).cell k hlt
      have HG := Lib.hid (gramsAll_take T k hlt)
      obtain ⟨t, ht⟩ : ∃ t, T.getD k [] = t := ⟨_, rfl⟩
      rw [ht] at c1 hx1 HG
      clear ht
      obtain ⟨wo, rfl⟩ : ∃ wo : World, wo = wr := ⟨_, rfl⟩
      go_wp2_with fail
      go_loopw [3, 23] (fun v i wr => ∃ j : Nat, j ≤ 1 + t.length ∧ i = .int .i64 j ∧ OwnAt w1 v (gramsAll (T.take k) ++ (bigrA (wrapT t)).take j) wr) (fun _ i _ => 1 + t.length - (intOf i).toNat)
      case atStart => exact ⟨0, by omega, rfl, by simpa using HO.out⟩
      case round =>
        obtain ⟨j, hj, rfl, ho2⟩ := hrel
        have HO2 := Lib.hid ho2; clear ho2
        have hwl : (wrapT t).length = t.length + 2 := by simp [wrapT]
        by_cases hlj : j < 1 + t.length
        · have hq2 : decide ((j : Int) < 1 + t.length) = true := by simp; omega
          have hext := take_two (wrapT t) j (by omega)
          have hbg := bigr_getD (wrapT t) j (by omega)
          have hbl : j < (bigrA (wrapT t)).length := by rw [bigr_len]; omega
          have htk := take_snocA (bigrA (wrapT t)) j hbl
          rw [show (default : List UInt8) = [] from rfl, hbg] at htk
          obtain ⟨z, hz⟩ : ∃ z, [(wrapT t).getD j 0, (wrapT t).getD (j + 1) 0] = z := ⟨_, rfl⟩
          rw [hz] at hext htk
          rw [wrapT_cons] at hext
          have HTK := Lib.hid htk
          have hln : (gramsAll (T.take k) ++ (bigrA (wrapT t)).take j).length < 1099511627776 := by
            have := List.length_take_le j (bigrA (wrapT t))
            simp only [List.length_append]; omega
          have hone : ∀ u ∈ (#[strV z] : Array Value).toList, u.oneCell' = true := by intro u hu; simp at hu; subst hu; rfl
          clear hbg hbl htk hz hwl
          go_wp2_with (at_builtin; refine wpList_append_new rfl _ _ 28 rfl w1.heap.size 9 1 16 (.string ⟨#[]⟩) Tryz.underlying28 infoS rfl (by decide) (by decide) _ _ _ rfl HO2.out.1 #[strV z] 1 rfl rfl hone hln HO2.out.2.size ?_; intro v2 w8 ho8 hw8)
          go_roundw
          case rel => exact ⟨j + 1, by omega, by go_num, by rw [HTK.out, ← List.append_assoc]; exact ⟨by rw [List.length_append, flat_snoc]; exact ho8, hw8 _ HO2.out.2⟩⟩
          case measure => simp [intOf]; omega
        · have hq2 : decide ((j : Int) < 1 + t.length) = false := by simp; omega
          rw [show (bigrA (wrapT t)).take j = bigrA (wrapT t) from List.take_of_length_le (by rw [bigr_len]; omega), ← HG.out] at HO2
          go_wp2_with fail
          go_roundw
          case rel => exact ⟨k + 1, by omega, by go_num, HO2.out⟩
          case measure => simp [intOf]; omega
    · have hq : decide ((k : Int) < T.length) = false := by simp; omega
      rw [List.take_of_length_le (by omega)] at HO
      have hgl := gramsAll_small T HT2.out
      have HV := Lib.hid (Vec.owns (S := Any1) (k := 1) (enc := encS) (fun _ => rfl) HO.out.1 (fun _ _ _ => trivial))
      have hsm : ∀ x ∈ gramsAll T, x.length ≤ 1000000 := by
        intro x hx
        obtain ⟨t, ht, hx⟩ := List.mem_flatMap.1 hx
        have key : ∀ l : List UInt8, ∀ x ∈ bigrA l, x.length = 2 := by
          intro l
          induction l using bigrA.induct with
          | case1 a b r ih => intro x hx; simp only [bigrA] at hx; rcases List.mem_cons.1 hx with rfl | hx; · rfl
                              exact ih x hx
          | case2 l h =>
            intro x hx
            match l, h with
            | [], _ => simp [bigrA] at hx
            | [a], _ => simp [bigrA] at hx
            | a :: b :: r, h => exact absurd rfl (h a b r)
        have := key _ x hx; omega
      have HSm := Lib.hid hsm; clear hsm
      go_wp2_with fail
      refine (set_any Any1 _ (gramsAll T) _ HV.out (by omega) HSm.out).mono ?_
      rintro e w3 ⟨v3, rfl, ho3⟩
      have HV3 := Lib.hid (Vec.owns (S := Any1) (k := 1) (enc := encS) (fun _ => rfl) ho3.1 (fun _ _ _ => trivial))
      have HB3 := Lib.hid ((HB1.out.trans (HO.out.2.mono HB1.out.size)).trans (ho3.2.mono (Nat.le_trans HB1.out.size HO.out.2.size)))
      clear ho3
      go_wp2_with fail
      go_ret
      exact ⟨v3, rfl, HV3.out, HB3.out⟩
end Go.Proofs.YtfgoiojmbphmnaaGreatDoor
end
section
/- schema.Grams: what it returns, of every input. -/
set_option linter.unusedSimpArgs false
set_option linter.unusedVariables false
set_option maxRecDepth 100000
namespace Go.Proofs.YtfgoiojmbphmnaaGreatDoor
open Go.RowKit Cal
attribute [local go_sem] toList_mk mk_size bytes_append
set_option maxHeartbeats 400000 in
theorem kind4_any (s : ByteArray) (w : World) (hs : s.size ≤ 1000) :
    Calls Tryz.prog 114 #[.string s] w fun e w' => ∃ v, e = .returned v ∧ Vec w' Any1 1 encS v [61 :: s.data.toList] ∧ Below w.heap.size w w' := by
  have hs2 : (⟨#[61]⟩ : ByteArray) ++ s = ⟨(61 :: s.data.toList).toArray⟩ := by
    apply ByteArray.ext; simp
  go_enter Tryz.func114, Tryz.ntmps114
  go_wp2
  go_ret
  exact ⟨_, rfl, vec_block (L := [61 :: s.data.toList]) (blk_new rfl) 1 rfl, (Below.refl _ _).alloc (Nat.le_refl _) _⟩
/-- the grams of a value, and the error -/
def gramsN (s : SchemaL) (f : Int) (l : List UInt8) : List (List UInt8) × Int := if (findN s f).2 = 0 then (if normalB s f l = true then (gramsK (findN s f).1 l, 0) else ([], 7)) else ([], (findN s f).2)
def GramsIs (p : List (List UInt8) × Int) (w : World) (e : Ending) (w' : World) : Prop := ∃ v, e = .returned (.tuple #[v, .int .i64 p.2]) ∧ Vec w' Any1 1 encS v p.1 ∧ Below w.heap.size w w'
theorem own_small {p : List UInt8 × Int} {l : List UInt8} (h : isOwn p l = true) (hf : FormOk p) : l.length ≤ 64 ∧ p = (l, 0) := by
  obtain ⟨a, b⟩ := p
  unfold isOwn at h
  cases hb : (b == (0 : Int))
  · rw [hb] at h; cases h
  · rw [hb] at h
    simp only [cond_true, beq_iff_eq] at h hb
    subst h hb
    exact ⟨hf.1, rfl⟩
theorem join_ascii {M : List (List UInt8)} (h : ∀ t ∈ M, okT t) : ascii (joinL M) := fun b hb => okB_lt (join_ok M h b hb)
/-- what a value in normal form is like -/
theorem own_facts {k : Int} {r : RulesL} {l : List UInt8} (h : ownK k r l = true) (hk : k = 1 ∨ k = 2 ∨ k = 3 ∨ k = 4) : l.length ≤ 64 ∧ (k = 1 ∨ k = 4 → ascii l) ∧ (k = 2 → l.length = 8) := by
  unfold ownK at h
  rcases hk with rfl | rfl | rfl | rfl
  · obtain ⟨h1, h2⟩ := own_small (show isOwn (nameN r l) l = true from h) (nameN_form r l)
    obtain ⟨M, g1, g2, _⟩ := nameN_toks h2
    exact ⟨h1, fun _ => by rw [g2]; exact join_ascii g1, fun e => by omega⟩
  · have hr : readB l = true := h
    unfold readB at hr
    cases hd : decide (l.length = 8)
    · rw [hd] at hr; cases hr
    · have : l.length = 8 := by simpa using hd
      exact ⟨by omega, fun e => by omega, fun _ => this⟩
  · obtain ⟨h1, h2⟩ := own_small (show isOwn (codeN l) l = true from h) (codeN_form l)
    exact ⟨h1, fun e => by omega, fun e => by omega⟩
  · obtain ⟨h1, h2⟩ := own_small (show isOwn (addrN r l) l = true from h) (addrN_form r l)
    obtain ⟨M, g1, g2, _⟩ := addrN_toks h2
    exact ⟨h1, fun _ => by rw [g2]; exact join_ascii g1, fun e => by omega⟩
set_option maxHeartbeats 8000000 in
theorem grams_s (S : Nat → Prop) (vf vt vn vs : Value) (s : SchemaL) (f : Int) (x : ByteArray) (w : World) (h : SchemaAt w S vf vt vn vs s) (hx : x.size ≤ 9223372036854775000) :
    Calls Tryz.prog 18 #[.agg #[vf, vt, vn, vs], .int .i64 f, .string x] w (GramsIs (gramsN s f x.data.toList) w) := by
  have HS := Lib.hid h.any
  have HL := Lib.hid (Lib.toList_data x)
  clear h
  have K := find_s Any1 vf vt vn vs s f (w.alloc (.cells #[vf, vt, vn, vs] 33)) (HS.out.below ((Below.refl _ _).alloc (Nat.le_refl _) _))
  have hkk := findN_kind (s := s) (f := f)
  have hval : gramsN s f x.data.toList = if (findN s f).2 = 0 then (if normalB s f x.data.toList = true then (gramsK (findN s f).1 x.data.toList, 0) else ([], 7)) else ([], (findN s f).2) := rfl
  have hown : (findN s f).2 = 0 → x.data.toList ≠ [] → normalB s f x.data.toList = ownK (findN s f).1 s.rules x.data.toList := fun h0 h1 => by unfold normalB; rw [if_pos h0, if_neg h1]
  obtain ⟨⟨kd, er⟩, hp⟩ : ∃ p, findN s f = p := ⟨_, rfl⟩
  rw [hp] at K hkk hval hown
  dsimp only at hkk hval hown
  change Calls _ _ _ _ fun e w' => e = .returned (.tuple #[.agg (kindAt kd), .int .i64 er]) ∧ _ at K
  have HK := Lib.hid K
  have HVal := Lib.hid hval; have HOwn := Lib.hid hown
  obtain ⟨ko, ks⟩ := kindAt_one kd
  have KO := Lib.hid ko; have KS := Lib.hid ks
  clear K hp hval ko ks hown
  by_cases he : er = 0
  · subst he
    have hkd := hkk rfl
    clear hkk
    cases hno : normalB s f x.data.toList
    · have HE := Lib.hid (show gramsN s f x.data.toList = ([], 7) by rw [HVal.out, if_pos rfl, hno, if_neg (by simp)])
      have HN := Lib.hid hno
      clear hno hkd
      rw [HE.out]
      go_enter Tryz.func18, Tryz.ntmps18
      go_wp2_with fail
      refine HK.out.mono ?_
      rintro e w1 ⟨rfl, hb1⟩
      have HB1 := Lib.hid (((Below.refl w.heap.size w).alloc (Nat.le_refl _) (.cells #[vf, vt, vn, vs] 33)).trans (hb1.mono (by simp)))
      have HX1 := Lib.hid (blk_below (b := w.heap.size) (o := .cells #[vf, vt, vn, vs] 33 (0, 0)) hb1 (by simp) (blk_new rfl))
      clear hb1 HK
      have z0 := lt_of_blk HX1.out
      obtain ⟨p0, p1, p2, p3⟩ := cells4 HX1.out
      go_wp2_with (refine wpList_store_row rfl 79 (.tmp 8) (.tmp 14) rfl w1.heap.size (kindAt kd) rfl rfl 79 kind0 (heap_alloc_new w1 _) (by rw [KS.out]; kernel_rfl) (by rw [KS.out]; rfl) KO.out ?_; rw [World.setRow_alloc_new])
      have HB2 := Lib.hid (HB1.out.alloc HB1.out.size (.cells (kindAt kd) 79))
      refine (normal_s Any1 vf vt vn vs s f x _ (HS.out.below HB2.out) hx).mono ?_
      rw [HN.out]
      rintro e w3 ⟨rfl, hb3⟩
      have HB3 := Lib.hid (HB2.out.trans (hb3.mono HB2.out.size))
      clear hb3 p0 p1 p2 p3
      go_wp2_with fail
      go_ret2
      exact ⟨_, rfl, Vec.nil _ _ _ _, HB3.out⟩
    · by_cases hx0 : x.data.toList = []
      · have e1 : x.toList = [] := by rw [HL.out, hx0]
        have HE := Lib.hid (show gramsN s f x.data.toList = ([], 0) by rw [HVal.out, if_pos rfl, hno, if_pos rfl]; unfold gramsK; rw [if_pos hx0])
        have HN := Lib.hid hno
        clear hno hkd hx0
        rw [HE.out]
        go_enter Tryz.func18, Tryz.ntmps18
        go_wp2_with fail
        refine HK.out.mono ?_
        rintro e w1 ⟨rfl, hb1⟩
        have HB1 := Lib.hid (((Below.refl w.heap.size w).alloc (Nat.le_refl _) (.cells #[vf, vt, vn, vs] 33)).trans (hb1.mono (by simp)))
        have HX1 := Lib.hid (blk_below (b := w.heap.size) (o := .cells #[vf, vt, vn, vs] 33 (0, 0)) hb1 (by simp) (blk_new rfl))
        clear hb1 HK
        have z0 := lt_of_blk HX1.out
        obtain ⟨p0, p1, p2, p3⟩ := cells4 HX1.out
        go_wp2_with (refine wpList_store_row rfl 79 (.tmp 8) (.tmp 14) rfl w1.heap.size (kindAt kd) rfl rfl 79 kind0 (heap_alloc_new w1 _) (by rw [KS.out]; kernel_rfl) (by rw [KS.out]; rfl) KO.out ?_; rw [World.setRow_alloc_new])
        have HB2 := Lib.hid (HB1.out.alloc HB1.out.size (.cells (kindAt kd) 79))
        refine (normal_s Any1 vf vt vn vs s f x _ (HS.out.below HB2.out) hx).mono ?_
        rw [HN.out]
        rintro e w3 ⟨rfl, hb3⟩
        have HB3 := Lib.hid (HB2.out.trans (hb3.mono HB2.out.size))
        clear hb3 p0 p1 p2 p3
        go_wp2_with fail
        go_ret2
        exact ⟨_, rfl, Vec.nil _ _ _ _, HB3.out⟩
      · have e1 : (x.toList == []) = false := by rw [HL.out]; simpa using hx0
        have e2 : x.toList.isEmpty = false := by rw [HL.out]; simpa using hx0
        have ho := HOwn.out rfl hx0
        rw [hno] at ho
        obtain ⟨g1, g2, g3⟩ := own_facts ho.symm hkd
        have hl : x.data.toList.length = x.size := by simp
        rw [hl] at g1 g3
        have HG2 := Lib.hid g2
        have HE := Lib.hid (show gramsN s f x.data.toList = (gramsK kd x.data.toList, 0) by rw [HVal.out, if_pos rfl, hno, if_pos rfl])
        have HGK := Lib.hid (show gramsK kd x.data.toList = if kd = 2 then posL 0 x.data.toList else if kd = 3 then [61 :: x.data.toList] else gramsL x.data.toList by unfold gramsK; rw [if_neg hx0])
        have HN := Lib.hid hno
        clear hno hx0 ho hl g2
        rw [HE.out, HGK.out]
        rcases hkd with rfl | rfl | rfl | rfl
        · rw [if_neg (by omega), if_neg (by omega)]
          (first | have HAs := Lib.hid (HG2.out (by omega)) | skip)
          clear HG2 HE HGK HOwn HVal
          go_enter Tryz.func18, Tryz.ntmps18
          go_wp2_with fail
          refine HK.out.mono ?_
          rintro e w1 ⟨rfl, hb1⟩
          have HB1 := Lib.hid (((Below.refl w.heap.size w).alloc (Nat.le_refl _) (.cells #[vf, vt, vn, vs] 33)).trans (hb1.mono (by simp)))
          have HX1 := Lib.hid (blk_below (b := w.heap.size) (o := .cells #[vf, vt, vn, vs] 33 (0, 0)) hb1 (by simp) (blk_new rfl))
          clear hb1 HK
          have z0 := lt_of_blk HX1.out
          obtain ⟨p0, p1, p2, p3⟩ := cells4 HX1.out
          go_wp2_with (refine wpList_store_row rfl 79 (.tmp 8) (.tmp 14) rfl w1.heap.size (kindAt 1) rfl rfl 79 kind0 (heap_alloc_new w1 _) (by rw [KS.out]; kernel_rfl) (by rw [KS.out]; rfl) KO.out ?_; rw [World.setRow_alloc_new])
          have HB2 := Lib.hid (HB1.out.alloc HB1.out.size (.cells (kindAt 1) 79))
          refine (normal_s Any1 vf vt vn vs s f x _ (HS.out.below HB2.out) hx).mono ?_
          rw [HN.out]
          rintro e w3 ⟨rfl, hb3⟩
          have HB3 := Lib.hid (HB2.out.trans (hb3.mono HB2.out.size))
          have HX3 := Lib.hid (blk_below (b := w1.heap.size) (o := .cells (kindAt 1) 79 (0, 0)) hb3 (by simp) (blk_new rfl))
          have cf : w3.cell? ⟨w1.heap.size, 3, none⟩ = some (fnV 105) := by rw [cell_of_row _ _ _ _ _ _ HX3.out]; rfl
          clear hb3 p0 p1 p2 p3
          go_wp2_with fail
          refine (ggrams_any x _ g1 HAs.out).mono ?_
          rintro e w4 ⟨v, rfl, ho⟩
          have HO := Lib.hid ho; clear ho
          go_wp2_with fail
          go_ret2
          exact ⟨v, rfl, HO.out.1, HB3.out.trans ((HO.out.2).mono HB3.out.size)⟩
        · rw [if_pos rfl]
          have g4 : x.size ≤ 26 := by have := g3 rfl; omega
          (first | have HAs := Lib.hid (HG2.out (by omega)) | skip)
          clear HG2 HE HGK HOwn HVal
          go_enter Tryz.func18, Tryz.ntmps18
          go_wp2_with fail
          refine HK.out.mono ?_
          rintro e w1 ⟨rfl, hb1⟩
          have HB1 := Lib.hid (((Below.refl w.heap.size w).alloc (Nat.le_refl _) (.cells #[vf, vt, vn, vs] 33)).trans (hb1.mono (by simp)))
          have HX1 := Lib.hid (blk_below (b := w.heap.size) (o := .cells #[vf, vt, vn, vs] 33 (0, 0)) hb1 (by simp) (blk_new rfl))
          clear hb1 HK
          have z0 := lt_of_blk HX1.out
          obtain ⟨p0, p1, p2, p3⟩ := cells4 HX1.out
          go_wp2_with (refine wpList_store_row rfl 79 (.tmp 8) (.tmp 14) rfl w1.heap.size (kindAt 2) rfl rfl 79 kind0 (heap_alloc_new w1 _) (by rw [KS.out]; kernel_rfl) (by rw [KS.out]; rfl) KO.out ?_; rw [World.setRow_alloc_new])
          have HB2 := Lib.hid (HB1.out.alloc HB1.out.size (.cells (kindAt 2) 79))
          refine (normal_s Any1 vf vt vn vs s f x _ (HS.out.below HB2.out) hx).mono ?_
          rw [HN.out]
          rintro e w3 ⟨rfl, hb3⟩
          have HB3 := Lib.hid (HB2.out.trans (hb3.mono HB2.out.size))
          have HX3 := Lib.hid (blk_below (b := w1.heap.size) (o := .cells (kindAt 2) 79 (0, 0)) hb3 (by simp) (blk_new rfl))
          have cf : w3.cell? ⟨w1.heap.size, 3, none⟩ = some (fnV 109) := by rw [cell_of_row _ _ _ _ _ _ HX3.out]; rfl
          clear hb3 p0 p1 p2 p3
          go_wp2_with fail
          refine (positional_any x _ (by omega)).mono ?_
          rintro e w4 ⟨v, rfl, ho⟩
          have HO := Lib.hid ho; clear ho
          go_wp2_with fail
          go_ret2
          exact ⟨v, rfl, Vec.owns (k := 1) (enc := encS) (fun _ => rfl) HO.out.1 (fun _ _ _ => trivial), HB3.out.trans ((HO.out.2).mono HB3.out.size)⟩
        · rw [if_neg (by omega), if_pos rfl]
          (first | have HAs := Lib.hid (HG2.out (by omega)) | skip)
          clear HG2 HE HGK HOwn HVal
          go_enter Tryz.func18, Tryz.ntmps18
          go_wp2_with fail
          refine HK.out.mono ?_
          rintro e w1 ⟨rfl, hb1⟩
          have HB1 := Lib.hid (((Below.refl w.heap.size w).alloc (Nat.le_refl _) (.cells #[vf, vt, vn, vs] 33)).trans (hb1.mono (by simp)))
          have HX1 := Lib.hid (blk_below (b := w.heap.size) (o := .cells #[vf, vt, vn, vs] 33 (0, 0)) hb1 (by simp) (blk_new rfl))
          clear hb1 HK
          have z0 := lt_of_blk HX1.out
          obtain ⟨p0, p1, p2, p3⟩ := cells4 HX1.out
          go_wp2_with (refine wpList_store_row rfl 79 (.tmp 8) (.tmp 14) rfl w1.heap.size (kindAt 3) rfl rfl 79 kind0 (heap_alloc_new w1 _) (by rw [KS.out]; kernel_rfl) (by rw [KS.out]; rfl) KO.out ?_; rw [World.setRow_alloc_new])
          have HB2 := Lib.hid (HB1.out.alloc HB1.out.size (.cells (kindAt 3) 79))
          refine (normal_s Any1 vf vt vn vs s f x _ (HS.out.below HB2.out) hx).mono ?_
          rw [HN.out]
          rintro e w3 ⟨rfl, hb3⟩
          have HB3 := Lib.hid (HB2.out.trans (hb3.mono HB2.out.size))
          have HX3 := Lib.hid (blk_below (b := w1.heap.size) (o := .cells (kindAt 3) 79 (0, 0)) hb3 (by simp) (blk_new rfl))
          have cf : w3.cell? ⟨w1.heap.size, 3, none⟩ = some (fnV 114) := by rw [cell_of_row _ _ _ _ _ _ HX3.out]; rfl
          clear hb3 p0 p1 p2 p3
          go_wp2_with fail
          refine (kind4_any x _ (by omega)).mono ?_
          rintro e w4 ⟨v, rfl, ho⟩
          have HO := Lib.hid ho; clear ho
          go_wp2_with fail
          go_ret2
          exact ⟨v, rfl, HO.out.1, HB3.out.trans ((HO.out.2).mono HB3.out.size)⟩
        · rw [if_neg (by omega), if_neg (by omega)]
          (first | have HAs := Lib.hid (HG2.out (by omega)) | skip)
          clear HG2 HE HGK HOwn HVal
          go_enter Tryz.func18, Tryz.ntmps18
          go_wp2_with fail
          refine HK.out.mono ?_
          rintro e w1 ⟨rfl, hb1⟩
          have HB1 := Lib.hid (((Below.refl w.heap.size w).alloc (Nat.le_refl _) (.cells #[vf, vt, vn, vs] 33)).trans (hb1.mono (by simp)))
          have HX1 := Lib.hid (blk_below (b := w.heap.size) (o := .cells #[vf, vt, vn, vs] 33 (0, 0)) hb1 (by simp) (blk_new rfl))
          clear hb1 HK
          have z0 := lt_of_blk HX1.out
          obtain ⟨p0, p1, p2, p3⟩ := cells4 HX1.out
          go_wp2_with (refine wpList_store_row rfl 79 (.tmp 8) (.tmp 14) rfl w1.heap.size (kindAt 4) rfl rfl 79 kind0 (heap_alloc_new w1 _) (by rw [KS.out]; kernel_rfl) (by rw [KS.out]; rfl) KO.out ?_; rw [World.setRow_alloc_new])
          have HB2 := Lib.hid (HB1.out.alloc HB1.out.size (.cells (kindAt 4) 79))
          refine (normal_s Any1 vf vt vn vs s f x _ (HS.out.below HB2.out) hx).mono ?_
          rw [HN.out]
          rintro e w3 ⟨rfl, hb3⟩
          have HB3 := Lib.hid (HB2.out.trans (hb3.mono HB2.out.size))
          have HX3 := Lib.hid (blk_below (b := w1.heap.size) (o := .cells (kindAt 4) 79 (0, 0)) hb3 (by simp) (blk_new rfl))
          have cf : w3.cell? ⟨w1.heap.size, 3, none⟩ = some (fnV 105) := by rw [cell_of_row _ _ _ _ _ _ HX3.out]; rfl
          clear hb3 p0 p1 p2 p3
          go_wp2_with fail
          refine (ggrams_any x _ g1 HAs.out).mono ?_
          rintro e w4 ⟨v, rfl, ho⟩
          have HO := Lib.hid ho; clear ho
          go_wp2_with fail
          go_ret2
          exact ⟨v, rfl, HO.out.1, HB3.out.trans ((HO.out.2).mono HB3.out.size)⟩
  · have hne : (er != 0) = true := by simpa using he
    have HE := Lib.hid (show gramsN s f x.data.toList = ([], er) by rw [HVal.out, if_neg he])
    clear he hkk
    rw [HE.out]
    go_enter Tryz.func18, Tryz.ntmps18
    go_wp2_with fail
    refine HK.out.mono ?_
    rintro e w1 ⟨rfl, hb1⟩
    have HB1 := Lib.hid (((Below.refl w.heap.size w).alloc (Nat.le_refl _) (.cells #[vf, vt, vn, vs] 33)).trans (hb1.mono (by simp)))
    clear hb1 HK
    go_wp2_with (refine wpList_store_row rfl 79 (.tmp 8) (.tmp 14) rfl w1.heap.size (kindAt kd) rfl rfl 79 kind0 (heap_alloc_new w1 _) (by rw [KS.out]; kernel_rfl) (by rw [KS.out]; rfl) KO.out ?_; rw [World.setRow_alloc_new])
    go_ret2
    exact ⟨_, rfl, Vec.nil _ _ _ _, HB1.out.alloc HB1.out.size _⟩
end Go.Proofs.YtfgoiojmbphmnaaGreatDoor
end
section
/- The reference of layer 1 (text): Letters, Join, Same, Tokens, Valid compute what the plain functions say. -/
set_option linter.unusedSimpArgs false
set_option linter.unusedVariables false
set_option maxRecDepth 100000
namespace Go.Proofs.YtfgoiojmbphmnaaGreatDoor
open Go.RowKit
attribute [local go_sem] toList_mk mk_size bytes_append
theorem ext_one (s : ByteArray) (k : Nat) (h : k < s.size) : s.extract k (k + 1) = ⟨[s[k]].toArray⟩ := by
  have hl : s.data.toList.length = s.size := by simp
  have := ext_mk s.data.toList k (k + 1) (by omega)
  unfold mkS at this
  have e : (⟨s.data.toList.toArray⟩ : ByteArray) = s := by simp
  rw [e] at this
  rw [this]
  congr 2
  rw [take_snoc' s k h, List.drop_append_of_le_length (by rw [List.length_take]; omega), List.drop_eq_nil_of_le (by rw [List.length_take]; omega), List.nil_append]
set_option maxHeartbeats 1000000 in
theorem rletters_any (s : ByteArray) (w : World) (hs : s.size ≤ 1000000) :
    Calls Tryz.prog 79 #[.string s] w fun e w' => e = .returned (strV (lettersL s.data.toList)) ∧ w = w' := by
  have hl : s.data.toList.length = s.size := by simp
  have HL := Lib.hid hl; clear hl
  go_enter Tryz.func79, Tryz.ntmps79
  go_wp2_with fail
  go_loop [3, 4] (fun o i => ∃ k : Nat, k ≤ s.size ∧ i = .int .i64 k ∧ o = strV (lettersL (s.data.toList.take k))) (fun _ i => s.size - (intOf i).toNat)
  case atStart => exact ⟨0, by omega, rfl, rfl⟩
  case round =>
    obtain ⟨k, hk, rfl, rfl⟩ := hrel
    by_cases hlt : k < s.size
    · have hq : decide ((k : Int) < s.size) = true := by simp; omega
      have ht := Lib.hid (take_snoc' s k hlt)
      have hb := s[k].toNat_lt
      have hlen : (lettersL (s.data.toList.take k)).length ≤ 1000000 := by have := letters_len (s.data.toList.take k); have := List.length_take_le k s.data.toList; omega
      have hext := ext_one s k hlt
      cases hlo : isLow s[k]
      · have HN := Lib.hid (letters_no (s.data.toList.take k) s[k] hlo)
        have hc := hlo
        rw [low_iff, decide_eq_false_iff_not] at hc
        have hc' : (97 ≤ (s[k].toNat : Int) ∧ 122 < (s[k].toNat : Int)) ∨ (s[k].toNat : Int) < 97 := by omega
        clear hc hlo hext
        rcases hc' with ⟨g1, g2⟩ | g1
        all_goals
          go_wp2_with fail
          go_round
          case rel => exact ⟨k + 1, by omega, by go_num, by rw [ht.out, HN.out]⟩
          case measure => simp [intOf]; omega
      · have HY := Lib.hid (letters_yes (s.data.toList.take k) s[k] hlo)
        have hc := hlo
        rw [low_iff, decide_eq_true_iff] at hc
        obtain ⟨g1, g2⟩ := hc
        clear hlo
        go_wp2_with fail
        go_round
        case rel => exact ⟨k + 1, by omega, by go_num, by rw [ht.out, HY.out]⟩
        case measure => simp [intOf]; omega
    · obtain rfl : k = s.size := by omega
      have hq : decide ((s.size : Int) < s.size) = false := by simp
      have HF := Lib.hid (List.take_of_length_le (by rw [HL.out]; exact Nat.le_refl _) : s.data.toList.take s.size = s.data.toList)
      go_wp2_with fail
      go_ret
      exact ⟨by show Ending.returned (strV (lettersL (s.data.toList.take s.size))) = _; rw [HF.out], rfl⟩
theorem join_snoc (T : List (List UInt8)) (x : List UInt8) : joinL (T ++ [x]) = if T = [] then x else joinL T ++ [32] ++ x := by
  induction T with
  | nil => rfl
  | cons t T ih =>
    rw [if_neg (by simp)]
    by_cases hT : T = []
    · subst hT; simp [joinL]
    · rw [if_neg hT] at ih
      rw [List.cons_append, join_cons_ne _ _ (by simp), ih, join_cons_ne _ _ hT]; simp
theorem join_take_len (L : List (List UInt8)) : ∀ k, (joinL (L.take k)).length ≤ (joinL L).length := by
  induction L with
  | nil => intro k; simp
  | cons a L ih =>
    intro k
    cases k with
    | zero => simp [joinL]
    | succ k =>
      rw [List.take_succ_cons]
      by_cases hk : L.take k = []
      · rw [hk]
        by_cases hL : L = []
        · subst hL; simp [joinL]
        · rw [join_cons_ne _ _ hL]; simp [joinL]
      · have hL : L ≠ [] := by intro e; subst e; simp at hk
        rw [join_cons_ne _ _ hk, join_cons_ne _ _ hL]
        have := ih k; simp; omega
set_option maxHeartbeats 1000000 in
theorem rjoin_any (S : Nat → Prop) (v : Value) (L : List (List UInt8)) (w : World) (h : Vec w S 1 encS v L) (hn : L.length ≤ 1000000) (hj : (joinL L).length ≤ 1000000000) :
    Calls Tryz.prog 94 #[v] w fun e w' => e = .returned (strV (joinL L)) ∧ w = w' := by
  obtain ⟨a, cap, rfl⟩ := h.slice
  have HV := Lib.hid h; clear h
  go_enter Tryz.func94, Tryz.ntmps94
  go_wp2_with fail
  go_loop [3, 4] (fun o i => ∃ k : Nat, k ≤ L.length ∧ i = .int .i64 k ∧ o = strV (joinL (L.take k))) (fun _ i => L.length - (intOf i).toNat)
  case atStart => exact ⟨0, by omega, rfl, rfl⟩
  case round =>
    obtain ⟨k, hk, rfl, rfl⟩ := hrel
    have hlen := join_take_len L k
    by_cases hlt : k < L.length
    · have hq : decide ((k : Int) < L.length) = true := by simp; omega
      obtain ⟨b, off, rfl, _, hb, hc⟩ := vec_cell1 HV.out (by omega)
      have c1 := hc k hlt
      have htk := take_snocA L k hlt
      rw [show (default : List UInt8) = [] from rfl] at htk
      have hxl := join_take_len L (k + 1)
      have hsn := join_snoc (L.take k) (L.getD k [])
      rw [← htk] at hsn
      obtain ⟨x, hx⟩ : ∃ x, L.getD k [] = x := ⟨_, rfl⟩
      rw [hx] at c1 htk hsn
      have hx1 : x.length ≤ 1000000000 := by
        rw [hsn] at hxl
        split at hxl
        · omega
        · simp at hxl; omega
      have HSn := Lib.hid hsn
      clear hc htk hsn hx hxl
      by_cases hk0 : k = 0
      · subst hk0
        have e0 : joinL ([] : List (List UInt8)) = [] := rfl
        rw [Nat.add_zero] at c1
        go_wp2_with fail
        go_round
        case rel => exact ⟨1, by omega, by go_num, by rw [HSn.out, if_pos (by simp)]⟩
        case measure => simp [intOf]; omega
      · have hq0 : decide ((0 : Int) < k) = true := by simp; omega
        have hk1 : 0 < k := by omega
        have hne : L.take k ≠ [] := by intro e; have := congrArg List.length e; rw [List.length_take, List.length_nil] at this; omega
        have HNe := Lib.hid hne
        clear hk0 hne
        go_wp2_with fail
        go_round
        case rel => exact ⟨k + 1, by omega, by go_num, by rw [HSn.out, if_neg HNe.out]; simp⟩
        case measure => simp [intOf]; omega
    · obtain rfl : k = L.length := by omega
      have hq : decide ((L.length : Int) < L.length) = false := by simp
      have HF := Lib.hid (List.take_of_length_le (Nat.le_refl _) : L.take L.length = L)
      go_wp2_with fail
      go_ret
      exact ⟨rfl, rfl⟩
end Go.Proofs.YtfgoiojmbphmnaaGreatDoor
end
section
/- The reference of layer 1 (text): Same, Tokens, Valid. -/
set_option linter.unusedSimpArgs false
set_option linter.unusedVariables false
set_option maxRecDepth 100000
namespace Go.Proofs.YtfgoiojmbphmnaaGreatDoor
open Go.RowKit
attribute [local go_sem] toList_mk mk_size bytes_append
theorem list_ext0 {A B : List (List UInt8)} (hl : A.length = B.length) (h : ∀ j, j < A.length → A.getD j [] = B.getD j []) : A = B := by
  refine List.ext_getElem hl fun j h1 h2 => ?_
  have := h j h1
  rwa [List.getD, List.getD, List.getElem?_eq_getElem h1, List.getElem?_eq_getElem h2] at this
set_option maxHeartbeats 1000000 in
theorem rsame_any (S T : Nat → Prop) (va vb : Value) (A B : List (List UInt8)) (w : World) (hA : Vec w S 1 encS va A) (hB : Vec w T 1 encS vb B) (hn : A.length ≤ 1000000) (hm : B.length ≤ 1000000) :
    Calls Tryz.prog 32 #[va, vb] w fun e w' => e = .returned (.bool (A == B)) ∧ Below w.heap.size w w' := by
  obtain ⟨aa, ca, rfl⟩ := hA.slice
  obtain ⟨ab, cb, rfl⟩ := hB.slice
  have HA := Lib.hid hA; have HB := Lib.hid hB
  clear hA hB
  by_cases hl : A.length = B.length
  · have hq0 : ((A.length : Int) != (B.length : Int)) = false := by rw [hl]; simp
    have hq1 : (A.length != B.length) = false := by rw [hl]; simp
    have HL := Lib.hid hl
    have hl2 : A.length ≤ B.length := by omega
    clear hl
    go_enter Tryz.func32, Tryz.ntmps32
    go_wp2_with fail
    clear hq0 hq1
    go_loopw [5] (fun i wr => ∃ k : Nat, k ≤ A.length ∧ i = .int .i64 k ∧ Below w.heap.size w wr ∧ Hid (∀ j, j < k → A.getD j [] = B.getD j [])) (fun i _ => A.length - (intOf i).toNat)
    case atStart => exact ⟨0, by omega, rfl, Below.refl _ _, Lib.hid fun j hj => by omega⟩
    case round =>
      obtain ⟨k, hk, rfl, hbw, HE⟩ := hrel
      have HW := Lib.hid hbw
      by_cases hlt : k < A.length
      · have hq : decide ((k : Int) < A.length) = true := by simp; omega
        have hi1 : (k : Int) < (A.length : Int) := by omega
        have hi2 : (k : Int) < (B.length : Int) := by omega
        obtain ⟨b1, o1, rfl, _, hb1, hc1⟩ := vec_cell1 HA.out (by omega)
        obtain ⟨b2, o2, rfl, _, hb2, hc2⟩ := vec_cell1 HB.out (by omega)
        have c1 := (hbw.cell (p := ⟨b1, o1 + k, none⟩) hb1).trans (hc1 k hlt)
        have c2 := (hbw.cell (p := ⟨b2, o2 + k, none⟩) hb2).trans (hc2 k (by omega))
        obtain ⟨x, hx⟩ : ∃ x, A.getD k [] = x := ⟨_, rfl⟩
        obtain ⟨y, hy⟩ : ∃ y, B.getD k [] = y := ⟨_, rfl⟩
        rw [hx] at c1
        rw [hy] at c2
        have HX := Lib.hid hx; have HY := Lib.hid hy
        clear hc1 hc2 hx hy hbw
        by_cases he : x = y
        · subst he
          go_wp2_with fail
          go_quiet (fail)
          go_wp2_with fail
          go_roundw
          case rel => exact ⟨k + 1, by omega, by go_num, below_drewN HW.out _, Lib.hid fun j hj => by
            by_cases e : j = k
            · subst e; rw [HX.out, HY.out]
            · exact HE.out j (by omega)⟩
          case measure => simp [intOf]; try omega
        · have hne : (x != y) = true := by simpa using he
          have hne2 : (x == y) = false := by simpa using he
          have HNe := Lib.hid he
          clear he
          go_wp2_with fail
          go_quiet (fail)
          go_wp2_with fail
          go_ret
          refine ⟨ret_bool ?_, below_drewN HW.out _⟩
          have : A ≠ B := fun e => HNe.out (by rw [← HX.out, ← HY.out, e])
          simpa using this
      · have hq : decide ((k : Int) < A.length) = false := by simp; omega
        go_wp2_with fail
        go_ret
        refine ⟨ret_bool ?_, HW.out⟩
        have : A = B := list_ext0 HL.out fun j hj => HE.out j (by omega)
        rw [this]; simp
  · have hq0 : ((A.length : Int) != (B.length : Int)) = true := by simp; omega
    have hq1 : (A.length != B.length) = true := by simp; omega
    have HN := Lib.hid hl; clear hl
    go_enter Tryz.func32, Tryz.ntmps32
    go_wp2_with fail
    go_ret
    refine ⟨ret_bool ?_, Below.refl _ _⟩
    have : A ≠ B := fun e => HN.out (by rw [e])
    simpa using this
set_option maxHeartbeats 2000000 in
theorem rtokens_any (s : ByteArray) (w : World) (hs : s.size ≤ 1000000) :
    Calls Tryz.prog 75 #[.string s] w fun e w' => ∃ v, e = .returned v ∧ OwnAt w v (toks s.data.toList) w' := by
  have hl : s.data.toList.length = s.size := by simp
  have HL := Lib.hid hl; clear hl
  obtain ⟨l, hl⟩ : ∃ l, s.data.toList = l := ⟨_, rfl⟩
  rw [hl] at HL
  have HLs := Lib.hid hl
  rw [hl]
  clear hl
  go_enter Tryz.func75, Tryz.ntmps75
  go_wp2_with fail
  go_loopw [3, 4, 5] (fun v t i wr => ∃ (k : Nat) (C : List (List UInt8)) (p : List UInt8), k ≤ s.size + 1 ∧ i = .int .i64 k ∧ t = strV p ∧ OwnAt w v C wr ∧ p.length ≤ k ∧ C.length ≤ k ∧ (k = s.size + 1 → p = []) ∧ Hid (toks l = C ++ toksA p (l.drop k))) (fun _ _ i _ => s.size + 1 - (intOf i).toNat)
  case atStart => exact ⟨0, [], [], by omega, rfl, rfl, OwnAt.start w, by simp, by simp, by omega, Lib.hid rfl⟩
  case round =>
    obtain ⟨k, C, p, hk, rfl, rfl, ho, hp, hC, hpe, HT⟩ := hrel
    have HO := Lib.hid ho; have HPe := Lib.hid hpe
    clear ho hpe
    by_cases hlt : k < s.size
    · have hq : decide ((k : Int) ≤ s.size) = true := by simp; omega
      have hq2 : decide ((k : Int) < s.size) = true := by simp; omega
      have hdr := drop_one s k hlt
      rw [HLs.out] at hdr
      by_cases hsp : s[k] = 32
      · have e1 : ((s[k].toNat : Int) != 32) = false := by rw [hsp]; rfl
        rw [hsp] at hdr
        have HD := Lib.hid hdr
        clear hsp hdr
        by_cases hp0 : p = []
        · subst hp0
          go_wp2_with fail
          go_roundw
          case rel => exact ⟨k + 1, C, [], by omega, by go_num, rfl, HO.out, by simp, by omega, fun _ => rfl, Lib.hid (by rw [HT.out, HD.out, toksA_sp0])⟩
          case measure => simp [intOf]; try omega
        · have f1 : (p == []) = false := by simpa using hp0
          have f2 : p.isEmpty = false := by simpa using hp0
          have f3 : (p != []) = true := by simpa using hp0
          have HP0 := Lib.hid hp0; clear hp0
          have hone : ∀ u ∈ (#[strV p] : Array Value).toList, u.oneCell' = true := by intro u hu; simp at hu; subst hu; rfl
          go_wp2_with (at_builtin; refine wpList_append_new rfl _ _ 28 rfl w.heap.size 9 1 16 (.string ⟨#[]⟩) Tryz.underlying28 infoS rfl (by decide) (by decide) _ _ _ rfl HO.out.1 #[strV p] 1 rfl rfl hone (by omega) HO.out.2.size ?_; intro v2 w8 ho8 hw8)
          go_roundw
          case rel => exact ⟨k + 1, C ++ [p], [], by omega, by go_num, rfl, ⟨by rw [List.length_append, flat_snoc]; exact ho8, hw8 _ HO.out.2⟩, by simp, by rw [List.length_append, List.length_singleton]; omega, fun _ => rfl, Lib.hid (by rw [HT.out, HD.out, toksA_sp _ _ HP0.out]; simp)⟩
          case measure => simp [intOf]; try omega
      · have e1 : ((s[k].toNat : Int) != 32) = true := by
          simp only [bne_iff_ne, ne_eq]; intro e; apply hsp; rw [← UInt8.toNat_inj]; simp; omega
        have hext := ext_one s k hlt
        have HD := Lib.hid hdr; have HSp := Lib.hid hsp
        clear hsp hdr
        go_wp2_with fail
        go_roundw
        case rel => exact ⟨k + 1, C, p ++ [s[k]], by omega, by go_num, rfl, HO.out, by simp; omega, by omega, fun h => by omega, Lib.hid (by rw [HT.out, HD.out, toksA_ch _ _ _ HSp.out])⟩
        case measure => simp [intOf]; omega
    · by_cases hke : k = s.size
      · subst hke
        have hq : decide ((s.size : Int) ≤ s.size) = true := by simp
        have hq2 : decide ((s.size : Int) < s.size) = false := by simp
        have hdr : l.drop s.size = [] := List.drop_eq_nil_of_le (by rw [HL.out]; exact Nat.le_refl _)
        have hdr2 : l.drop (s.size + 1) = [] := List.drop_eq_nil_of_le (by rw [HL.out]; omega)
        have HD := Lib.hid hdr; have HD2 := Lib.hid hdr2
        clear hdr hdr2
        by_cases hp0 : p = []
        · subst hp0
          go_wp2_with fail
          go_roundw
          case rel => exact ⟨s.size + 1, C, [], by omega, by go_num, rfl, HO.out, by simp, by omega, fun _ => rfl, Lib.hid (by rw [HT.out, HD.out, HD2.out])⟩
          case measure => simp [intOf]; try omega
        · have f1 : (p == []) = false := by simpa using hp0
          have f2 : p.isEmpty = false := by simpa using hp0
          have f3 : (p != []) = true := by simpa using hp0
          have HP0 := Lib.hid hp0; clear hp0
          have hone : ∀ u ∈ (#[strV p] : Array Value).toList, u.oneCell' = true := by intro u hu; simp at hu; subst hu; rfl
          go_wp2_with (at_builtin; refine wpList_append_new rfl _ _ 28 rfl w.heap.size 9 1 16 (.string ⟨#[]⟩) Tryz.underlying28 infoS rfl (by decide) (by decide) _ _ _ rfl HO.out.1 #[strV p] 1 rfl rfl hone (by omega) HO.out.2.size ?_; intro v2 w8 ho8 hw8)
          go_roundw
          case rel => exact ⟨s.size + 1, C ++ [p], [], by omega, by go_num, rfl, ⟨by rw [List.length_append, flat_snoc]; exact ho8, hw8 _ HO.out.2⟩, by simp, by rw [List.length_append, List.length_singleton]; omega, fun _ => rfl, Lib.hid (by rw [HT.out, HD.out, HD2.out, toksA_end _ HP0.out]; simp [toksA])⟩
          case measure => simp [intOf]; try omega
      · have hq : decide ((k : Int) ≤ s.size) = false := by simp; omega
        obtain rfl : k = s.size + 1 := by omega
        obtain rfl : p = [] := HPe.out rfl
        have hdr2 : l.drop (s.size + 1) = [] := List.drop_eq_nil_of_le (by rw [HL.out]; omega)
        have hT := HT.out
        rw [hdr2] at hT
        have hT' : toks l = C := by rw [hT]; simp [toksA]
        rw [← hT'] at HO
        clear hT hT' hdr2 hke
        go_wp2_with fail
        go_ret
        exact ⟨_, rfl, HO.out⟩
end Go.Proofs.YtfgoiojmbphmnaaGreatDoor
end
section
/- Plain law: folding, byte after byte. -/
set_option linter.unusedSimpArgs false
set_option linter.unusedVariables false
set_option maxRecDepth 100000
namespace Go.Proofs.YtfgoiojmbphmnaaGreatDoor
open Go.RowKit
/-- does a text end with a space -/
def endsSp : List UInt8 → Bool
  | [] => false
  | [c] => c == 32
  | _ :: d :: r => endsSp (d :: r)
theorem ends_cons (c : UInt8) {R : List UInt8} (h : R ≠ []) : endsSp (c :: R) = endsSp R := by
  cases R with
  | nil => exact absurd rfl h
  | cons d r => rfl
theorem ends_snoc (R : List UInt8) (c : UInt8) : endsSp (R ++ [c]) = (c == 32) := by
  induction R with
  | nil => rfl
  | cons d R ih => rw [List.cons_append, ends_cons _ (by simp), ih]
theorem ends_app (R : List UInt8) {x : List UInt8} (h : x ≠ []) (h2 : ∀ b ∈ x, b ≠ 32) : endsSp (R ++ x) = false := by
  obtain ⟨y, c, rfl⟩ : ∃ y c, x = y ++ [c] := ⟨_, _, (List.dropLast_concat_getLast h).symm⟩
  rw [← List.append_assoc, ends_snoc]
  simpa using h2 c (by simp)
theorem toksA_only (x : List UInt8) (h2 : ∀ b ∈ x, b ≠ 32) : ∀ p, p ++ x ≠ [] → toksA p x = [p ++ x] := by
  induction x with
  | nil => intro p h; rw [List.append_nil] at h; rw [toksA_end _ h, List.append_nil]
  | cons c x ih =>
    intro p _
    rw [toksA_ch _ _ _ (h2 c List.mem_cons_self), ih (fun b hb => h2 b (List.mem_cons_of_mem _ hb)) _ (by simp)]
    simp
theorem join_nil {T : List (List UInt8)} (h : ∀ t ∈ T, t ≠ []) (e : joinL T = []) : T = [] := by
  cases T with
  | nil => rfl
  | cons t T =>
    exfalso
    by_cases hT : T = []
    · subst hT; exact h t List.mem_cons_self (by simpa [joinL] using e)
    · rw [join_cons_ne _ _ hT] at e; simp at e
theorem spaces_end (R : List UInt8) : toksA [] R = [] → endsSp (32 :: R) = true := by
  induction R with
  | nil => intro _; rfl
  | cons c R ih =>
    intro h
    rw [ends_cons _ (by simp)]
    by_cases hc : c = 32
    · subst hc
      rw [toksA_sp0] at h
      exact ih h
    · exfalso
      rw [toksA_ch _ _ _ hc] at h
      have := (toksA_len R ([] ++ [c])).2
      have h3 : ∀ (R : List UInt8) p, p ≠ [] → toksA p R ≠ [] := by
        intro R
        induction R with
        | nil => intro p hp; rw [toksA_end _ hp]; simp
        | cons d R ih2 =>
          intro p hp
          by_cases hd : d = 32
          · subst hd; rw [toksA_sp _ _ hp]; simp
          · rw [toksA_ch _ _ _ hd]; exact ih2 _ (by simp)
      exact h3 R _ (by simp) h
theorem toksA_some (R : List UInt8) : ∀ p, p ≠ [] → toksA p R ≠ [] := by
  induction R with
  | nil => intro p hp; rw [toksA_end _ hp]; simp
  | cons d R ih2 =>
    intro p hp
    by_cases hd : d = 32
    · subst hd; rw [toksA_sp _ _ hp]; simp
    · rw [toksA_ch _ _ _ hd]; exact ih2 _ (by simp)
theorem toksA_more (R : List UInt8) {x : List UInt8} (h : x ≠ []) (h2 : ∀ b ∈ x, b ≠ 32) : ∀ p, toksA p (R ++ x) ≠ [] := by
  induction R with
  | nil => intro p; rw [List.nil_append, toksA_only x h2 p (by simp [h])]; simp
  | cons c R ih =>
    intro p
    rw [List.cons_append]
    by_cases hc : c = 32
    · subst hc
      by_cases hp : p = []
      · subst hp; rw [toksA_sp0]; exact ih []
      · rw [toksA_sp _ _ hp]; simp
    · rw [toksA_ch _ _ _ hc]; exact ih _
/-- a text goes on with bytes that are no spaces -/
theorem join_more {x : List UInt8} (h : x ≠ []) (h2 : ∀ b ∈ x, b ≠ 32) (R : List UInt8) : ∀ p, joinL (toksA p (R ++ x)) = joinL (toksA p R) ++ (if endsSp R = true ∧ joinL (toksA p R) ≠ [] then [32] else []) ++ x := by
  induction R with
  | nil =>
    intro p
    rw [List.nil_append, toksA_only x h2 p (by simp [h]), if_neg (by simp [endsSp])]
    by_cases hp : p = []
    · subst hp; simp [toksA, joinL]
    · rw [toksA_end _ hp]; simp [joinL]
  | cons c R ih =>
    intro p
    rw [List.cons_append]
    by_cases hc : c = 32
    · subst hc
      by_cases hp : p = []
      · subst hp
        rw [toksA_sp0, toksA_sp0, ih []]
        by_cases hR : R = []
        · subst hR; simp [endsSp, toksA, joinL]
        · rw [ends_cons _ hR]
      · rw [toksA_sp _ _ hp, toksA_sp _ _ hp, join_cons_ne _ _ (toksA_more R h h2 []), ih []]
        by_cases hT : toksA [] R = []
        · rw [hT]
          have he := spaces_end R hT
          rw [if_neg (by simp [joinL]), if_pos ⟨he, by simpa [joinL] using hp⟩]
          simp [joinL]
        · have hR : R ≠ [] := by intro e; subst e; exact hT rfl
          have hj : joinL (toksA [] R) ≠ [] := fun e => hT (join_nil (toksA_ne R []) e)
          rw [join_cons_ne _ _ hT, ends_cons _ hR]
          by_cases he : endsSp R = true
          · rw [if_pos ⟨he, hj⟩, if_pos ⟨he, by simp⟩]; simp
          · rw [if_neg (fun h => he h.1), if_neg (fun h => he h.1)]; simp
    · rw [toksA_ch _ _ _ hc, toksA_ch _ _ _ hc, ih]
      by_cases hR : R = []
      · subst hR
        rw [if_neg (by simp [endsSp]), if_neg (by simp [endsSp, hc])]
      · rw [ends_cons _ hR]
theorem fold_more {x : List UInt8} (h : x ≠ []) (h2 : ∀ b ∈ x, b ≠ 32) (R : List UInt8) : joinL (toks (R ++ x)) = joinL (toks R) ++ (if endsSp R = true ∧ joinL (toks R) ≠ [] then [32] else []) ++ x := join_more h h2 R []
theorem fold_space (R : List UInt8) : toks (R ++ [32]) = toks R := toksA_last R []
end Go.Proofs.YtfgoiojmbphmnaaGreatDoor
end
section
/- The reference of layer 1 (text): Valid, the replacements, Fold. -/
set_option linter.unusedSimpArgs false
set_option linter.unusedVariables false
set_option maxRecDepth 100000
namespace Go.Proofs.YtfgoiojmbphmnaaGreatDoor
open Go.RowKit
attribute [local go_sem] toList_mk mk_size bytes_append
theorem ok_not_pair (s : ByteArray) (k : Nat) (hk : k < s.size) (h : okByte s[k] = true) : pairAt (s.data.toList.drop k) = false := by
  by_cases h2 : k + 1 < s.size
  · rw [drop_two s k h2]; exact byte_pair h
  · rw [drop_last s k (by omega)]; rfl
theorem pair_facts2 (s : ByteArray) (k : Nat) (h2 : k + 1 < s.size) (h : pairAt (s.data.toList.drop k) = true) : s[k] = 195 ∧ 128 ≤ (s[k + 1].toNat : Int) ∧ (s[k + 1].toNat : Int) ≤ 191 := by
  rw [drop_two s k h2] at h
  have h' : isPair s[k] s[k + 1] = true := h
  rw [pair_iff, decide_eq_true_iff] at h'
  exact ⟨by rw [← UInt8.toNat_inj]; simp; omega, h'.2⟩
set_option maxHeartbeats 2000000 in
theorem rvalid_text (s : ByteArray) (w : World) (hs : s.size ≤ 9223372036854775000) :
    Calls Tryz.prog 128 #[.string s] w fun e w' => e = .returned (.bool (foldV s.data.toList)) ∧ w = w' := by
  have hl : s.data.toList.length = s.size := by simp
  have HL := Lib.hid hl; clear hl
  unfold foldV
  by_cases h64 : s.size ≤ 64
  · have d1 : decide ((64 : Int) < s.size) = false := by simp; omega
    go_enter Tryz.func128, Tryz.ntmps128
    go_wp2_with fail
    clear d1
    go_loop [3] (fun i => ∃ k : Nat, k ≤ s.size ∧ i = .int .i64 k ∧ Hid (validL s.data.toList = validL (s.data.toList.drop k))) (fun i => s.size - (intOf i).toNat)
    case atStart => exact ⟨0, by omega, rfl, Lib.hid rfl⟩
    case round =>
      obtain ⟨k, hk, rfl, HV⟩ := hrel
      by_cases hlt : k < s.size
      · have hq : decide ((k : Int) < s.size) = true := by simp; omega
        have hb := s[k].toNat_lt
        cases hok : okByte s[k]
        · cases hp : pairAt (s.data.toList.drop k)
          · have hv := Lib.hid (valid_one s k hlt hp)
            have HOk := Lib.hid hok
            rw [ok_iff, decide_eq_false_iff_not] at hok
            have hc : (s[k].toNat : Int) < 32 ∨ (32 ≤ (s[k].toNat : Int) ∧ 126 < (s[k].toNat : Int)) := by omega
            clear hok
            have hfalse : validL s.data.toList = false := by rw [HV.out, hv.out, HOk.out]; rfl
            have HF := Lib.hid hfalse
            clear hfalse
            by_cases h195 : s[k] = 195
            · have e1 : ((s[k].toNat : Int) != 195) = false := by rw [h195]; rfl
              by_cases h2 : k + 1 < s.size
              · have e2 : ((k : Int) + 1 == (s.size : Int)) = false := by simp only [beq_eq_false_iff_ne, ne_eq]; omega
                rw [drop_two s k h2] at hp
                have hp' : isPair s[k] s[k + 1] = false := hp
                rw [pair_iff, decide_eq_false_iff_not] at hp'
                have h195' : (s[k].toNat : Int) = 195 := by rw [h195]; rfl
                have hc2 : (s[k + 1].toNat : Int) < 128 ∨ (128 ≤ (s[k + 1].toNat : Int) ∧ 191 < (s[k + 1].toNat : Int)) := by omega
                clear hp hp' h195 h195'
                rcases hc with g1 | ⟨g1, g2⟩ <;> rcases hc2 with g3 | ⟨g3, g4⟩
                all_goals
                  go_wp2_with fail
                  go_ret
                  exact ⟨ret_bool (by rw [HF.out]; try rfl), rfl⟩
              · have e2 : ((k : Int) + 1 == (s.size : Int)) = true := by simp only [beq_iff_eq]; omega
                clear hp h195
                rcases hc with g1 | ⟨g1, g2⟩
                all_goals
                  go_wp2_with fail
                  go_ret
                  exact ⟨ret_bool (by rw [HF.out]; try rfl), rfl⟩
            · have e1 : ((s[k].toNat : Int) != 195) = true := by
                simp only [bne_iff_ne, ne_eq]; intro e; apply h195; rw [← UInt8.toNat_inj]; simp; omega
              clear hp h195
              rcases hc with g1 | ⟨g1, g2⟩
              all_goals
                go_wp2_with fail
                go_ret
                exact ⟨ret_bool (by rw [HF.out]; try rfl), rfl⟩
          · have h2 := pairAt_lt s k hlt hp
            have hv := Lib.hid (valid_two s k hlt hp)
            obtain ⟨g0, g3, g4⟩ := pair_facts2 s k h2 hp
            have e1 : ((s[k].toNat : Int) != 195) = false := by rw [g0]; rfl
            have e2 : ((k : Int) + 1 == (s.size : Int)) = false := by simp only [beq_eq_false_iff_ne, ne_eq]; omega
            have g1 : 32 ≤ (s[k].toNat : Int) := by rw [g0]; decide
            have g2 : 126 < (s[k].toNat : Int) := by rw [g0]; decide
            clear hok hp g0
            go_wp2_with fail
            go_round
            case rel => exact ⟨k + 2, by omega, by go_num, Lib.hid (HV.out.trans hv.out)⟩
            case measure => simp [intOf]; omega
        · have hp := ok_not_pair s k hlt hok
          have hv := Lib.hid (valid_one s k hlt hp)
          have HOk := Lib.hid hok
          rw [ok_iff, decide_eq_true_iff] at hok
          obtain ⟨g1, g2⟩ := hok
          clear hp
          go_wp2_with fail
          go_round
          case rel => exact ⟨k + 1, by omega, by go_num, Lib.hid (HV.out.trans (by rw [hv.out, HOk.out]; rfl))⟩
          case measure => simp [intOf]; omega
      · have hq : decide ((k : Int) < s.size) = false := by simp; omega
        have hd : s.data.toList.drop k = [] := List.drop_eq_nil_of_le (by rw [HL.out]; omega)
        have HD := Lib.hid hd; clear hd
        go_wp2_with fail
        go_ret
        refine ⟨ret_bool ?_, rfl⟩
        rw [HV.out, HD.out]
        first | rfl | (rw [HL.out, decide_eq_true (by omega)]; rfl)
  · have d1 : decide ((64 : Int) < s.size) = true := by simp; omega
    go_enter Tryz.func128, Tryz.ntmps128
    go_wp2_with fail
    go_ret
    exact ⟨ret_bool (by rw [HL.out, decide_eq_false (by omega)]; simp), rfl⟩
end Go.Proofs.YtfgoiojmbphmnaaGreatDoor
end
section
/- The reference of layer 1 (text): the replacements, Fold. -/
set_option linter.unusedSimpArgs false
set_option linter.unusedVariables false
set_option maxRecDepth 100000
namespace Go.Proofs.YtfgoiojmbphmnaaGreatDoor
open Go.RowKit
attribute [local go_sem] toList_mk mk_size bytes_append
def tabR : List UInt8 := [97, 97, 97, 97, 97, 97, 63, 63, 101, 101, 101, 101, 105, 105, 105, 105, 100, 110, 111, 111, 111, 111, 111, 63, 111, 117, 117, 117, 117, 121, 63, 63]
def replR (n : Nat) : List UInt8 := if n % 32 = 6 then [97, 101] else if n % 32 = 7 then [99] else if n % 32 = 23 then [] else if n % 32 = 30 then [116, 104] else if n = 31 then [115, 115] else if n = 63 then [121] else [tabR.getD (n % 32) 0]
theorem replB_is : ∀ n : Fin 64, replB (UInt8.ofNat (128 + n)) = replR n := by decide
theorem and_31 : ((List.range 64).all fun n => bits .and .u8 ((128 + n : Nat) : Int) 31 == ((n % 32 : Nat) : Int)) = true := by kernel_rfl
theorem tab_ext (r : Nat) (h : r < 32) : (⟨#[97, 97, 97, 97, 97, 97, 63, 63, 101, 101, 101, 101, 105, 105, 105, 105, 100, 110, 111, 111, 111, 111, 111, 63, 111, 117, 117, 117, 117, 121, 63, 63]⟩ : ByteArray).extract r (r + 1) = ⟨[tabR.getD r 0].toArray⟩ := by
  have h' : r < (⟨tabR.toArray⟩ : ByteArray).size := h
  have := ext_one ⟨tabR.toArray⟩ r h'
  refine this.trans ?_
  congr 3
  rw [List.getD, List.getElem?_eq_getElem (show r < tabR.length from h)]; rfl
set_option maxHeartbeats 2000000 in
theorem rrepl_any (x : UInt8) (w : World) (h1 : 128 ≤ (x.toNat : Int)) (h2 : (x.toNat : Int) ≤ 191) :
    Calls Tryz.prog 129 #[.int .u8 x.toNat] w fun e w' => e = .returned (strV (replB x)) ∧ w = w' := by
  obtain ⟨n, hn⟩ : ∃ n : Nat, x.toNat = 128 + n := ⟨x.toNat - 128, by omega⟩
  have hn64 : n < 64 := by omega
  have hx : x = UInt8.ofNat (128 + n) := by rw [← hn]; simp
  have hR : replB x = replR n := by rw [hx]; exact replB_is ⟨n, hn64⟩
  have hand : bits .and .u8 (x.toNat : Int) 31 = ((n % 32 : Nat) : Int) := by
    have := List.all_eq_true.1 and_31 n (List.mem_range.2 hn64)
    rw [hn]; simpa using this
  obtain ⟨r, hr⟩ : ∃ r, n % 32 = r := ⟨_, rfl⟩
  have hr32 : r < 32 := by omega
  have hRr : replR n = if r = 6 then [97, 101] else if r = 7 then [99] else if r = 23 then [] else if r = 30 then [116, 104] else if n = 31 then [115, 115] else if n = 63 then [121] else [tabR.getD r 0] := by unfold replR; rw [hr]
  rw [hR, hRr]
  rw [hr] at hand
  have hn1 : (x.toNat : Int) = 128 + (n : Int) := by omega
  have hb := x.toNat_lt
  have HR := Lib.hid hr; have HN := Lib.hid hn1
  clear hx hR hRr hr hn hn1
  by_cases c6 : r = 6
  · subst c6
    go_enter Tryz.func129, Tryz.ntmps129
    go_wp2_with fail
    go_ret
    exact ⟨rfl, rfl⟩
  · have e6 : ((r : Int) == 6) = false := by simp only [beq_eq_false_iff_ne, ne_eq]; omega
    rw [if_neg c6]
    by_cases c7 : r = 7
    · subst c7
      clear c6
      go_enter Tryz.func129, Tryz.ntmps129
      go_wp2_with fail
      go_ret
      exact ⟨rfl, rfl⟩
    · have e7 : ((r : Int) == 7) = false := by simp only [beq_eq_false_iff_ne, ne_eq]; omega
      rw [if_neg c7]
      by_cases c23 : r = 23
      · subst c23
        clear c6 c7
        go_enter Tryz.func129, Tryz.ntmps129
        go_wp2_with fail
        go_ret
        exact ⟨rfl, rfl⟩
      · have e23 : ((r : Int) == 23) = false := by simp only [beq_eq_false_iff_ne, ne_eq]; omega
        rw [if_neg c23]
        by_cases c30 : r = 30
        · subst c30
          clear c6 c7 c23
          go_enter Tryz.func129, Tryz.ntmps129
          go_wp2_with fail
          go_ret
          exact ⟨rfl, rfl⟩
        · have e30 : ((r : Int) == 30) = false := by simp only [beq_eq_false_iff_ne, ne_eq]; omega
          rw [if_neg c30]
          by_cases n31 : n = 31
          · have e31 : ((x.toNat : Int) == 159) = true := by simp only [beq_iff_eq]; rw [HN.out]; omega
            rw [if_pos n31]
            clear c6 c7 c23 c30 n31
            go_enter Tryz.func129, Tryz.ntmps129
            go_wp2_with fail
            go_ret
            exact ⟨rfl, rfl⟩
          · have e31 : ((x.toNat : Int) == 159) = false := by simp only [beq_eq_false_iff_ne, ne_eq]; rw [HN.out]; omega
            rw [if_neg n31]
            by_cases n63 : n = 63
            · have e63 : ((x.toNat : Int) == 191) = true := by simp only [beq_iff_eq]; rw [HN.out]; omega
              rw [if_pos n63]
              clear c6 c7 c23 c30 n31 n63
              go_enter Tryz.func129, Tryz.ntmps129
              go_wp2_with fail
              go_ret
              exact ⟨rfl, rfl⟩
            · have e63 : ((x.toNat : Int) == 191) = false := by simp only [beq_eq_false_iff_ne, ne_eq]; rw [HN.out]; omega
              rw [if_neg n63]
              have hext := tab_ext r hr32
              clear c6 c7 c23 c30 n31 n63
              go_enter Tryz.func129, Tryz.ntmps129
              go_wp2_with fail
              go_ret
              exact ⟨rfl, rfl⟩
end Go.Proofs.YtfgoiojmbphmnaaGreatDoor
end
section
/- The reference of layer 1 (text): Fold. -/
set_option linter.unusedSimpArgs false
set_option linter.unusedVariables false
set_option maxRecDepth 100000
namespace Go.Proofs.YtfgoiojmbphmnaaGreatDoor
open Go.RowKit
attribute [local go_sem] toList_mk mk_size bytes_append
/-- what one step of Fold does at place k: place k', what is added, what the raw text has there, is a separator due -/
structure FoldSt (s : ByteArray) (k : Nat) (b : Bool) (k' : Nat) (b' : Bool) (x y : List UInt8) : Prop where
  raw : rawL (s.data.toList.drop k) = y ++ rawL (s.data.toList.drop (k' + 1))
  val : validL (s.data.toList.drop (k' + 1)) = true
  lo : k ≤ k'
  hi : k' < s.size
  len : x.length ≤ 2
  way : (x = y ∧ b' = b ∧ ∀ c ∈ x, c ≠ 32) ∨ (x = [] ∧ y = [32] ∧ b' = true)
theorem replB_sp : ∀ n : Fin 64, ((replB (UInt8.ofNat (128 + n))).all fun c => c != 32) = true := by decide
theorem FoldSt.pair {s : ByteArray} {k : Nat} {b : Bool} (h2 : k + 1 < s.size) (hp : pairAt (s.data.toList.drop k) = true) (hv : validL (s.data.toList.drop k) = true) : FoldSt s k b (k + 1) b (replB s[k + 1]) (replB s[k + 1]) := by
  obtain ⟨_, g1, g2⟩ := pair_facts2 s k h2 hp
  refine ⟨raw_two s k h2 hp, by rw [← valid_two s k (by omega) hp]; exact hv, by omega, h2, (replB_ok _).2, .inl ⟨rfl, rfl, fun c hc => ?_⟩⟩
  obtain ⟨n, hn⟩ : ∃ n : Nat, s[k + 1].toNat = 128 + n := ⟨s[k + 1].toNat - 128, by omega⟩
  have hx : s[k + 1] = UInt8.ofNat (128 + n) := by rw [← hn]; simp
  have := replB_sp ⟨n, by omega⟩
  rw [hx] at hc
  simpa using List.all_eq_true.1 this c hc
theorem FoldSt.one {s : ByteArray} {k : Nat} {b : Bool} (hk : k < s.size) (hp : pairAt (s.data.toList.drop k) = false) (hv : validL (s.data.toList.drop k) = true) {x : List UInt8} (hx : plainB s[k] = x) (h32 : ∀ c ∈ x, c ≠ 32) : FoldSt s k b k b x x := by
  have h1 := valid_one s k hk hp
  rw [h1, Bool.and_eq_true] at hv
  exact ⟨by rw [raw_one s k hk hp, hx], hv.2, Nat.le_refl _, hk, by rw [← hx]; have := (plainB_ok s[k]).2; omega, .inl ⟨rfl, rfl, h32⟩⟩
theorem FoldSt.sep {s : ByteArray} {k : Nat} {b : Bool} (hk : k < s.size) (hp : pairAt (s.data.toList.drop k) = false) (hv : validL (s.data.toList.drop k) = true) (hx : plainB s[k] = [32]) : FoldSt s k b k true [] [32] := by
  have h1 := valid_one s k hk hp
  rw [h1, Bool.and_eq_true] at hv
  exact ⟨by rw [raw_one s k hk hp, hx], hv.2, Nat.le_refl _, hk, by simp, .inr ⟨rfl, rfl, rfl⟩⟩
theorem plain_no32 {c : UInt8} (h : isUp c = true ∨ isLow c = true ∨ isDgt c = true) : ∀ d ∈ plainB c, d ≠ 32 := by
  intro d hd
  unfold plainB at hd
  split at hd
  · rename_i hu
    simp at hd; subst hd
    rw [up_iff, decide_eq_true_iff] at hu
    intro e
    have : (c + 32).toNat = 32 := by rw [e]; rfl
    rw [UInt8.toNat_add] at this
    simp at this; omega
  · split at hd
    · rename_i h1 h2
      simp at hd; subst hd
      simp only [Bool.or_eq_true] at h2
      intro e; subst e
      rcases h2 with h2 | h2
      · rw [low_iff] at h2; simp at h2
      · rw [dig_iff] at h2; simp at h2
    · rename_i h1 h2
      exfalso
      rcases h with h | h | h
      · exact h1 h
      · exact h2 (by simp [h])
      · exact h2 (by simp [h])
/-- what the loop of Fold holds -/
structure FoldIn (s : ByteArray) (w : World) (k : Nat) (R : List UInt8) (b : Bool) (wr : World) : Prop where
  raw : R ++ rawL (s.data.toList.drop k) = rawL s.data.toList
  sep : b = endsSp R
  val : validL (s.data.toList.drop k) = true
  bel : Below w.heap.size w wr
theorem FoldIn.len {s : ByteArray} {w : World} {k : Nat} {R : List UInt8} {b : Bool} {wr : World} (h : FoldIn s w k R b wr) (hs : s.size ≤ 64) : (joinL (toks R)).length ≤ 64 := by
  have h1 := congrArg List.length h.raw
  have h2 := (raw_ok s.data.toList).2
  have h3 := (toksA_len R []).1
  have hl : s.data.toList.length = s.size := by simp
  unfold toks
  simp at h1 h3; omega
set_option maxHeartbeats 8000000 in
theorem rfold_yes (s : ByteArray) (w : World) (hv : foldV s.data.toList = true) :
    Calls Tryz.prog 91 #[.string s] w fun e w' => e = .returned (.tuple #[strV (foldL s.data.toList), .int .i64 0]) ∧ Below w.heap.size w w' := by
  have hl : s.data.toList.length = s.size := by simp
  have hv' := hv
  unfold foldV at hv'
  rw [Bool.and_eq_true, decide_eq_true_iff, hl] at hv'
  obtain ⟨hval, hs⟩ := hv'
  have HL := Lib.hid hl; have HV := Lib.hid hv
  have K0 := Lib.hid (show FoldIn s w 0 [] false w from ⟨rfl, rfl, hval, Below.refl _ _⟩)
  clear hl hv hval
  go_enter Tryz.func91, Tryz.ntmps91
  go_wp2_with fail
  refine (rvalid_text s _ (by omega)).mono ?_
  rw [HV.out]
  rintro e w' ⟨rfl, rfl⟩
  go_wp2_with fail
  go_loopw [4, 5, 6] (fun o t i wr => ∃ (k : Nat) (R : List UInt8) (b : Bool), k ≤ s.size ∧ o = strV (joinL (toks R)) ∧ t = .bool b ∧ i = .int .i64 k ∧ FoldIn s w k R b wr) (fun _ _ i _ => s.size - (intOf i).toNat)
  case atStart => exact ⟨0, [], false, by omega, rfl, rfl, rfl, K0.out⟩
  case round =>
    obtain ⟨k, R, b, hk, rfl, rfl, rfl, hin⟩ := hrel
    have hO := hin.len hs
    have HI := Lib.hid hin
    clear hin K0
    obtain ⟨O, hOe⟩ : ∃ O, joinL (toks R) = O := ⟨_, rfl⟩
    have HOe := Lib.hid hOe
    rw [hOe] at hO ⊢
    clear hOe
    by_cases hlt : k < s.size
    · have hq : decide ((k : Int) < s.size) = true := by simp; omega
      have hb := s[k].toNat_lt
      go_upto_block 2 with (fail)
      go_cut [5, 6, 8] (fun s5 s6 s8 wx => ∃ (k' : Nat) (b' : Bool) (x y : List UInt8), s5 = .bool b' ∧ s6 = .int .i64 k' ∧ s8 = strV x ∧ FoldSt s k b k' b' x y ∧ Below w.heap.size w wx)
      case first =>
        cases hp : pairAt (s.data.toList.drop k)
        · have hval := HI.out.val
          have hval2 := hval
          rw [valid_one s k hlt hp, Bool.and_eq_true] at hval2
          have hok := hval2.1
          rw [ok_iff, decide_eq_true_iff] at hok
          have e195 : ((s[k].toNat : Int) == 195) = false := by simp only [beq_eq_false_iff_ne, ne_eq]; omega
          have HP := Lib.hid hp; have HVl := Lib.hid hval
          clear hp hval hval2
          cases hu : isUp s[k]
          · have hu' := hu
            rw [up_iff, decide_eq_false_iff_not] at hu'
            have hcu : (65 ≤ (s[k].toNat : Int) ∧ 90 < (s[k].toNat : Int)) ∨ (s[k].toNat : Int) < 65 := by omega
            cases hlo : isLow s[k]
            · have hlo' := hlo
              rw [low_iff, decide_eq_false_iff_not] at hlo'
              have hcl : (97 ≤ (s[k].toNat : Int) ∧ 122 < (s[k].toNat : Int)) ∨ (s[k].toNat : Int) < 97 := by omega
              cases hdi : isDgt s[k]
              · have hdi' := hdi
                rw [dig_iff, decide_eq_false_iff_not] at hdi'
                have hcd : (48 ≤ (s[k].toNat : Int) ∧ 57 < (s[k].toNat : Int)) ∨ (s[k].toNat : Int) < 48 := by omega
                cases ha : ((s[k].toNat : Int) == 39)
                · have this : (s[k] == 39) = false := by simp at ha ⊢; intro h; rw [h] at ha; simp at ha
                  have hpl : plainB s[k] = [32] := by simp [plainB, hu, hlo, hdi, this]
                  have ha2 : ((s[k].toNat : Int) != 39) = true := by simpa using ha
                  have HS := Lib.hid (FoldSt.sep (b := b) hlt HP.out HVl.out hpl)
                  clear hu hu' hlo hlo' hdi hdi' this hpl hok
                  rcases hcu with ⟨g1, g2⟩ | g1 <;> rcases hcl with ⟨g3, g4⟩ | g3 <;> rcases hcd with ⟨g5, g6⟩ | g5
                  all_goals first
                    | (exfalso; omega)
                    | (go_wp2_with fail; go_meet; exact ⟨k, true, [], [32], rfl, rfl, rfl, HS.out, HI.out.bel⟩)
                · have this : (s[k] == 39) = true := by simp [← UInt8.toNat_inj] at ha ⊢; omega
                  have hpl : plainB s[k] = [] := by simp [plainB, hu, hlo, hdi, this]
                  have ha2 : ((s[k].toNat : Int) != 39) = false := by simpa using ha
                  have HS := Lib.hid (FoldSt.one (b := b) hlt HP.out HVl.out hpl (by simp))
                  clear hu hu' hlo hlo' hdi hdi' this hpl hok
                  rcases hcu with ⟨g1, g2⟩ | g1 <;> rcases hcl with ⟨g3, g4⟩ | g3 <;> rcases hcd with ⟨g5, g6⟩ | g5
                  all_goals first
                    | (exfalso; simp at ha; omega)
                    | (go_wp2_with fail; go_meet; exact ⟨k, b, [], [], rfl, rfl, rfl, HS.out, HI.out.bel⟩)
              · have hdi' := hdi
                rw [dig_iff, decide_eq_true_iff] at hdi'
                obtain ⟨g5, g6⟩ := hdi'
                have hpl : plainB s[k] = [s[k]] := by simp [plainB, hu, hlo, hdi]
                have HS := Lib.hid (FoldSt.one (b := b) hlt HP.out HVl.out hpl (by rw [← hpl]; exact plain_no32 (.inr (.inr hdi))))
                have hcv := one_byte wr s[k]
                have g1 : (s[k].toNat : Int) < 65 := by omega
                have g3 : (s[k].toNat : Int) < 97 := by omega
                clear hu hu' hlo hlo' hdi hpl hok hcu hcl
                go_wp2_with fail
                go_meet
                exact ⟨k, b, [s[k]], [s[k]], rfl, rfl, rfl, HS.out, HI.out.bel.alloc HI.out.bel.size _⟩
            · have hlo' := hlo
              rw [low_iff, decide_eq_true_iff] at hlo'
              obtain ⟨g3, g4⟩ := hlo'
              have hpl : plainB s[k] = [s[k]] := by simp [plainB, hu, hlo]
              have HS := Lib.hid (FoldSt.one (b := b) hlt HP.out HVl.out hpl (by rw [← hpl]; exact plain_no32 (.inr (.inl hlo))))
              have hcv := one_byte wr s[k]
              have g1 : 65 ≤ (s[k].toNat : Int) := by omega
              have g2 : 90 < (s[k].toNat : Int) := by omega
              clear hu hu' hlo hpl hok hcu
              go_wp2_with fail
              go_meet
              exact ⟨k, b, [s[k]], [s[k]], rfl, rfl, rfl, HS.out, HI.out.bel.alloc HI.out.bel.size _⟩
          · have hu' := hu
            rw [up_iff, decide_eq_true_iff] at hu'
            obtain ⟨g1, g2⟩ := hu'
            have hpl : plainB s[k] = [s[k] + 32] := by simp [plainB, hu]
            have HS := Lib.hid (FoldSt.one (b := b) hlt HP.out HVl.out hpl (by rw [← hpl]; exact plain_no32 (.inl hu)))
            have hcv := one_byte wr (s[k] + 32)
            have e2 : ((s[k] + 32).toNat : Int) = (s[k].toNat : Int) + 32 := by rw [UInt8.toNat_add]; simp; omega
            rw [e2] at hcv
            clear hu hpl hok e2
            go_wp2_with fail
            go_meet
            exact ⟨k, b, [s[k] + 32], [s[k] + 32], rfl, rfl, rfl, HS.out, HI.out.bel.alloc HI.out.bel.size _⟩
        · have h2 := pairAt_lt s k hlt hp
          obtain ⟨g0, g1, g2⟩ := pair_facts2 s k h2 hp
          have HS := Lib.hid (FoldSt.pair (b := b) h2 hp HI.out.val)
          have e195 : ((s[k].toNat : Int) == 195) = true := by rw [g0]; rfl
          clear hp g0
          go_wp2_with fail
          refine (rrepl_any s[k + 1] _ g1 g2).mono ?_
          rintro e w' ⟨rfl, rfl⟩
          go_wp2_with fail
          go_meet
          exact ⟨k + 1, b, replB s[k + 1], replB s[k + 1], rfl, by go_num, rfl, HS.out, HI.out.bel⟩
      case rest =>
        obtain ⟨k', b', x, y, rfl, rfl, rfl, hst, hbl⟩ := hcut
        have HS := Lib.hid hst; have HB := Lib.hid hbl
        have hk1 := hst.lo
        have hk2 := hst.hi
        have hxl := hst.len
        clear hst hbl
        by_cases hx : x = []
        · subst hx
          have KN : ∃ R', FoldIn s w (k' + 1) R' b' wc ∧ joinL (toks R') = O := by
            have hi := HI.out
            have hst := HS.out
            rcases hst.way with ⟨h1, h2, _⟩ | ⟨_, h1, h2⟩
            · subst h1; subst h2
              exact ⟨R, ⟨by have := hst.raw; simp only [List.nil_append] at this; rw [← this]; exact hi.raw, hi.sep, hst.val, HB.out⟩, HOe.out⟩
            · subst h1; subst h2
              exact ⟨R ++ [32], ⟨by rw [List.append_assoc, ← hst.raw]; exact hi.raw, (ends_snoc R 32).symm, hst.val, HB.out⟩, by rw [fold_space, HOe.out]⟩
          obtain ⟨R', hR1, hR2⟩ := KN
          have HR1 := Lib.hid hR1; have HR2 := Lib.hid hR2
          clear hR1 hR2
          go_wp2_with fail
          go_roundw
          case rel => exact ⟨k' + 1, R', b', by omega, by rw [HR2.out], rfl, by go_num, HR1.out⟩
          case measure => simp [intOf]; omega
        · have f1 : (x == []) = false := by simpa using hx
          have f2 : x.isEmpty = false := by simpa using hx
          have hst := HS.out
          obtain ⟨h1, h2, h3⟩ := hst.way.resolve_right (fun h => hx h.1)
          subst h1 h2
          have hmore := fold_more hx h3 R
          have hends := ends_app R hx h3
          have KN := Lib.hid (show FoldIn s w (k' + 1) (R ++ x) false wc from ⟨by rw [List.append_assoc, ← hst.raw]; exact HI.out.raw, hends.symm, hst.val, HB.out⟩)
          rw [← HI.out.sep, HOe.out] at hmore
          have HMore := Lib.hid hmore
          clear hst hmore hends h3 hx
          cases b'
          · go_wp2_with fail
            go_roundw
            case rel => exact ⟨k' + 1, R ++ x, false, by omega, by rw [HMore.out]; simp, rfl, by go_num, KN.out⟩
            case measure => simp [intOf]; omega
          · by_cases hO0 : O = []
            · have f3 : (O == []) = true := by rw [hO0]; rfl
              have f4 : (O != []) = false := by rw [hO0]; rfl
              have HO0 := Lib.hid hO0
              clear hO0
              go_wp2_with fail
              go_roundw
              case rel => exact ⟨k' + 1, R ++ x, false, by omega, by rw [HMore.out, HO0.out]; simp, rfl, by go_num, KN.out⟩
              case measure => simp [intOf]; omega
            · have f3 : (O == []) = false := by simpa using hO0
              have f4 : (O != []) = true := by simpa using hO0
              have f5 : O.isEmpty = false := by simpa using hO0
              have HO0 := Lib.hid hO0
              clear hO0
              go_wp2_with fail
              go_roundw
              case rel => exact ⟨k' + 1, R ++ x, false, by omega, by rw [HMore.out, if_pos ⟨rfl, HO0.out⟩]; simp, rfl, by go_num, KN.out⟩
              case measure => simp [intOf]; omega
    · have hq : decide ((k : Int) < s.size) = false := by simp; omega
      have hfin : foldL s.data.toList = O := by
        have hi := HI.out
        have hd : s.data.toList.drop k = [] := List.drop_eq_nil_of_le (by rw [HL.out]; omega)
        have hr := hi.raw
        rw [hd, show rawL [] = [] from rfl, List.append_nil] at hr
        unfold foldL
        rw [← hr]; exact HOe.out
      have HF := Lib.hid hfin
      clear hfin
      go_wp2_with fail
      go_ret2
      exact ⟨by show Ending.returned (.tuple #[strV O, .int .i64 0]) = _; rw [HF.out], HI.out.bel⟩
set_option maxHeartbeats 400000 in
theorem rfold_no (s : ByteArray) (w : World) (hs : s.size ≤ 9223372036854775000) (hv : foldV s.data.toList = false) :
    Calls Tryz.prog 91 #[.string s] w fun e w' => e = .returned (.tuple #[strV [], .int .i64 3]) ∧ Below w.heap.size w w' := by
  have HV := Lib.hid hv; clear hv
  go_enter Tryz.func91, Tryz.ntmps91
  go_wp2_with fail
  refine (rvalid_text s _ hs).mono ?_; rw [HV.out]; rintro e w' ⟨rfl, rfl⟩
  go_wp2_with fail
  go_ret2
  exact ⟨rfl, Below.refl _ _⟩
theorem rfold_any (s : ByteArray) (w : World) (hs : s.size ≤ 9223372036854775000) :
    Calls Tryz.prog 91 #[.string s] w fun e w' => e = .returned (foldRes s.data.toList) ∧ Below w.heap.size w w' := by
  unfold foldRes
  cases hv : foldV s.data.toList with
  | false => exact rfold_no s w hs hv
  | true => exact rfold_yes s w hv
end Go.Proofs.YtfgoiojmbphmnaaGreatDoor
end
section
/- The reference of layer 2 (name): token, ascending, has, Replace, Canonical, Dropped. -/
set_option linter.unusedSimpArgs false
set_option linter.unusedVariables false
set_option maxRecDepth 100000
namespace Go.Proofs.YtfgoiojmbphmnaaGreatDoor
open Go.RowKit
attribute [local go_sem] toList_mk mk_size bytes_append
set_option maxHeartbeats 400000 in
theorem rtoken_any (l : List UInt8) (w : World) :
    Calls Tryz.prog 87 #[strV l] w fun e w' => e = .returned (.bool (tokenB l)) ∧ w = w' := by
  unfold tokenB
  by_cases h0 : l = []
  · subst h0
    go_enter Tryz.func87, Tryz.ntmps87
    go_wp2
    go_ret
    exact ⟨rfl, rfl⟩
  · have h1 : l.isEmpty = false := by simpa using h0
    have h2 : (l == []) = false := by simpa using h0
    have h2' : (l != []) = true := by simpa using h0
    rw [h1]
    by_cases h3 : l.length ≤ 64
    · have h4 : decide (l.length ≤ 64) = true := by simpa using h3
      have h5 : decide ((l.length : Int) ≤ 64) = true := by simp; omega
      rw [h4]
      clear h0 h4
      go_enter Tryz.func87, Tryz.ntmps87
      go_wp2_with fail
      refine (rletters_any ⟨l.toArray⟩ _ (by rw [mk_size]; omega)).mono ?_
      rw [show (⟨l.toArray⟩ : ByteArray).data.toList = l by simp]
      rintro e w1 ⟨rfl, rfl⟩
      go_wp2_with fail
      go_ret
      exact ⟨rfl, rfl⟩
    · have h4 : decide (l.length ≤ 64) = false := by simpa using h3
      have h5 : decide ((l.length : Int) ≤ 64) = false := by simp; omega
      rw [h4]
      clear h0 h4
      go_enter Tryz.func87, Tryz.ntmps87
      go_wp2_with fail
      go_ret
      exact ⟨rfl, rfl⟩
/-- each entry is greater than the one before -/
def ascAt (L : List (List UInt8)) (j : Nat) : Bool := decide (j = 0) || ltB (L.getD (j - 1) []) (L.getD j [])
def ascL (L : List (List UInt8)) : Bool := (List.range L.length).all (ascAt L)
theorem leq_less (x y : List UInt8) : (Op.bytesLess x y || x == y) = !Op.bytesLess y x := by
  rw [bytesLess_eq, bytesLess_eq, Bool.eq_iff_iff]
  simp only [Bool.or_eq_true, decide_eq_true_eq, beq_iff_eq, Bool.not_eq_true', decide_eq_false_iff_not]
  exact List.le_iff_lt_or_eq.symm
set_option maxHeartbeats 1000000 in
theorem rasc_any (S : Nat → Prop) (v : Value) (L : List (List UInt8)) (w : World) (h : Vec w S 1 encS v L) (hn : L.length ≤ 1000000) :
    Calls Tryz.prog 88 #[v] w fun e w' => e = .returned (.bool (ascL L)) ∧ Below w.heap.size w w' := by
  obtain ⟨a, cap, rfl⟩ := h.slice
  have HV := Lib.hid h; clear h
  go_enter Tryz.func88, Tryz.ntmps88
  go_wp2_with fail
  go_loopw [3] (fun i wr => ∃ m : Nat, i = .int .i64 (m + 1) ∧ m ≤ L.length ∧ Below w.heap.size w wr ∧ Hid (∀ j, j < m + 1 → j < L.length → ascAt L j = true)) (fun i _ => L.length + 1 - (intOf i).toNat)
  case atStart => exact ⟨0, rfl, by omega, Below.refl _ _, Lib.hid fun j hj _ => by (obtain rfl : j = 0 := by omega); rfl⟩
  case round =>
    obtain ⟨m, rfl, hm, hbw, HA⟩ := hrel
    have HW := Lib.hid hbw
    by_cases hlt : m + 1 < L.length
    · have hq : decide ((m : Int) + 1 < L.length) = true := by simp; omega
      obtain ⟨b, off, rfl, _, hb, hc⟩ := vec_cell1 HV.out (by omega)
      have c1 := (hbw.cell (p := ⟨b, off + (m + 1), none⟩) hb).trans (hc (m + 1) hlt)
      have c2 := (hbw.cell (p := ⟨b, off + m, none⟩) hb).trans (hc m (by omega))
      have hat : ascAt L (m + 1) = Op.bytesLess (L.getD m []) (L.getD (m + 1) []) := by simp [ascAt, ltB]
      obtain ⟨x, hx⟩ : ∃ x, L.getD (m + 1) [] = x := ⟨_, rfl⟩
      obtain ⟨y, hy⟩ : ∃ y, L.getD m [] = y := ⟨_, rfl⟩
      rw [hx] at c1 hat
      rw [hy] at c2 hat
      have hi1 : (m : Int) + 1 < (L.length : Int) := by omega
      have hi2 : (m : Int) < (L.length : Int) := by omega
      have hi3 : (0 : Int) ≤ (m : Int) + 1 := by omega
      have hleq := leq_less x y
      clear hc hx hy hbw
      cases hl : Op.bytesLess y x
      · rw [hl] at hat hleq
        have HAt := Lib.hid hat; clear hat hl
        have hleq' : (Op.bytesLess x y || x == y) = true := hleq
        clear hleq
        go_wp2_with fail
        go_quiet (fail)
        go_wp2_with fail
        go_ret
        exact ⟨ret_bool (by rw [ascL, all_false hlt HAt.out]), below_drewN HW.out _⟩
      · rw [hl] at hat hleq
        have HAt := Lib.hid hat; clear hat hl
        have hleq' : (Op.bytesLess x y || x == y) = false := hleq
        have g1 : Op.bytesLess x y = false := (Bool.or_eq_false_iff.1 hleq').1
        have g2 : (x == y) = false := (Bool.or_eq_false_iff.1 hleq').2
        clear hleq hleq'
        go_wp2_with fail
        go_quiet (fail)
        go_wp2_with fail
        go_roundw
        case rel => exact ⟨m + 1, by go_num, by omega, below_drewN HW.out _, Lib.hid fun j hj hjl => by
          by_cases e : j = m + 1
          · subst e; exact HAt.out
          · exact HA.out j (by omega) hjl⟩
        case measure => simp [intOf]; omega
    · have hq : decide ((m : Int) + 1 < L.length) = false := by simp; omega
      go_wp2_with fail
      go_ret
      exact ⟨ret_bool (by rw [ascL, all_true fun j hj => HA.out j (by omega) hj]), HW.out⟩
set_option maxHeartbeats 1000000 in
theorem rhas_any (S : Nat → Prop) (v : Value) (L : List (List UInt8)) (x : List UInt8) (w : World) (h : Vec w S 1 encS v L) (hn : L.length ≤ 1000000) :
    Calls Tryz.prog 90 #[v, strV x] w fun e w' => e = .returned (.bool (hasB L x)) ∧ w = w' := by
  obtain ⟨a, cap, rfl⟩ := h.slice
  have HV := Lib.hid h; clear h
  go_enter Tryz.func90, Tryz.ntmps90
  go_wp2_with fail
  go_loop [5] (fun i => ∃ k : Nat, k ≤ L.length ∧ i = .int .i64 k ∧ Hid (∀ j, j < k → L.getD j [] ≠ x)) (fun i => L.length - (intOf i).toNat)
  case atStart => exact ⟨0, by omega, rfl, Lib.hid fun j hj => by omega⟩
  case round =>
    obtain ⟨k, hk, rfl, HA⟩ := hrel
    by_cases hlt : k < L.length
    · have hq : decide ((k : Int) < L.length) = true := by simp; omega
      obtain ⟨b, off, rfl, _, hb, hc⟩ := vec_cell1 HV.out (by omega)
      have c1 := hc k hlt
      have hm : L.getD k [] ∈ L := by rw [List.getD, List.getElem?_eq_getElem hlt]; exact List.getElem_mem hlt
      obtain ⟨y, hy⟩ : ∃ y, L.getD k [] = y := ⟨_, rfl⟩
      rw [hy] at c1 hm
      have HY := Lib.hid hy; have HM := Lib.hid hm
      clear hc hy hm
      by_cases he : y = x
      · subst he
        go_wp2_with fail
        go_ret
        exact ⟨ret_bool (by unfold hasB; rw [List.any_eq_true.2 ⟨y, HM.out, by simp⟩]), rfl⟩
      · have e1 : (y == x) = false := by simpa using he
        have HE := Lib.hid he; clear he
        go_wp2_with fail
        go_round
        case rel => exact ⟨k + 1, by omega, by go_num, Lib.hid fun j hj => by
          by_cases e : j = k
          · subst e; rw [HY.out]; exact HE.out
          · exact HA.out j (by omega)⟩
        case measure => simp [intOf]; omega
    · have hq : decide ((k : Int) < L.length) = false := by simp; omega
      go_wp2_with fail
      go_ret
      refine ⟨ret_bool ?_, rfl⟩
      symm
      unfold hasB
      rw [List.any_eq_false]
      intro y hy
      obtain ⟨j, hj, rfl⟩ := List.getElem_of_mem hy
      have := HA.out j (by omega)
      rw [List.getD, List.getElem?_eq_getElem hj] at this
      simpa using this
end Go.Proofs.YtfgoiojmbphmnaaGreatDoor
end
