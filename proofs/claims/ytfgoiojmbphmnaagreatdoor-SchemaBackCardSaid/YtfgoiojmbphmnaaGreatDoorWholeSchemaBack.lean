/-
  For every input the law SchemaBack returns true, and its arguments read afterwards as they read before; no condition.
-/
import Derived.Test.YtfgoiojmbphmnaaGreatDoorPartSchemaBack7
import Derived.Laws.IdiomStrings
import Derived.IntWalk
import Derived.Sort.KeysCollected
import Derived.Sort.Walk0
import Derived.Shelf.SlIter.Nil
import Derived.Shelf.SortM.Plain
import Derived.Shelf.SortM.SortNone
import Derived.Ground.GgzProg
import Derived.Ground.SlgmProg
import Derived.Test.YtfgoiojmbphmnaaGreatDoorProg
import Derived.Maps.OwnSet
import Derived.StringKeys
import Derived.Handed
import Derived.HandedShaped
import Derived.Test.YtfgoiojmbphmnaaGreatDoorRows
import Derived.WalkKit
import Derived.ProofKit
import Derived.OpenShut
import Derived.ShutString
import Derived.ChangeOld
import Derived.Below
import Derived.Lib.SmallJoins
import Derived.Test.YtfgoiojmbphmnaaGreatDoorCards
import Derived.Test.YtfgoiojmbphmnaaGreatDoorTie
import Derived.LaidMore
import Derived.Lay
import Derived.SevenTiedAt
import Derived.Stop.Joined
section
/- strings.Cut and strings.Split at one byte; schema.Parse. -/
set_option linter.unusedSimpArgs false
set_option linter.unusedVariables false
set_option maxRecDepth 100000
namespace Go.Proofs.YtfgoiojmbphmnaaGreatDoor
open Go.RowKit Cal
attribute [local go_sem] toList_mk mk_size
/-- the library's variable internal/bytealg.MaxLen holds some number -/
def MaxAt (w : World) : Prop := ∃ m : Int, w.cell? ⟨Tryz.laysM145_ren.g 1, 0, none⟩ = some (.int .i64 m)
theorem MaxAt.lt {w : World} (h : MaxAt w) : Tryz.laysM145_ren.g 1 < w.heap.size := by
  obtain ⟨m, hm⟩ := h; exact World.block_lt_of_cell? _ ⟨_, 0, none⟩ hm
theorem MaxAt.below {w w' : World} {B : Nat} (h : MaxAt w) (hb : Below B w w') (hB : Tryz.laysM145_ren.g 1 < B) : MaxAt w' := by
  obtain ⟨m, hm⟩ := h
  exact ⟨m, (hb.cell (p := ⟨_, 0, none⟩) hB).trans hm⟩
theorem MaxAt.old {w w' : World} (h : MaxAt w) (hb : Below w.heap.size w w') : MaxAt w' := h.below hb h.lt
theorem cut_any (c : UInt8) (l : List UInt8) (w : World) (hm : MaxAt w) (hl : l.length ≤ 4294967200) :
    Calls Tryz.prog 72 #[strV l, strV [c]] w fun e w' => e = .returned (.tuple #[strV (Lib.cut l [c]).1, strV (Lib.cut l [c]).2.1, .bool (Lib.cut l [c]).2.2]) ∧ Below w.heap.size w w' := by
  obtain ⟨m, hm⟩ := hm
  have h := Any.strings_Cut { Tryz.laysM145 with } ⟨l.toArray⟩ ⟨#[c]⟩ m w (by rw [mk_size]; omega) hm
  refine h.mono ?_
  rintro e w' ⟨rfl, n, rfl⟩
  exact ⟨rfl, below_drewN (Below.refl _ _) n⟩
theorem split_any (c : UInt8) (l : List UInt8) (w : World) (hm : MaxAt w) (hl : l.length ≤ 4294967200) :
    Calls Tryz.prog 74 #[strV l, strV [c]] w fun e w' => e = .returned (.slice (some ⟨w.heap.size, 0, none⟩) (splC c [] l).length (splC c [] l).length) ∧ RowB w' w.heap.size (splC c [] l) ∧ Below w.heap.size w w' := by
  obtain ⟨m, hm⟩ := hm
  have h := Any.strings_Split { Tryz.laysM146 with } Tryz.laysM146.i9 ⟨l.toArray⟩ ⟨#[c]⟩ m w (by rw [mk_size]; omega) hm (by simp [ByteArray.size])
  obtain ⟨k1, k2⟩ := splitK_spl c l.length l (Nat.le_refl _) (l.length + 1) (by omega)
  have hd := Lib.splitB_data ⟨#[c]⟩ 0 (Lib.countB ⟨l.toArray⟩ ⟨#[c]⟩) ⟨l.toArray⟩
  have hc : Lib.countB ⟨l.toArray⟩ ⟨#[c]⟩ = Lib.countFrom [c] (l.length + 1) l := by unfold Lib.countB Lib.count; rfl
  have hd2 : (Lib.splitB ⟨#[c]⟩ 0 (Lib.countB ⟨l.toArray⟩ ⟨#[c]⟩) ⟨l.toArray⟩).map (·.data.toList) = splC c [] l := by
    rw [hd, hc]; exact k1
  have hv : (Lib.splitB ⟨#[c]⟩ 0 (Lib.countB ⟨l.toArray⟩ ⟨#[c]⟩) ⟨l.toArray⟩).map Value.string = (splC c [] l).flatMap encS := by
    rw [← hd2]
    induction Lib.splitB ⟨#[c]⟩ 0 (Lib.countB ⟨l.toArray⟩ ⟨#[c]⟩) ⟨l.toArray⟩ with
    | nil => rfl
    | cons x L ih => rw [List.map_cons, List.map_cons, List.flatMap_cons, ih]; rfl
  refine h.mono ?_
  rintro e w' ⟨rfl, rfl⟩
  rw [hv, hc, k2]
  exact ⟨rfl, blk_new rfl, (Below.refl _ _).alloc (Nat.le_refl _) _⟩
def ParsePost (p : SchemaL × Int) (w : World) (e : Ending) (w' : World) : Prop := ∃ vf vt vn vs, e = .returned (.tuple #[.agg #[vf, vt, vn, vs], .int .i64 p.2]) ∧ SchemaAt w' (fun b => w.heap.size ≤ b) vf vt vn vs p.1 ∧ Below w.heap.size w w'
theorem nil_schema (w : World) (S : Nat → Prop) : SchemaAt w S (.slice none 0 0) (.slice none 0 0) (.slice none 0 0) (.slice none 0 0) nilS := ⟨Vec.nil _ _ _ _, Vec.nil _ _ _ _, Vec.nil _ _ _ _, Vec.nil _ _ _ _⟩
theorem parseA_line {a b : List UInt8} (h : (10 : UInt8) ∉ a) (s : SchemaL) (last : Int) : parseA [] s last (a ++ 10 :: b) = if (readN s (splC 32 [] a)).1 < last then none else parseA [] (readN s (splC 32 [] a)).2 (readN s (splC 32 [] a)).1 b := by
  rw [parseA_run a (fun x hx e => h (e ▸ hx))]; simp [parseA]
theorem parseA_rest {a : List UInt8} (h : (10 : UInt8) ∉ a) (h0 : a ≠ []) (s : SchemaL) (last : Int) : parseA [] s last a = none := by
  have := parseA_run a (fun x hx e => h (e ▸ hx)) [] s last []
  rw [List.append_nil] at this
  rw [this]; simp [parseA, h0]
theorem splC_len (c : UInt8) (l : List UInt8) : ∀ p, (splC c p l).length ≤ l.length + 1 := by
  induction l with
  | nil => intro p; simp [splC]
  | cons x l ih =>
    intro p
    simp only [splC]
    split
    · have := ih []; simp; omega
    · have := ih (p ++ [x]); simp; omega
theorem schema_setRow {w : World} {B g : Nat} {cs : Array Value} {vf vt vn vs : Value} {s : SchemaL} (h : SchemaAt w (fun b => B ≤ b) vf vt vn vs s) (hg : g < B) : SchemaAt (w.setRow g cs) (fun b => g ≤ b) vf vt vn vs s := by
  have hz : w.heap.size ≤ (w.setRow g cs).heap.size := by simp [World.setRow]
  have mv : ∀ b, b < w.heap.size → B ≤ b → (w.setRow g cs).heap[b]? = w.heap[b]? ∧ g ≤ b := fun b _ hb => ⟨setRow_other (by omega), by omega⟩
  exact ⟨h.1.move hz mv, h.2.1.move hz mv, h.2.2.1.move hz mv, h.2.2.2.move hz mv⟩
/-- while a text is read -/
structure PIn (w W1 : World) (t : List UInt8) (s : SchemaL) (last : Int) (r : List UInt8) (vf vt vn vs : Value) (wr : World) : Prop where
  p : PAt (w.heap.size + 1) (w.heap.size + 1) vf vt vn vs s wr
  b : Below (w.heap.size + 1) W1 wr
  eq : parseA [] nilS 0 t = parseA [] s last r
  room : ∃ n, Room s n ∧ n + r.length ≤ 65536
set_option maxHeartbeats 8000000 in
theorem parse_yes (t : List UInt8) (w : World) (hm : MaxAt w) (ht : t.length ≤ 65536) :
    Calls Tryz.prog 36 #[strV t] w (ParsePost (parseN t) w) := by
  have d1 : decide ((65536 : Int) < t.length) = false := by simp; omega
  have HM := Lib.hid hm
  clear hm
  go_enter Tryz.func36, Tryz.ntmps36
  go_wp2_with fail
  clear d1
  refine wp_world (fun W1 hW1 => ?_)
  have b1 : Below w.heap.size w W1 := by rw [hW1]; exact ((Below.refl _ _).alloc (Nat.le_refl _) _).alloc (by simp) _
  have x0 : W1.heap[w.heap.size]? = some (.cells nil4 33 (0, 0)) := by rw [hW1]; exact blk_old (blk_new rfl)
  have x1 : W1.heap[w.heap.size + 1]? = some (.cells nil4 33 (0, 0)) := by rw [hW1]; exact blk_new (by simp)
  have K0 := Lib.hid (show PIn w W1 t nilS 0 t (.slice none 0 0) (.slice none 0 0) (.slice none 0 0) (.slice none 0 0) W1 from
    ⟨⟨x1, ⟨rfl, .inl ⟨rfl, rfl⟩⟩, ⟨rfl, .inl ⟨rfl, rfl⟩⟩, ⟨rfl, .inl ⟨rfl, rfl⟩⟩, ⟨rfl, .inl ⟨rfl, rfl⟩⟩, .inl rfl, Nat.le_refl _⟩, Below.refl _ _, rfl, 0, ⟨Nat.le_refl _, Nat.le_refl _, Nat.le_refl _, Nat.le_refl _⟩, by omega⟩)
  have HB1 := Lib.hid b1; have HX0 := Lib.hid x0
  have z1 := lt_of_blk x1
  clear hW1 b1 x0 x1
  go_loopw [0, 5] (fun t0 t5 wr => ∃ (s : SchemaL) (last : Int) (r : List UInt8) (vf vt vn vs : Value), t0 = strV r ∧ t5 = .int .i64 last ∧ PIn w W1 t s last r vf vt vn vs wr) (fun t0 _ _ => match t0 with | .string b => b.size | _ => 0)
  case atStart => exact ⟨nilS, 0, t, _, _, _, _, rfl, rfl, K0.out⟩
  case round =>
    obtain ⟨s, last, r, vf, vt, vn, vs, rfl, rfl, hp⟩ := hrel
    have K := Lib.hid hp
    clear hp K0
    have hmx : MaxAt wr := (HM.out.old HB1.out).below K.out.b (by have := HM.out.lt; omega)
    have hlt : (w.heap.size + 1) < wr.heap.size := lt_of_blk K.out.p.y
    have hxr : wr.heap[w.heap.size]? = some (.cells nil4 33 (0, 0)) := blk_below K.out.b (by omega) HX0.out
    have HMX := Lib.hid hmx; have HXR := Lib.hid hxr
    clear hmx hxr
    obtain ⟨N, hN⟩ := K.out.room
    have HN := Lib.hid hN
    have hrl : r.length ≤ 65536 ∧ N ≤ 65536 := by omega
    clear hN
    by_cases hr : r = []
    · subst hr
      have hend : parseN t = if checkS s = 0 then (s, 0) else (nilS, checkS s) := by
        unfold parseN; rw [if_neg (by omega), K.out.eq]; simp [parseA]
      have HE := Lib.hid hend
      obtain ⟨af, cf, rfl⟩ := own_slice K.out.p.f
      obtain ⟨at', ct, rfl⟩ := own_slice K.out.p.t
      obtain ⟨an, cn, rfl⟩ := own_slice K.out.p.n
      obtain ⟨as', cs, rfl⟩ := own_slice K.out.p.s
      have HB4 := Lib.hid (HB1.out.trans (K.out.b.mono (Nat.le_succ _)))
      obtain ⟨y0, y1, y2, y3⟩ := cells4 K.out.p.y
      clear hend HMX
      go_wp2_with fail
      refine (scheck_any Any1 _ _ _ _ s _ K.out.p.schema.any).mono ?_
      obtain ⟨c, hc⟩ : ∃ c, checkS s = c := ⟨_, rfl⟩
      rw [hc]
      rw [hc] at HE
      rintro e w5 ⟨rfl, hb5⟩
      have hy5 := blk_below hb5 hlt K.out.p.y
      obtain ⟨y0, y1, y2, y3⟩ := cells4 hy5
      have z5 := lt_of_blk hy5
      have HX5 := Lib.hid (blk_below hb5 (by omega) HXR.out)
      have HP5 := Lib.hid (K.out.p.below hb5)
      have HBZ := Lib.hid (HB4.out.trans (hb5.mono (by omega)))
      clear hb5 hy5 hc
      by_cases hc0 : c = 0
      · subst hc0
        have HE0 := Lib.hid (show parseN t = (s, 0) by rw [HE.out, if_pos rfl])
        go_wp2_with (refine wpList_store_row rfl 33 (.tmp 2) (.tmp 42) rfl w.heap.size _ rfl rfl 33 nil4 HX5.out (by kernel_rfl) (by kernel_rfl) (by kernel_rfl) ?_)
        exact bodyPost_row2 rfl rfl (heap_setRow HX5.out) Tryz.underlying33 rfl (by kernel_rfl) ⟨_, _, _, _, by rw [HE0.out]; rfl, by rw [HE0.out]; exact schema_setRow HP5.out.schema (Nat.lt_succ_self _), below_setRow HBZ.out (Nat.le_refl _)⟩
      · have q4 : (c != 0) = true := by simpa using hc0
        have HN14 := Lib.hid (show parseN t = (nilS, c) by rw [HE.out, if_neg hc0])
        clear hc0
        go_wp2_with (refine wpList_store_row rfl 33 (.tmp 2) (.tmp 40) rfl w.heap.size nil4 rfl rfl 33 nil4 HX5.out (by kernel_rfl) (by kernel_rfl) (by kernel_rfl) ?_)
        exact bodyPost_row2 rfl rfl (heap_setRow HX5.out) Tryz.underlying33 rfl (by kernel_rfl) ⟨_, _, _, _, by rw [HN14.out]; rfl, by rw [HN14.out]; exact nil_schema _ _, below_setRow HBZ.out (Nat.le_refl _)⟩
    · have q1 : (r == []) = false := by simpa using hr
      have q2 : r.isEmpty = false := by simpa using hr
      have q3 : (r != []) = true := by simpa using hr
      rcases byte_cases 10 r with hno | ⟨a, b, rfl, ha⟩
      · have hcut := cut_not 10 r hno
        have HN14 := Lib.hid (show parseN t = (nilS, 14) by unfold parseN; rw [if_neg (by omega), K.out.eq, parseA_rest hno hr s last])
        have HC := Lib.hid hcut
        clear hcut hr hno
        go_wp2_with fail
        refine (cut_any 10 r _ HMX.out (by omega)).mono ?_
        rw [HC.out]
        rintro e w2 ⟨rfl, hb2⟩
        have HB2 := Lib.hid hb2
        have HM2 := Lib.hid (HMX.out.old hb2)
        clear hb2
        go_wp2_with fail
        refine (split_any 32 r _ HM2.out (by omega)).mono ?_
        rintro e w3 ⟨rfl, hrow, hb3⟩
        have HB3 := Lib.hid (HB2.out.trans (hb3.mono HB2.out.size))
        have hv := RowB.vec hrow (splC 32 [] r).length (Nat.le_refl _)
        have HV := Lib.hid hv
        clear hb3 hrow hv
        go_wp2_with fail
        have hsl := splC_len 32 r []
        refine (sread_any (w.heap.size + 1) (w.heap.size + 1) vf vt vn vs s _ (splC 32 [] r) _ (K.out.p.below HB3.out) HV.out (by omega) (by have := HB3.out.size; omega) ⟨by have := HN.out.1.f; omega, by have := HN.out.1.t; omega, by have := HN.out.1.n; omega, by have := HN.out.1.s; omega⟩).mono ?_
        obtain ⟨⟨k, s'⟩, hk⟩ : ∃ p, readN s (splC 32 [] r) = p := ⟨_, rfl⟩
        rw [hk]
        rintro e w4 ⟨vf', vt', vn', vs', rfl, hp4, hb4⟩
        dsimp only at hp4
        have HB4 := Lib.hid ((K.out.b.trans (HB3.out.mono (Nat.le_of_lt hlt))).trans hb4)
        have hx4 := blk_below hb4 (Nat.lt_succ_self _) (blk_below HB3.out (by omega) HXR.out)
        have HX4 := Lib.hid hx4
        have HBZ := Lib.hid (HB1.out.trans (HB4.out.mono (Nat.le_succ _)))
        clear hp4 hb4 hk HV HB2 HB3 HM2 HMX hx4 hsl
        go_wp2_with (refine wpList_store_row rfl 33 (.tmp 2) (.tmp 33) rfl w.heap.size nil4 rfl rfl 33 nil4 HX4.out (by kernel_rfl) (by kernel_rfl) (by kernel_rfl) ?_)
        exact bodyPost_row2 rfl rfl (heap_setRow HX4.out) Tryz.underlying33 rfl (by kernel_rfl) ⟨_, _, _, _, by rw [HN14.out]; rfl, by rw [HN14.out]; exact nil_schema _ _, below_setRow HBZ.out (Nat.le_refl _)⟩
      · have hcut := cut_at 10 a b ha
        have hend := parseA_line ha (b := b) s last
        have HC := Lib.hid hcut; have HE := Lib.hid hend
        obtain ⟨l, hl⟩ : ∃ l, a ++ 10 :: b = l := ⟨_, rfl⟩
        rw [hl] at q1 q2 q3 hrl HC HE K HN ⊢
        have hal : a.length < l.length ∧ b.length < l.length := by rw [← hl]; simp; omega
        have HL := Lib.hid hl
        clear hcut hend hr hl ha
        go_wp2_with fail
        refine (cut_any 10 l _ HMX.out (by omega)).mono ?_
        rw [HC.out]
        rintro e w2 ⟨rfl, hb2⟩
        have HB2 := Lib.hid hb2
        have HM2 := Lib.hid (HMX.out.old hb2)
        clear hb2
        go_wp2_with fail
        refine (split_any 32 a _ HM2.out (by omega)).mono ?_
        rintro e w3 ⟨rfl, hrow, hb3⟩
        have HB3 := Lib.hid (HB2.out.trans (hb3.mono HB2.out.size))
        have hv := RowB.vec hrow (splC 32 [] a).length (Nat.le_refl _)
        have HV := Lib.hid hv
        clear hb3 hrow hv
        go_wp2_with fail
        have hsl := splC_len 32 a []
        refine (sread_any (w.heap.size + 1) (w.heap.size + 1) vf vt vn vs s _ (splC 32 [] a) _ (K.out.p.below HB3.out) HV.out (by omega) (by have := HB3.out.size; omega) ⟨by have := HN.out.1.f; omega, by have := HN.out.1.t; omega, by have := HN.out.1.n; omega, by have := HN.out.1.s; omega⟩).mono ?_
        obtain ⟨⟨k, s'⟩, hk⟩ : ∃ p, readN s (splC 32 [] a) = p := ⟨_, rfl⟩
        have hroom := HN.out.1.read (splC 32 [] a)
        rw [hk] at HE hroom ⊢
        dsimp only at HE hroom
        rintro e w4 ⟨vf', vt', vn', vs', rfl, hp4, hb4⟩
        dsimp only at hp4
        have HP4 := Lib.hid hp4
        have HB4 := Lib.hid ((K.out.b.trans (HB3.out.mono (Nat.le_of_lt hlt))).trans hb4)
        have hx4 := blk_below hb4 (Nat.lt_succ_self _) (blk_below HB3.out (by omega) HXR.out)
        have HX4 := Lib.hid hx4
        have HR4 := Lib.hid hroom
        have hlt4 := lt_of_blk HP4.out.y
        clear hp4 hb4 hk HV HB2 HB3 HM2 HMX hx4 hroom hsl
        by_cases hkl : k < last
        · have q4 : decide (k < last) = true := by simpa using hkl
          have HN14 := Lib.hid (show parseN t = (nilS, 14) by unfold parseN; rw [if_neg (by omega), K.out.eq, HE.out, if_pos hkl])
          have HBZ := Lib.hid (HB1.out.trans (HB4.out.mono (Nat.le_succ _)))
          clear hkl
          go_wp2_with (refine wpList_store_row rfl 33 (.tmp 2) (.tmp 33) rfl w.heap.size nil4 rfl rfl 33 nil4 HX4.out (by kernel_rfl) (by kernel_rfl) (by kernel_rfl) ?_)
          exact bodyPost_row2 rfl rfl (heap_setRow HX4.out) Tryz.underlying33 rfl (by kernel_rfl) ⟨_, _, _, _, by rw [HN14.out]; rfl, by rw [HN14.out]; exact nil_schema _ _, below_setRow HBZ.out (Nat.le_refl _)⟩
        · have q4 : decide (k < last) = false := by simpa using hkl
          have HK2 := Lib.hid (show PIn w W1 t s' k b vf' vt' vn' vs' w4 from ⟨HP4.out, HB4.out, by rw [K.out.eq, HE.out, if_neg hkl], N + 1, HR4.out, by have := HN.out.2; omega⟩)
          clear hkl
          go_wp2_with fail
          go_roundw
          case rel => exact ⟨s', k, b, vf', vt', vn', vs', rfl, rfl, HK2.out⟩
          case measure => simp [mk_size]; omega
set_option maxHeartbeats 4000000 in
theorem parse_long (t : List UInt8) (w : World) (ht : 65536 < t.length) (hs : t.length ≤ 9223372036854775807) :
    Calls Tryz.prog 36 #[strV t] w (ParsePost (parseN t) w) := by
  have d1 : decide ((65536 : Int) < t.length) = true := by simp; omega
  have HN := Lib.hid (show parseN t = (nilS, 1) by unfold parseN; rw [if_pos ht])
  go_enter Tryz.func36, Tryz.ntmps36
  go_wp2_with (refine wpList_store_row rfl 33 (.tmp 2) (.tmp 14) rfl w.heap.size nil4 rfl rfl 33 nil4 (blk_new rfl) (by kernel_rfl) (by kernel_rfl) (by kernel_rfl) ?_)
  exact bodyPost_row2 rfl rfl (heap_setRow (blk_new rfl)) Tryz.underlying33 rfl (by kernel_rfl) ⟨_, _, _, _, by rw [HN.out]; rfl, by rw [HN.out]; exact nil_schema _ _, below_setRow ((Below.refl _ _).alloc (Nat.le_refl _) _) (Nat.le_refl _)⟩
theorem sparse_any (t : List UInt8) (w : World) (hm : MaxAt w) (ht : t.length ≤ 9223372036854775807) :
    Calls Tryz.prog 36 #[strV t] w (ParsePost (parseN t) w) := by
  by_cases h : t.length ≤ 65536
  · exact parse_yes t w hm h
  · exact parse_long t w (by omega) ht
end Go.Proofs.YtfgoiojmbphmnaaGreatDoor
end
section
/- schema.Text of any schema; a text as bytes, and back. -/
set_option linter.unusedSimpArgs false
set_option linter.unusedVariables false
set_option maxRecDepth 100000
namespace Go.Proofs.YtfgoiojmbphmnaaGreatDoor
open Go.RowKit Cal
attribute [local go_sem] toList_mk mk_size
def textN (s : SchemaL) : List UInt8 × Int := if checkS s = 0 then (textL s, 0) else ([], checkS s)
set_option maxHeartbeats 2000000 in
theorem text_no (S : Nat → Prop) (vf vt vn vs : Value) (s : SchemaL) (w : World) (h : SchemaAt w S vf vt vn vs s) (hc : checkS s ≠ 0) :
    Calls Tryz.prog 34 #[.agg #[vf, vt, vn, vs]] w fun e w' => e = .returned (pairV (textN s)) ∧ Below w.heap.size w w' := by
  have HS := Lib.hid h.any
  have HT := Lib.hid (show textN s = ([], checkS s) by unfold textN; rw [if_neg hc])
  have hne : (checkS s != 0) = true := by simpa using hc
  obtain ⟨c, hcc⟩ : ∃ c, checkS s = c := ⟨_, rfl⟩
  rw [hcc] at hne HT
  have HC := Lib.hid hcc
  clear h hc hcc
  go_enter Tryz.func34, Tryz.ntmps34
  go_wp2_with fail
  refine (scheck_any Any1 _ _ _ _ _ _ (HS.out.below ((Below.refl _ _).alloc (Nat.le_refl _) _))).mono ?_
  rw [HC.out]
  rintro e w1 ⟨rfl, hb1⟩
  have HB1 := Lib.hid (((Below.refl w.heap.size w).alloc (Nat.le_refl _) (.cells #[vf, vt, vn, vs] 33)).trans (hb1.mono (by simp)))
  clear hb1
  go_wp2_with fail
  go_ret2
  exact ⟨by rw [HT.out]; rfl, HB1.out⟩
theorem stext_any (S : Nat → Prop) (vf vt vn vs : Value) (s : SchemaL) (w : World) (h : SchemaAt w S vf vt vn vs s) :
    Calls Tryz.prog 34 #[.agg #[vf, vt, vn, vs]] w fun e w' => e = .returned (pairV (textN s)) ∧ Below w.heap.size w w' := by
  by_cases hc : checkS s = 0
  · have := text_yes S vf vt vn vs s w h hc
    rwa [show (textL s, (0 : Int)) = textN s by unfold textN; rw [if_pos hc]] at this
  · exact text_no S vf vt vn vs s w h hc
/-- block k holds the bytes l, which may be written -/
def BytesAt (w : World) (k : Nat) (l : List UInt8) : Prop := ∃ cs fr, w.heap[k]? = some (.cells cs 5 fr) ∧ l.length ≤ fr.1 ∧ ∀ i (h : i < l.length), cs[i]? = some (byteV l[i])
theorem BytesAt.below {w w' : World} {k : Nat} {l : List UInt8} (h : BytesAt w k l) (hb : Below w.heap.size w w') : BytesAt w' k l := by
  obtain ⟨cs, fr, h1, h2⟩ := h
  exact ⟨cs, fr, blk_below hb (lt_of_blk h1) h1, h2⟩
theorem BytesAt.cell {w : World} {k : Nat} {l : List UInt8} (h : BytesAt w k l) (i : Nat) (hi : i < l.length) : w.cell? ⟨k, i, none⟩ = some (byteV l[i]) ∧ w.frozen? ⟨k, i, none⟩ = false := by
  obtain ⟨cs, fr, h1, h2, h3⟩ := h
  refine ⟨by rw [cell_of_row _ _ _ _ _ _ h1]; exact h3 i hi, ?_⟩
  unfold World.frozen?
  simp only [h1]
  simp; omega
theorem BytesAt.set {w : World} {k : Nat} {l : List UInt8} (h : BytesAt w k l) (i : Nat) (x : UInt8) : BytesAt (w.setCell ⟨k, i, none⟩ (byteV x)) k (l.set i x) := by
  obtain ⟨cs, fr, h1, h2, h3⟩ := h
  refine ⟨_, fr, blk_set h1, by simpa using h2, fun j hj => ?_⟩
  have hj' : j < l.length := by simpa using hj
  have := h3 j hj'
  have hlt : j < cs.size := (Array.getElem?_eq_some_iff.1 this).1
  rw [Array.getElem?_setIfInBounds]
  by_cases e : i = j
  · subst e; rw [if_pos rfl, if_pos hlt]; simp
  · rw [if_neg e, this, List.getElem_set_ne e]
theorem bytes_conv (w : World) (l : List UInt8) : ∃ cap wN, (convert 9 66 (strV l)).run Tryz.prog w = .ok (.slice (some ⟨w.heap.size, 0, none⟩) l.length cap) wN ∧ BytesAt wN w.heap.size l ∧ Below w.heap.size w wN ∧ w.heap.size < wN.heap.size := by
  have h := run_bytes_of_string (P := Tryz.prog) w 9 66 5 ⟨l.toArray⟩ Tryz.underlying9 Tryz.underlying66 Tryz.underlying5
  refine ⟨_, _, h, ⟨_, _, blk_new rfl, ?_, ?_⟩, (Below.refl _ _).drew.alloc (Nat.le_refl _) _, by simp⟩
  · simp [bytesRow, ByteArray.size]
  · intro i hi
    unfold bytesRow
    rw [Array.getElem?_append_left (by simpa using hi)]
    simp [hi, byteV]
theorem bytes_back (w : World) (k : Nat) (l : List UInt8) (cap : Nat) (h : BytesAt w k l) : (convert 66 9 (.slice (some ⟨k, 0, none⟩) l.length cap)).run Tryz.prog w = .ok (strV l) w :=
  run_convert_bytes_back (P := Tryz.prog) w _ _ _ ⟨k, 0, none⟩ cap l Tryz.underlying66 Tryz.underlying5 Tryz.underlying9 (fun j hj => by
    rw [add_plain, Nat.zero_add]; exact (h.cell j hj).1)
end Go.Proofs.YtfgoiojmbphmnaaGreatDoor
end
section
/- recordlinkmake: Mod of any number. -/
set_option linter.unusedSimpArgs false
set_option linter.unusedVariables false
namespace Go.Proofs.YtfgoiojmbphmnaaGreatDoor
open Go.RowKit
def ModPost (n : Int) (w : World) (e : Ending) (w' : World) : Prop := ∃ r : Nat, e = .returned (.int .i64 r) ∧ (r : Int) < n ∧ w = w'
set_option maxHeartbeats 400000 in
theorem mod_some (x n : Int) (w : World) (hx : -9223372036854775808 ≤ x) (hx2 : x ≤ 9223372036854775807) (hn : 1 ≤ n) (hn2 : n ≤ 1000000000) :
    Calls Tryz.prog 41 #[.int .i64 x, .int .i64 n] w (ModPost n w) := by
  have h1 : -n < x.tmod n ∧ x.tmod n < n := by
    have := Int.tmod_lt_of_pos x (show 0 < n by omega)
    have h2 := Int.lt_tmod_of_pos x (show 0 < n by omega)
    omega
  obtain ⟨h1, h2⟩ := h1
  have h3 : 0 ≤ x.tmod n + n := by omega
  have h4 : 0 ≤ (x.tmod n + n) % n := Int.emod_nonneg _ (by omega)
  have h5 : (x.tmod n + n) % n < n := Int.emod_lt_of_pos _ (by omega)
  have H4 := Lib.hid h4; clear h4
  have H5 := Lib.hid h5; clear h5
  have HX := Lib.hid hx; have HX2 := Lib.hid hx2
  have hw : wrap64 (x.tmod n) = x.tmod n := IntWalk.wrap64_in _ ⟨by omega, by omega⟩
  have hw2 : wrap64 (x.tmod n + n) = x.tmod n + n := IntWalk.wrap64_in _ ⟨by omega, by omega⟩
  clear hx hx2
  go_enter Tryz.func41, Tryz.ntmps41
  go_wp2
  go_ret
  exact ⟨((x.tmod n + n) % n).toNat, by rw [Int.toNat_of_nonneg H4.out]; simp, by rw [Int.toNat_of_nonneg H4.out]; exact H5.out, rfl⟩
end Go.Proofs.YtfgoiojmbphmnaaGreatDoor
end
section
/- Plain law: grams: the set of a list, ascending; bigrams; how many. -/
set_option linter.unusedSimpArgs false
set_option linter.unusedVariables false
set_option maxRecDepth 100000
namespace Go.Proofs.YtfgoiojmbphmnaaGreatDoor
open Go.RowKit Go.Maps
/-- the elements of a list, ascending -/
def setL (L : List (List UInt8)) : List (List UInt8) := L.eraseDups.mergeSort leB
theorem leB_trans : ∀ a b c : List UInt8, leB a b = true → leB b c = true → leB a c = true := fun a b c h1 h2 => by simp only [leB, decide_eq_true_eq] at *; exact List.le_trans h1 h2
theorem leB_total : ∀ a b : List UInt8, (leB a b || leB b a) = true := fun a b => by simp only [leB, Bool.or_eq_true, decide_eq_true_eq]; exact List.le_total a b
theorem erase_nodup (L : List (List UInt8)) : ∀ n, L.length ≤ n → L.eraseDups.Nodup := by
  intro n
  induction n generalizing L with
  | zero => intro h; have : L = [] := List.length_eq_zero_iff.1 (by omega); subst this; simp
  | succ n ih =>
    intro h
    cases L with
    | nil => simp
    | cons a L =>
      rw [List.eraseDups_cons]
      refine List.nodup_cons.2 ⟨?_, ih _ ?_⟩
      · rw [List.mem_eraseDups]; simp
      · have := List.length_filter_le (fun b => !b == a) L; simp at h ⊢; omega
theorem erase_len (L : List (List UInt8)) : ∀ n, L.length ≤ n → L.eraseDups.length ≤ L.length := by
  intro n
  induction n generalizing L with
  | zero => intro h; have : L = [] := List.length_eq_zero_iff.1 (by omega); subst this; simp
  | succ n ih =>
    intro h
    cases L with
    | nil => simp
    | cons a L =>
      rw [List.eraseDups_cons, List.length_cons, List.length_cons]
      have h1 := List.length_filter_le (fun b => !b == a) L
      have := ih (L.filter fun b => !b == a) (by simp at h ⊢; omega)
      omega
theorem set_mem (L : List (List UInt8)) (x : List UInt8) : x ∈ setL L ↔ x ∈ L := by
  unfold setL; rw [List.mem_mergeSort, List.mem_eraseDups]
theorem set_nodup (L : List (List UInt8)) : (setL L).Nodup := (List.mergeSort_perm _ _).nodup_iff.2 (erase_nodup L _ (Nat.le_refl _))
theorem set_len (L : List (List UInt8)) : (setL L).length ≤ L.length := by
  unfold setL; rw [(List.mergeSort_perm _ _).length_eq]; exact erase_len L _ (Nat.le_refl _)
theorem set_nil (L : List (List UInt8)) : setL L = [] ↔ L = [] := by
  constructor
  · intro h
    cases L with
    | nil => rfl
    | cons a L => have := (set_mem (a :: L) a).2 (by simp); rw [h] at this; simp at this
  · intro h; subst h; simp [setL]
def AscB (L : List (List UInt8)) : Prop := ∀ i, i + 1 < L.length → Op.bytesLess (L.getD i []) (L.getD (i + 1) []) = true
theorem set_asc (L : List (List UInt8)) : AscB (setL L) := by
  intro i hi
  have hs : (setL L).Pairwise fun a b => leB a b = true := List.pairwise_mergeSort leB_trans leB_total _
  have h1 := (List.pairwise_iff_getElem.1 hs) i (i + 1) (by omega) hi (by omega)
  have h2 := (List.pairwise_iff_getElem.1 (set_nodup L)) i (i + 1) (by omega) hi (by omega)
  rw [bytesLess_eq, List.getD, List.getD, List.getElem?_eq_getElem (by omega), List.getElem?_eq_getElem hi]
  simp only [leB, decide_eq_true_eq] at h1
  simp only [Option.getD_some, decide_eq_true_eq]
  rcases List.le_iff_lt_or_eq.1 h1 with h | h
  · exact h
  · exact absurd h h2
/-- whatever has the same elements, each once, is sorted to the set -/
theorem set_of_perm {L ss : List (List UInt8)} (hn : ss.Nodup) (hm : ∀ x, x ∈ ss ↔ x ∈ L) : ss.mergeSort leB = setL L := by
  refine mergeSort_of_perm ((List.perm_ext_iff_of_nodup hn (erase_nodup L _ (Nat.le_refl _))).2 fun x => ?_)
  rw [hm, List.mem_eraseDups]
/-- the bigrams of a text, in order -/
def bigrA : List UInt8 → List (List UInt8)
  | a :: b :: r => [a, b] :: bigrA (b :: r)
  | _ => []
theorem bigr_len : ∀ l : List UInt8, (bigrA l).length = l.length - 1 := by
  intro l
  induction l using bigrA.induct with
  | case1 a b r ih => simp [bigrA, ih]
  | case2 l h =>
    match l, h with
    | [], _ => rfl
    | [a], _ => rfl
    | a :: b :: r, h => exact absurd rfl (h a b r)
theorem bigr_snoc (l : List UInt8) (a b : UInt8) : bigrA (l ++ [a, b]) = bigrA (l ++ [a]) ++ [[a, b]] := by
  induction l with
  | nil => rfl
  | cons c l ih =>
    cases l with
    | nil => rfl
    | cons d l => simp only [List.cons_append, bigrA] at ih ⊢; rw [ih]
def wrapT (t : List UInt8) : List UInt8 := [95] ++ t ++ [95]
/-- the bigrams of all tokens of a text -/
def gramsAll (T : List (List UInt8)) : List (List UInt8) := T.flatMap fun t => bigrA (wrapT t)
def gramsL (l : List UInt8) : List (List UInt8) := setL (gramsAll (toks l))
theorem gramsAll_len (T : List (List UInt8)) : T ≠ [] → (gramsAll T).length = (joinL T).length + 1 := by
  induction T with
  | nil => intro h; exact absurd rfl h
  | cons t T ih =>
    intro _
    have e : (gramsAll (t :: T)).length = t.length + 1 + (gramsAll T).length := by
      simp only [gramsAll, List.flatMap_cons, List.length_append, bigr_len, wrapT]; simp; try omega
    by_cases hT : T = []
    · subst hT; rw [e]; simp [gramsAll, joinL]
    · rw [e, ih hT, join_cons_ne _ _ hT]; simp; omega
/-- a text of 64 bytes at most has 65 grams at most; one that is not empty has some -/
theorem grams_bound {l : List UInt8} (h : l.length ≤ 64) : (gramsL l).length ≤ 65 := by
  have h1 := set_len (gramsAll (toks l))
  have h2 := (toksA_len l []).1
  by_cases hT : toks l = []
  · unfold gramsL; rw [hT]; simp [gramsAll, setL]
  · have h3 := gramsAll_len (toks l) hT
    unfold gramsL; unfold toks at *; simp at h2; omega
theorem grams_some {l : List UInt8} (h : toks l ≠ []) : gramsL l ≠ [] := by
  intro e
  have e2 := (set_nil _).1 e
  have := gramsAll_len (toks l) h
  rw [e2] at this; simp at this
theorem pos_asc (l : List UInt8) : ∀ j, j + l.length ≤ 26 → AscB (posL j l) := by
  intro j hj i hi
  have key : ∀ (l : List UInt8) (j i : Nat), i < l.length → (posL j l).getD i [] = [UInt8.ofNat (97 + (j + i)), l.getD i 0] := by
    intro l
    induction l with
    | nil => intro j i hi; simp at hi
    | cons c l ih =>
      intro j i hi
      cases i with
      | zero => rfl
      | succ i =>
        have := ih (j + 1) i (by simp at hi; omega)
        simp only [posL, List.getD_cons_succ] at this ⊢
        rw [this]; congr 2; congr 1; omega
  rw [posL_len] at hi
  rw [key l j i (by omega), key l j (i + 1) (by omega), bytesLess_eq, decide_eq_true_iff]
  refine List.cons_lt_cons_iff.2 (.inl ?_)
  rw [UInt8.lt_iff_toNat_lt, UInt8.toNat_ofNat', UInt8.toNat_ofNat']; omega
end Go.Proofs.YtfgoiojmbphmnaaGreatDoor
end
section
/- The contracts of slices.Sorted(maps.Keys(m)) at this program (written by the kit's lay-iter.mjs, the layings apart). -/
namespace Go.Proofs
open Go.RowKit Go.Maps Go.Sort Go.Shelf


theorem Tryz.sorts159 (m : Nat) : AnyZ.SortsIn Tryz.prog Tryz.sorted159_ren Fence.wide m :=
  ⟨fun blk off cap ss W hH hblk hsz => callsIn_wide.2 (AnyM.slices_Sort_string Tryz.sort175 blk off cap ss W hH hblk hsz),
   fun p cap W => callsIn_wide.2 (AnyM.slices_Sort_string_none Tryz.sort175 p cap W)⟩

theorem Tryz.maps_Keys (mb : Option Nat) (W : World) : CallsIn Fence.wide 5 Tryz.prog 160 #[.map mb] W fun e w' => e = .returned (.func (.func 176) #[] #[.pointer (some ⟨W.heap.size, 0, none⟩)]) ∧ w' = W.alloc (.cells #[.map mb] 151) :=
  AnyZ.keys_in Tryz.keys160 Fence.wide 5 trivial rfl mb W

set_option maxHeartbeats 1000000 in
theorem Tryz.slices_Sorted_keys {H : Type} (b nn : Nat) (D0 : DataW H) (R : Value → Option (DataW H × List MemPlace)) (w : World) (hown : w.ownsMap Tryz.prog 9 R b nn D0) (hmax : Maps.size D0 ≤ maxLen) (hbytes : Maps.size D0 * 16 ≤ 140737488355328) :
    CallsIn Fence.wide 5 Tryz.prog 159 #[.func (.func 176) #[] #[.pointer (some ⟨w.heap.size, 0, none⟩)]] (w.alloc (.cells #[.map (some b)] 151)) fun e w' => ∃ (v : Value) (ss : List (List UInt8)), e = .returned v ∧ ss.Perm (strKeys D0) ∧
      w'.ownsRow (w.alloc (.cells #[.map (some b)] 151)).heap.size 9 1 v ss.length ((ss.mergeSort (fun x y => decide (x ≤ y))).map encStr) ∧ (v = .slice none 0 0 ↔ ss = []) ∧ Below (w.alloc (.cells #[.map (some b)] 151)).heap.size (w.alloc (.cells #[.map (some b)] 151)) w' := by
  have hbl := hown.lt
  have hseq : SeqGives Fence.wide 2 Tryz.prog 176 #[.pointer (some ⟨w.heap.size, 0, none⟩)] encStr (fun ss => ss.Perm (strKeys D0)) (Maps.size D0) (w.alloc (.cells #[.map (some b)] 151)) :=
    AnyZ.keys_gives (ρ := Tryz.keys160_ren) { Tryz.keys160 with } Fence.wide _ trivial rfl (by omega) w.heap.size b nn D0 _ (by simp) (by simp) (by
      obtain ⟨es, clock, hb, Ft, hs, hD⟩ := hown
      exact ⟨es, clock, (Below.heap_alloc _ _ b hbl).trans hb, Ft, hs, hD⟩)
  exact AnyZ.sorted_in Tryz.sorted159 Fence.wide 5 trivial trivial trivial trivial rfl (by omega) (Tryz.sorts159 _) (enters_of Tryz.func175 (by kernel_rfl) rfl) 176 #[.pointer (some ⟨w.heap.size, 0, none⟩)] trivial (enters_of Tryz.func176 (by kernel_rfl) rfl) _ _ hmax hbytes _ hseq

set_option maxHeartbeats 1000000 in
theorem Tryz.slices_Sorted_keys_nil (w : World) :
    CallsIn Fence.wide 5 Tryz.prog 159 #[.func (.func 176) #[] #[.pointer (some ⟨w.heap.size, 0, none⟩)]] (w.alloc (.cells #[.map none] 151)) fun e w' => ∃ (v : Value) (ss : List (List UInt8)), e = .returned v ∧ ss = [] ∧
      w'.ownsRow (w.alloc (.cells #[.map none] 151)).heap.size 9 1 v ss.length ((ss.mergeSort (fun x y => decide (x ≤ y))).map encStr) ∧ (v = .slice none 0 0 ↔ ss = []) ∧ Below (w.alloc (.cells #[.map none] 151)).heap.size (w.alloc (.cells #[.map none] 151)) w' := by
  have hseq : SeqGives Fence.wide 2 Tryz.prog 176 #[.pointer (some ⟨w.heap.size, 0, none⟩)] encStr (fun ss : List (List UInt8) => ss = []) 0 (w.alloc (.cells #[.map none] 151)) :=
    AnyZ.keys_gives_nil (ρ := Tryz.keys160_ren) { Tryz.keys160 with } Fence.wide _ trivial rfl w.heap.size _ (by simp) (by simp)
  exact AnyZ.sorted_in Tryz.sorted159 Fence.wide 5 trivial trivial trivial trivial rfl (by omega) (Tryz.sorts159 _) (enters_of Tryz.func175 (by kernel_rfl) rfl) 176 #[.pointer (some ⟨w.heap.size, 0, none⟩)] trivial (enters_of Tryz.func176 (by kernel_rfl) rfl) _ 0 (Nat.zero_le _) (by omega) _ hseq



end Go.Proofs
end
section
/- gram: of, Set: the elements of a list of texts, ascending. -/
set_option linter.unusedSimpArgs false
set_option linter.unusedVariables false
set_option maxRecDepth 100000
namespace Go.Proofs.YtfgoiojmbphmnaaGreatDoor
open Go.RowKit Go.Maps
attribute [local go_sem] toList_mk mk_size
theorem lawS : Keyed Tryz.prog 9 := string_keyed Tryz.underlying9
def unitD : DataW Unit := .agg []
/-- the set of the first texts of a list, as a map's datum -/
def setD (L : List (List UInt8)) : DataW Unit := setOf unitD (L.map Lit.string)
theorem keyLit (L : List (List UInt8)) : ∀ x ∈ L.map Lit.string, WideAt.IsKeyLit x := by
  intro x hx
  obtain ⟨y, _, rfl⟩ := List.mem_map.1 hx
  trivial
theorem setD_snoc (L : List (List UInt8)) (x : List UInt8) : setD (L ++ [x]) = (setD L).put (.string x) unitD := by
  unfold setD; rw [List.map_append, List.map_cons, List.map_nil, setOf_snoc]
set_option maxHeartbeats 2000000 in
theorem of_any (S : Nat → Prop) (v : Value) (L : List (List UInt8)) (w : World) (h : Vec w S 1 encS v L) (hn : L.length ≤ 1000000) (hL : ∀ t ∈ L, t.length ≤ 1000000) :
    Calls Tryz.prog 161 #[v] w fun e w' => e = .returned (.map (some w.heap.size)) ∧ w'.ownsMap Tryz.prog 9 unitElem w.heap.size L.length (setD L) ∧ Below w.heap.size w w' := by
  have hmm := @run_makeMap Tryz.prog
  obtain ⟨a, cap, rfl⟩ := h.slice
  by_cases hz : L = []
  · subst hz
    clear h
    go_enter Tryz.func161, Tryz.ntmps161
    go_wp2
    refine wp_loop_rounds 1 ?_; rw [rounds_succ]
    go_wp2
    go_ret
    exact ⟨rfl, World.ownsMap_made _ _ _ _, (Below.refl _ _).alloc (Nat.le_refl _) _⟩
  · obtain ⟨b, off, rfl, _, hb, hc⟩ := vec_cell1 h (List.length_pos_iff.2 hz)
    have HC := Lib.hid hc; have HLn := Lib.hid hL
    clear hc h hz hL
    go_enter Tryz.func161, Tryz.ntmps161
    go_wp2
    go_loopw [9] (fun i wr => ∃ k : Nat, k ≤ L.length ∧ i = .int .i64 k ∧ wr.ownsMap Tryz.prog 9 unitElem w.heap.size k (setD (L.take k)) ∧ Below w.heap.size w wr) (fun i _ => L.length - (intOf i).toNat)
    case atStart => exact ⟨0, by omega, rfl, World.ownsMap_made _ _ _ _, (Below.refl _ _).alloc (Nat.le_refl _) _⟩
    case round =>
      obtain ⟨k, hk, rfl, ho, hbw⟩ := hrel
      have HO := Lib.hid ho; have HB := Lib.hid hbw
      by_cases hlt : k < L.length
      · have hq : decide ((k : Int) < L.length) = true := by simp; omega
        have c1 : wr.cell? ⟨b, off + k, none⟩ = some (strV (L.getD k [])) := (hbw.cell (p := ⟨b, off + k, none⟩) hb).trans (HC.out k hlt)
        have hx1 : (L.getD k []).length ≤ 1000000 := by rw [List.getD, List.getElem?_eq_getElem hlt]; exact HLn.out _ (List.getElem_mem hlt)
        have htk := take_snocA L k hlt
        rw [show (default : List UInt8) = [] from rfl] at htk
        obtain ⟨x, hx⟩ : ∃ x, L.getD k [] = x := ⟨_, rfl⟩
        rw [hx] at c1 hx1 htk
        have HT := Lib.hid htk
        have hkey := Lib.hid (WideMaps.keyOf_string_mk (P := Tryz.prog) (k := 9) (s := ⟨x.toArray⟩) Tryz.underlying9 (by rw [mk_size]; unfold maxLen; omega))
        clear hx htk hbw ho
        go_wp2_with (at_mapUpdate; refine wpList_mapUpdate_own _ rfl _ _ _ 151 rfl 9 152 lawS Tryz.underlying151 (unitElem (H := Unit)) w.heap.size k _ rfl HO.out (by unfold maxLen; omega) _ _ _ rfl rfl hkey.out _ [] unitElem_mk ?_; intro w1 hown1 hgrow1)
        go_roundw
        case rel => exact ⟨k + 1, by omega, by go_num, by rw [HT.out, setD_snoc]; exact hown1, HB.out.grown hgrow1 HB.out.size (fun j hj => by cases hj; exact Nat.le_refl _)⟩
        case measure => simp [intOf]; omega
      · have hq : decide ((k : Int) < L.length) = false := by simp; omega
        go_wp2_with fail
        go_ret
        exact ⟨rfl, by rw [List.take_of_length_le (by omega)] at HO; exact HO.out.mono hk, HB.out⟩
theorem keyStr {l : Lit} (h : KeysOf Tryz.prog 9 l) : ∃ x, l = .string x := by
  obtain ⟨v, hv⟩ := h
  obtain ⟨x, _, h2, _⟩ := keyOf_str Tryz.underlying9 hv
  exact ⟨x, h2⟩
theorem setD_perm {w : World} {b n : Nat} {L : List (List UInt8)} (h : w.ownsMap Tryz.prog 9 unitElem b n (setD L)) : L.eraseDups.Perm (strKeys (setD L)) := by
  have ht := tidy_setOf unitD (L.map Lit.string) (keyLit L)
  obtain ⟨es, e1, hk⟩ := h.keysOf
  obtain ⟨es', e2, hp⟩ := ht
  have e3 : setD L = .map es' := e2
  have hes : es = es' := by rw [e1] at e3; cases e3; rfl
  subst hes
  rw [e1]
  refine perm_strKeys hp (fun p hp' => keyStr (hk p hp')) (erase_nodup L _ (Nat.le_refl _)) fun x => ?_
  rw [← e1, List.mem_eraseDups]
  unfold setD
  rw [has_setOf _ _ _ (keyLit L), List.any_map, List.any_eq_true]
  constructor
  · intro hx; exact ⟨x, hx, by simp [Lit.sameKey]⟩
  · rintro ⟨y, hy, he⟩
    have := WideAt.sameKey_eq (show (Lit.string y).sameKey (Lit.string x) = true from he)
    cases this; exact hy
theorem flat_enc (L : List (List UInt8)) : L.map encStr = L.flatMap encS := by
  induction L with
  | nil => rfl
  | cons a L ih => rw [List.map_cons, List.flatMap_cons, ih]; rfl
set_option maxHeartbeats 1000000 in
/-- the elements of a list, ascending, in a new slice -/
theorem set_any (S : Nat → Prop) (v : Value) (L : List (List UInt8)) (w : World) (h : Vec w S 1 encS v L) (hn : L.length ≤ 1000000) (hL : ∀ t ∈ L, t.length ≤ 1000000) :
    Calls Tryz.prog 137 #[v] w fun e w' => ∃ v', e = .returned v' ∧ OwnAt w v' (setL L) w' := by
  have HV := Lib.hid h; have HLn := Lib.hid hL
  clear h hL
  go_enter Tryz.func137, Tryz.ntmps137
  go_wp2_with fail
  refine (of_any S v L _ HV.out hn HLn.out).mono ?_
  rintro e w1 ⟨rfl, ho, hb⟩
  have HO := Lib.hid ho; have HB := Lib.hid hb
  clear ho hb
  go_wp2_with fail
  refine ((callsIn_wide (n := 5)).1 (Tryz.maps_Keys _ _)).mono ?_
  rintro e w' ⟨rfl, rfl⟩
  go_wp2_with fail
  refine ((callsIn_wide (n := 5)).1 (Tryz.slices_Sorted_keys w.heap.size L.length (setD L) unitElem w1 HO.out (by have := HO.out.size_le; unfold maxLen; omega) (by have := HO.out.size_le; omega))).mono ?_
  rintro e w2 ⟨v', ss, rfl, hp, hrow, _, hb2⟩
  have e1 : ss.mergeSort leB = setL L := mergeSort_of_perm (hp.trans (setD_perm HO.out).symm)
  have e2 : ss.length = (setL L).length := by rw [← e1, (List.mergeSort_perm _ _).length_eq]
  have hrow2 : w2.ownsRow (w1.alloc (.cells #[.map (some w.heap.size)] 151)).heap.size 9 1 v' (setL L).length ((setL L).flatMap encS) := by
    rw [← flat_enc, ← e2, ← e1]; exact hrow
  have HR := Lib.hid hrow2
  have HB2 := Lib.hid ((HB.out.alloc HB.out.size (.cells #[.map (some w.heap.size)] 151)).trans (hb2.mono (by have := HB.out.size; simp; omega)))
  clear e1 e2 hrow hrow2 hp hb2
  have hbz := HB.out.size
  go_wp2_with fail
  go_ret
  exact ⟨v', rfl, ownsRow_base_a HR.out (by simp; omega), HB2.out⟩
end Go.Proofs.YtfgoiojmbphmnaaGreatDoor
end
section
/- Plain law: grams of a normal form: ascending, not more than 80, none only of the empty text. -/
set_option linter.unusedSimpArgs false
set_option linter.unusedVariables false
set_option maxRecDepth 100000
namespace Go.Proofs.YtfgoiojmbphmnaaGreatDoor
open Go.RowKit Cal
theorem nameN_toks {r : RulesL} {l v : List UInt8} (h : nameN r l = (v, 0)) : ∃ M : List (List UInt8), (∀ t ∈ M, okT t) ∧ v = joinL M ∧ M.length ≤ 6 ∧ v.length ≤ 64 := by
  unfold nameN at h
  by_cases hc : checkR r = 0
  · rw [if_pos hc] at h
    by_cases hv : foldV l = true
    · rw [if_pos hv] at h
      obtain ⟨h1, _⟩ := nameToks_same hc (toks (foldL l))
      generalize nameToks r (toks (foldL l)) = M at h h1
      by_cases hb : 6 < M.length ∨ 64 < (joinL M).length
      · rw [if_pos hb] at h; simp at h
      · rw [if_neg hb] at h
        obtain rfl : joinL M = v := congrArg Prod.fst h
        exact ⟨M, h1, rfl, by omega, by omega⟩
    · rw [if_neg hv] at h; simp at h
  · rw [if_neg hc] at h
    exact absurd (congrArg Prod.snd h) hc
theorem addrN_toks {r : RulesL} {l v : List UInt8} (h : addrN r l = (v, 0)) : ∃ M : List (List UInt8), (∀ t ∈ M, okT t) ∧ v = joinL M ∧ M.length ≤ 6 ∧ v.length ≤ 64 := by
  unfold addrN at h
  by_cases hc : checkR r = 0
  · rw [if_pos hc] at h
    obtain ⟨_, _, _, h3, _⟩ := check_zero hc
    by_cases hv : foldV l = true
    · rw [if_pos hv] at h
      have hok := toks_ok l
      generalize toks (foldL l) = T at h hok
      have hM : ∀ t ∈ order2 (T.map (addrTok r)), okT t := by
        intro t ht
        obtain ⟨x, hx, rfl⟩ := List.mem_map.1 (order2_mem ht)
        exact (addrTok_same h3 (hok x hx)).1
      have hlen : (order2 (T.map (addrTok r))).length = T.length := by rw [order2_length, List.length_map]
      by_cases hb : 6 < T.length ∨ 64 < (joinL (order2 (T.map (addrTok r)))).length
      · rw [if_pos hb] at h; simp at h
      · rw [if_neg hb] at h
        obtain rfl : joinL (order2 (T.map (addrTok r))) = v := congrArg Prod.fst h
        exact ⟨_, hM, rfl, by omega, by omega⟩
    · rw [if_neg hv] at h; simp at h
  · rw [if_neg hc] at h
    exact absurd (congrArg Prod.snd h) hc
/-- the grams of a normal form of a kind -/
def gramsK (k : Int) (l : List UInt8) : List (List UInt8) := if l = [] then [] else if k = 2 then posL 0 l else if k = 3 then [61 :: l] else gramsL l
theorem asc_one (x : List UInt8) : AscB [x] := by intro i hi; simp at hi
theorem asc_nil : AscB [] := by intro i hi; simp at hi
def GramsOk (L : List (List UInt8)) (v : List UInt8) : Prop := AscB L ∧ L.length ≤ 80 ∧ (L = [] ↔ v = [])
theorem toks_gramsOk {v : List UInt8} {M : List (List UInt8)} (h0 : v ≠ []) (h1 : ∀ t ∈ M, okT t) (h2 : v = joinL M) (h3 : v.length ≤ 64) : GramsOk (gramsL v) v := by
  have ht : toks v = M := by rw [h2]; exact toks_join M h1
  have hM : M ≠ [] := by intro e; subst e; exact h0 h2
  refine ⟨set_asc _, by have := grams_bound h3; omega, ⟨fun e => absurd e (grams_some (by rw [ht]; exact hM)), fun e => absurd e h0⟩⟩
theorem dayN_len {l v : List UInt8} (h : dayN l = (v, 0)) : v.length = 8 := by
  have := dayN_read h
  unfold readB at this
  cases hd : decide (v.length = 8)
  · rw [hd] at this; cases this
  · simpa using hd
theorem gramsK_law {s : SchemaL} {f kf : Int} {l v : List UInt8} (h : valueN s f l = (v, 0)) (hk : findN s f = (kf, 0)) : GramsOk (gramsK kf v) v := by
  by_cases hv : v = []
  · subst hv
    exact ⟨by unfold gramsK; rw [if_pos rfl]; exact asc_nil, by unfold gramsK; rw [if_pos rfl]; simp, by unfold gramsK; simp⟩
  · have hkk := findN_kind (s := s) (f := f) (by rw [hk])
    unfold valueN at h
    rw [hk] at h hkk
    dsimp only at h hkk
    rw [if_pos rfl] at h
    by_cases hl : l = []
    · rw [if_pos hl] at h; exact absurd (congrArg Prod.fst h).symm hv
    · rw [if_neg hl] at h
      unfold gramsK
      rw [if_neg hv]
      rcases hkk with rfl | rfl | rfl | rfl
      · rw [if_neg (by omega), if_neg (by omega)]
        obtain ⟨M, h1, h2, _, h3⟩ := nameN_toks (show nameN s.rules l = (v, 0) from h)
        exact toks_gramsOk hv h1 h2 h3
      · rw [if_pos rfl]
        have h8 := dayN_len (show dayN l = (v, 0) from h)
        exact ⟨pos_asc v 0 (by omega), by rw [posL_len]; omega, ⟨fun e => by have := congrArg List.length e; rw [posL_len] at this; simp at this; exact this, fun e => absurd e hv⟩⟩
      · rw [if_neg (by omega), if_pos rfl]
        exact ⟨asc_one _, by simp, by simp [hv]⟩
      · rw [if_neg (by omega), if_neg (by omega)]
        obtain ⟨M, h1, h2, _, h3⟩ := addrN_toks (show addrN s.rules l = (v, 0) from h)
        exact toks_gramsOk hv h1 h2 h3
end Go.Proofs.YtfgoiojmbphmnaaGreatDoor
end
section
/- gram.Grams. -/
set_option linter.unusedSimpArgs false
set_option linter.unusedVariables false
set_option maxRecDepth 100000
namespace Go.Proofs.YtfgoiojmbphmnaaGreatDoor
open Go.RowKit
attribute [local go_sem] toList_mk mk_size bytes_append
theorem wrapT_cons (t : List UInt8) : wrapT t = 95 :: (t ++ [95]) := rfl
theorem bigr_getD (l : List UInt8) : ∀ j, j + 1 < l.length → (bigrA l).getD j [] = [l.getD j 0, l.getD (j + 1) 0] := by
  induction l using bigrA.induct with
  | case1 a b r ih =>
    intro j hj
    cases j with
    | zero => rfl
    | succ j =>
      have := ih j (by simp at hj ⊢; omega)
      simp only [bigrA, List.getD_cons_succ] at this ⊢
      exact this
  | case2 l h =>
    intro j hj
    match l, h with
    | [], _ => simp at hj
    | [a], _ => simp at hj
    | a :: b :: r, h => exact absurd rfl (h a b r)
theorem take_two (l : List UInt8) (j : Nat) (h : j + 1 < l.length) : ((⟨l.toArray⟩ : ByteArray).extract j (j + 2)) = ⟨[l.getD j 0, l.getD (j + 1) 0].toArray⟩ := by
  have := ext_mk l j (j + 2) (by omega)
  unfold mkS at this
  rw [this]
  congr 2
  rw [List.drop_take, List.drop_eq_getElem_cons (by omega), List.drop_eq_getElem_cons (by omega), List.getD, List.getD, List.getElem?_eq_getElem (by omega), List.getElem?_eq_getElem h]
  rw [show j + 2 - j = 2 by omega]; rfl
theorem gramsAll_take (T : List (List UInt8)) (k : Nat) (h : k < T.length) : gramsAll (T.take (k + 1)) = gramsAll (T.take k) ++ bigrA (wrapT (T.getD k [])) := by
  have := take_snocA T k h
  rw [show (default : List UInt8) = [] from rfl] at this
  rw [this]; simp [gramsAll]
theorem gramsAll_small (T : List (List UInt8)) (h : ∀ t ∈ T, t.length ≤ 64) : (gramsAll T).length ≤ 65 * T.length := by
  induction T with
  | nil => simp [gramsAll]
  | cons t T ih =>
    have h1 := ih fun x hx => h x (List.mem_cons_of_mem _ hx)
    have h2 := h t List.mem_cons_self
    have e : (gramsAll (t :: T)).length = t.length + 1 + (gramsAll T).length := by
      simp only [gramsAll, List.flatMap_cons, List.length_append, bigr_len, wrapT]; simp; try omega
    rw [e, List.length_cons]; omega
theorem toks_len (l : List UInt8) (h : l.length ≤ 64) : (toks l).length ≤ 65 ∧ ∀ t ∈ toks l, t.length ≤ 64 := by
  have h1 := toksA_len l []
  unfold toks
  refine ⟨by simp at h1; omega, fun t ht => ?_⟩
  have : ∀ (L : List (List UInt8)), t ∈ L → t.length ≤ (joinL L).length := by
    intro L
    induction L with
    | nil => intro h; simp at h
    | cons a L ih =>
      intro h
      by_cases hL : L = []
      · subst hL; simp at h; subst h; exact Nat.le_refl _
      · rw [join_cons_ne _ _ hL]
        rcases List.mem_cons.1 h with rfl | h
        · simp
        · have := ih h; simp; omega
  have := this _ ht
  simp at h1; omega
set_option maxHeartbeats 4000000 in
theorem ggrams_any (s : ByteArray) (w : World) (hs : s.size ≤ 64) (ha : ascii s.data.toList) :
    Calls Tryz.prog 105 #[.string s] w fun e w' => ∃ v, e = .returned v ∧ Vec w' Any1 1 encS v (gramsL s.data.toList) ∧ Below w.heap.size w w' := by
  have hl : s.data.toList.length = s.size := by simp
  obtain ⟨hT1, hT2⟩ := toks_len s.data.toList (by omega)
  have hc := tokens_any s.data.toList w ha (by omega)
  rw [show strV s.data.toList = .string s by simp] at hc
  obtain ⟨T, hT⟩ : ∃ T, toks s.data.toList = T := ⟨_, rfl⟩
  have hG : gramsL s.data.toList = setL (gramsAll T) := by unfold gramsL; rw [hT]
  rw [hT] at hT1 hT2 hc
  rw [hG]
  have HC := Lib.hid hc; have HT2 := Lib.hid hT2
  have d1 : decide ((64 : Int) < s.size) = false := by simp; omega
  clear hl hc hT hG hT2 ha
  go_enter Tryz.func105, Tryz.ntmps105
  go_wp2_with fail
  refine HC.out.mono ?_
  rintro e w1 ⟨A, rfl, hA, ho, hb1⟩
  have HR := Lib.hid (own_block ho).2
  have zA := lt_of_blk HR.out
  have HB1 := Lib.hid hb1
  clear ho hb1 HC d1
  go_wp2_with fail
  go_loopw [3, 13] (fun v i wr => ∃ k : Nat, k ≤ T.length ∧ i = .int .i64 k ∧ OwnAt w1 v (gramsAll (T.take k)) wr) (fun _ i _ => T.length - (intOf i).toNat)
  case atStart => exact ⟨0, by omega, rfl, OwnAt.start w1⟩
  case round =>
    obtain ⟨k, hk, rfl, ho⟩ := hrel
    have HO := Lib.hid ho; clear ho
    by_cases hlt : k < T.length
    · have hq : decide ((k : Int) < T.length) = true := by simp; omega
      have hgl := gramsAll_small (T.take k) (fun t ht => HT2.out t (List.mem_of_mem_take ht))
      have htl := List.length_take_le k T
      have hx1 : (T.getD k []).length ≤ 64 := by rw [List.getD, List.getElem?_eq_getElem hlt]; exact HT2.out _ (List.getElem_mem hlt)
      have c1 := (show RowB _ A T from blk_below HO.out.2 zA HR.out).cell k hlt
      have HG := Lib.hid (gramsAll_take T k hlt)
      obtain ⟨t, ht⟩ : ∃ t, T.getD k [] = t := ⟨_, rfl⟩
      rw [ht] at c1 hx1 HG
      clear ht
      obtain ⟨wo, rfl⟩ : ∃ wo : World, wo = wr := ⟨_, rfl⟩
      go_wp2_with fail
      go_loopw [3, 23] (fun v i wr => ∃ j : Nat, j ≤ 1 + t.length ∧ i = .int .i64 j ∧ OwnAt w1 v (gramsAll (T.take k) ++ (bigrA (wrapT t)).take j) wr) (fun _ i _ => 1 + t.length - (intOf i).toNat)
      case atStart => exact ⟨0, by omega, rfl, by simpa using HO.out⟩
      case round =>
        obtain ⟨j, hj, rfl, ho2⟩ := hrel
        have HO2 := Lib.hid ho2; clear ho2
        have hwl : (wrapT t).length = t.length + 2 := by simp [wrapT]
        by_cases hlj : j < 1 + t.length
        · have hq2 : decide ((j : Int) < 1 + t.length) = true := by simp; omega
          have hext := take_two (wrapT t) j (by omega)
          have hbg := bigr_getD (wrapT t) j (by omega)
          have hbl : j < (bigrA (wrapT t)).length := by rw [bigr_len]; omega
          have htk := take_snocA (bigrA (wrapT t)) j hbl
          rw [show (default : List UInt8) = [] from rfl, hbg] at htk
          obtain ⟨z, hz⟩ : ∃ z, [(wrapT t).getD j 0, (wrapT t).getD (j + 1) 0] = z := ⟨_, rfl⟩
          rw [hz] at hext htk
          rw [wrapT_cons] at hext
          have HTK := Lib.hid htk
          have hln : (gramsAll (T.take k) ++ (bigrA (wrapT t)).take j).length < 1099511627776 := by
            have := List.length_take_le j (bigrA (wrapT t))
            simp only [List.length_append]; omega
          have hone : ∀ u ∈ (#[strV z] : Array Value).toList, u.oneCell' = true := by intro u hu; simp at hu; subst hu; rfl
          clear hbg hbl htk hz hwl
          go_wp2_with (at_builtin; refine wpList_append_new rfl _ _ 28 rfl w1.heap.size 9 1 16 (.string ⟨#[]⟩) Tryz.underlying28 infoS rfl (by decide) (by decide) _ _ _ rfl HO2.out.1 #[strV z] 1 rfl rfl hone hln HO2.out.2.size ?_; intro v2 w8 ho8 hw8)
          go_roundw
          case rel => exact ⟨j + 1, by omega, by go_num, by rw [HTK.out, ← List.append_assoc]; exact ⟨by rw [List.length_append, flat_snoc]; exact ho8, hw8 _ HO2.out.2⟩⟩
          case measure => simp [intOf]; omega
        · have hq2 : decide ((j : Int) < 1 + t.length) = false := by simp; omega
          rw [show (bigrA (wrapT t)).take j = bigrA (wrapT t) from List.take_of_length_le (by rw [bigr_len]; omega), ← HG.out] at HO2
          go_wp2_with fail
          go_roundw
          case rel => exact ⟨k + 1, by omega, by go_num, HO2.out⟩
          case measure => simp [intOf]; omega
    · have hq : decide ((k : Int) < T.length) = false := by simp; omega
      rw [List.take_of_length_le (by omega)] at HO
      have hgl := gramsAll_small T HT2.out
      have HV := Lib.hid (Vec.owns (S := Any1) (k := 1) (enc := encS) (fun _ => rfl) HO.out.1 (fun _ _ _ => trivial))
      have hsm : ∀ x ∈ gramsAll T, x.length ≤ 1000000 := by
        intro x hx
        obtain ⟨t, ht, hx⟩ := List.mem_flatMap.1 hx
        have key : ∀ l : List UInt8, ∀ x ∈ bigrA l, x.length = 2 := by
          intro l
          induction l using bigrA.induct with
          | case1 a b r ih => intro x hx; simp only [bigrA] at hx; rcases List.mem_cons.1 hx with rfl | hx; · rfl
                              exact ih x hx
          | case2 l h =>
            intro x hx
            match l, h with
            | [], _ => simp [bigrA] at hx
            | [a], _ => simp [bigrA] at hx
            | a :: b :: r, h => exact absurd rfl (h a b r)
        have := key _ x hx; omega
      have HSm := Lib.hid hsm; clear hsm
      go_wp2_with fail
      refine (set_any Any1 _ (gramsAll T) _ HV.out (by omega) HSm.out).mono ?_
      rintro e w3 ⟨v3, rfl, ho3⟩
      have HV3 := Lib.hid (Vec.owns (S := Any1) (k := 1) (enc := encS) (fun _ => rfl) ho3.1 (fun _ _ _ => trivial))
      have HB3 := Lib.hid ((HB1.out.trans (HO.out.2.mono HB1.out.size)).trans (ho3.2.mono (Nat.le_trans HB1.out.size HO.out.2.size)))
      clear ho3
      go_wp2_with fail
      go_ret
      exact ⟨v3, rfl, HV3.out, HB3.out⟩
end Go.Proofs.YtfgoiojmbphmnaaGreatDoor
end
section
/- schema.Grams: what it returns, of every input. -/
set_option linter.unusedSimpArgs false
set_option linter.unusedVariables false
set_option maxRecDepth 100000
namespace Go.Proofs.YtfgoiojmbphmnaaGreatDoor
open Go.RowKit Cal
attribute [local go_sem] toList_mk mk_size bytes_append
set_option maxHeartbeats 400000 in
theorem kind4_any (s : ByteArray) (w : World) (hs : s.size ≤ 1000) :
    Calls Tryz.prog 114 #[.string s] w fun e w' => ∃ v, e = .returned v ∧ Vec w' Any1 1 encS v [61 :: s.data.toList] ∧ Below w.heap.size w w' := by
  have hs2 : (⟨#[61]⟩ : ByteArray) ++ s = ⟨(61 :: s.data.toList).toArray⟩ := by
    apply ByteArray.ext; simp
  go_enter Tryz.func114, Tryz.ntmps114
  go_wp2
  go_ret
  exact ⟨_, rfl, vec_block (L := [61 :: s.data.toList]) (blk_new rfl) 1 rfl, (Below.refl _ _).alloc (Nat.le_refl _) _⟩
/-- the grams of a value, and the error -/
def gramsN (s : SchemaL) (f : Int) (l : List UInt8) : List (List UInt8) × Int := if (findN s f).2 = 0 then (if normalB s f l = true then (gramsK (findN s f).1 l, 0) else ([], 7)) else ([], (findN s f).2)
def GramsIs (p : List (List UInt8) × Int) (w : World) (e : Ending) (w' : World) : Prop := ∃ v, e = .returned (.tuple #[v, .int .i64 p.2]) ∧ Vec w' Any1 1 encS v p.1 ∧ Below w.heap.size w w'
theorem own_small {p : List UInt8 × Int} {l : List UInt8} (h : isOwn p l = true) (hf : FormOk p) : l.length ≤ 64 ∧ p = (l, 0) := by
  obtain ⟨a, b⟩ := p
  unfold isOwn at h
  cases hb : (b == (0 : Int))
  · rw [hb] at h; cases h
  · rw [hb] at h
    simp only [cond_true, beq_iff_eq] at h hb
    subst h hb
    exact ⟨hf.1, rfl⟩
theorem join_ascii {M : List (List UInt8)} (h : ∀ t ∈ M, okT t) : ascii (joinL M) := fun b hb => okB_lt (join_ok M h b hb)
/-- what a value in normal form is like -/
theorem own_facts {k : Int} {r : RulesL} {l : List UInt8} (h : ownK k r l = true) (hk : k = 1 ∨ k = 2 ∨ k = 3 ∨ k = 4) : l.length ≤ 64 ∧ (k = 1 ∨ k = 4 → ascii l) ∧ (k = 2 → l.length = 8) := by
  unfold ownK at h
  rcases hk with rfl | rfl | rfl | rfl
  · obtain ⟨h1, h2⟩ := own_small (show isOwn (nameN r l) l = true from h) (nameN_form r l)
    obtain ⟨M, g1, g2, _⟩ := nameN_toks h2
    exact ⟨h1, fun _ => by rw [g2]; exact join_ascii g1, fun e => by omega⟩
  · have hr : readB l = true := h
    unfold readB at hr
    cases hd : decide (l.length = 8)
    · rw [hd] at hr; cases hr
    · have : l.length = 8 := by simpa using hd
      exact ⟨by omega, fun e => by omega, fun _ => this⟩
  · obtain ⟨h1, h2⟩ := own_small (show isOwn (codeN l) l = true from h) (codeN_form l)
    exact ⟨h1, fun e => by omega, fun e => by omega⟩
  · obtain ⟨h1, h2⟩ := own_small (show isOwn (addrN r l) l = true from h) (addrN_form r l)
    obtain ⟨M, g1, g2, _⟩ := addrN_toks h2
    exact ⟨h1, fun _ => by rw [g2]; exact join_ascii g1, fun e => by omega⟩
set_option maxHeartbeats 8000000 in
theorem grams_s (S : Nat → Prop) (vf vt vn vs : Value) (s : SchemaL) (f : Int) (x : ByteArray) (w : World) (h : SchemaAt w S vf vt vn vs s) (hx : x.size ≤ 9223372036854775000) :
    Calls Tryz.prog 18 #[.agg #[vf, vt, vn, vs], .int .i64 f, .string x] w (GramsIs (gramsN s f x.data.toList) w) := by
  have HS := Lib.hid h.any
  have HL := Lib.hid (Lib.toList_data x)
  clear h
  have K := find_s Any1 vf vt vn vs s f (w.alloc (.cells #[vf, vt, vn, vs] 33)) (HS.out.below ((Below.refl _ _).alloc (Nat.le_refl _) _))
  have hkk := findN_kind (s := s) (f := f)
  have hval : gramsN s f x.data.toList = if (findN s f).2 = 0 then (if normalB s f x.data.toList = true then (gramsK (findN s f).1 x.data.toList, 0) else ([], 7)) else ([], (findN s f).2) := rfl
  have hown : (findN s f).2 = 0 → x.data.toList ≠ [] → normalB s f x.data.toList = ownK (findN s f).1 s.rules x.data.toList := fun h0 h1 => by unfold normalB; rw [if_pos h0, if_neg h1]
  obtain ⟨⟨kd, er⟩, hp⟩ : ∃ p, findN s f = p := ⟨_, rfl⟩
  rw [hp] at K hkk hval hown
  dsimp only at hkk hval hown
  change Calls _ _ _ _ fun e w' => e = .returned (.tuple #[.agg (kindAt kd), .int .i64 er]) ∧ _ at K
  have HK := Lib.hid K
  have HVal := Lib.hid hval; have HOwn := Lib.hid hown
  obtain ⟨ko, ks⟩ := kindAt_one kd
  have KO := Lib.hid ko; have KS := Lib.hid ks
  clear K hp hval ko ks hown
  by_cases he : er = 0
  · subst he
    have hkd := hkk rfl
    clear hkk
    cases hno : normalB s f x.data.toList
    · have HE := Lib.hid (show gramsN s f x.data.toList = ([], 7) by rw [HVal.out, if_pos rfl, hno, if_neg (by simp)])
      have HN := Lib.hid hno
      clear hno hkd
      rw [HE.out]
      go_enter Tryz.func18, Tryz.ntmps18
      go_wp2_with fail
      refine HK.out.mono ?_
      rintro e w1 ⟨rfl, hb1⟩
      have HB1 := Lib.hid (((Below.refl w.heap.size w).alloc (Nat.le_refl _) (.cells #[vf, vt, vn, vs] 33)).trans (hb1.mono (by simp)))
      have HX1 := Lib.hid (blk_below (b := w.heap.size) (o := .cells #[vf, vt, vn, vs] 33 (0, 0)) hb1 (by simp) (blk_new rfl))
      clear hb1 HK
      have z0 := lt_of_blk HX1.out
      obtain ⟨p0, p1, p2, p3⟩ := cells4 HX1.out
      go_wp2_with (refine wpList_store_row rfl 79 (.tmp 8) (.tmp 14) rfl w1.heap.size (kindAt kd) rfl rfl 79 kind0 (heap_alloc_new w1 _) (by rw [KS.out]; kernel_rfl) (by rw [KS.out]; rfl) KO.out ?_; rw [World.setRow_alloc_new])
      have HB2 := Lib.hid (HB1.out.alloc HB1.out.size (.cells (kindAt kd) 79))
      refine (normal_s Any1 vf vt vn vs s f x _ (HS.out.below HB2.out) hx).mono ?_
      rw [HN.out]
      rintro e w3 ⟨rfl, hb3⟩
      have HB3 := Lib.hid (HB2.out.trans (hb3.mono HB2.out.size))
      clear hb3 p0 p1 p2 p3
      go_wp2_with fail
      go_ret2
      exact ⟨_, rfl, Vec.nil _ _ _ _, HB3.out⟩
    · by_cases hx0 : x.data.toList = []
      · have e1 : x.toList = [] := by rw [HL.out, hx0]
        have HE := Lib.hid (show gramsN s f x.data.toList = ([], 0) by rw [HVal.out, if_pos rfl, hno, if_pos rfl]; unfold gramsK; rw [if_pos hx0])
        have HN := Lib.hid hno
        clear hno hkd hx0
        rw [HE.out]
        go_enter Tryz.func18, Tryz.ntmps18
        go_wp2_with fail
        refine HK.out.mono ?_
        rintro e w1 ⟨rfl, hb1⟩
        have HB1 := Lib.hid (((Below.refl w.heap.size w).alloc (Nat.le_refl _) (.cells #[vf, vt, vn, vs] 33)).trans (hb1.mono (by simp)))
        have HX1 := Lib.hid (blk_below (b := w.heap.size) (o := .cells #[vf, vt, vn, vs] 33 (0, 0)) hb1 (by simp) (blk_new rfl))
        clear hb1 HK
        have z0 := lt_of_blk HX1.out
        obtain ⟨p0, p1, p2, p3⟩ := cells4 HX1.out
        go_wp2_with (refine wpList_store_row rfl 79 (.tmp 8) (.tmp 14) rfl w1.heap.size (kindAt kd) rfl rfl 79 kind0 (heap_alloc_new w1 _) (by rw [KS.out]; kernel_rfl) (by rw [KS.out]; rfl) KO.out ?_; rw [World.setRow_alloc_new])
        have HB2 := Lib.hid (HB1.out.alloc HB1.out.size (.cells (kindAt kd) 79))
        refine (normal_s Any1 vf vt vn vs s f x _ (HS.out.below HB2.out) hx).mono ?_
        rw [HN.out]
        rintro e w3 ⟨rfl, hb3⟩
        have HB3 := Lib.hid (HB2.out.trans (hb3.mono HB2.out.size))
        clear hb3 p0 p1 p2 p3
        go_wp2_with fail
        go_ret2
        exact ⟨_, rfl, Vec.nil _ _ _ _, HB3.out⟩
      · have e1 : (x.toList == []) = false := by rw [HL.out]; simpa using hx0
        have e2 : x.toList.isEmpty = false := by rw [HL.out]; simpa using hx0
        have ho := HOwn.out rfl hx0
        rw [hno] at ho
        obtain ⟨g1, g2, g3⟩ := own_facts ho.symm hkd
        have hl : x.data.toList.length = x.size := by simp
        rw [hl] at g1 g3
        have HG2 := Lib.hid g2
        have HE := Lib.hid (show gramsN s f x.data.toList = (gramsK kd x.data.toList, 0) by rw [HVal.out, if_pos rfl, hno, if_pos rfl])
        have HGK := Lib.hid (show gramsK kd x.data.toList = if kd = 2 then posL 0 x.data.toList else if kd = 3 then [61 :: x.data.toList] else gramsL x.data.toList by unfold gramsK; rw [if_neg hx0])
        have HN := Lib.hid hno
        clear hno hx0 ho hl g2
        rw [HE.out, HGK.out]
        rcases hkd with rfl | rfl | rfl | rfl
        · rw [if_neg (by omega), if_neg (by omega)]
          (first | have HAs := Lib.hid (HG2.out (by omega)) | skip)
          clear HG2 HE HGK HOwn HVal
          go_enter Tryz.func18, Tryz.ntmps18
          go_wp2_with fail
          refine HK.out.mono ?_
          rintro e w1 ⟨rfl, hb1⟩
          have HB1 := Lib.hid (((Below.refl w.heap.size w).alloc (Nat.le_refl _) (.cells #[vf, vt, vn, vs] 33)).trans (hb1.mono (by simp)))
          have HX1 := Lib.hid (blk_below (b := w.heap.size) (o := .cells #[vf, vt, vn, vs] 33 (0, 0)) hb1 (by simp) (blk_new rfl))
          clear hb1 HK
          have z0 := lt_of_blk HX1.out
          obtain ⟨p0, p1, p2, p3⟩ := cells4 HX1.out
          go_wp2_with (refine wpList_store_row rfl 79 (.tmp 8) (.tmp 14) rfl w1.heap.size (kindAt 1) rfl rfl 79 kind0 (heap_alloc_new w1 _) (by rw [KS.out]; kernel_rfl) (by rw [KS.out]; rfl) KO.out ?_; rw [World.setRow_alloc_new])
          have HB2 := Lib.hid (HB1.out.alloc HB1.out.size (.cells (kindAt 1) 79))
          refine (normal_s Any1 vf vt vn vs s f x _ (HS.out.below HB2.out) hx).mono ?_
          rw [HN.out]
          rintro e w3 ⟨rfl, hb3⟩
          have HB3 := Lib.hid (HB2.out.trans (hb3.mono HB2.out.size))
          have HX3 := Lib.hid (blk_below (b := w1.heap.size) (o := .cells (kindAt 1) 79 (0, 0)) hb3 (by simp) (blk_new rfl))
          have cf : w3.cell? ⟨w1.heap.size, 3, none⟩ = some (fnV 105) := by rw [cell_of_row _ _ _ _ _ _ HX3.out]; rfl
          clear hb3 p0 p1 p2 p3
          go_wp2_with fail
          refine (ggrams_any x _ g1 HAs.out).mono ?_
          rintro e w4 ⟨v, rfl, ho⟩
          have HO := Lib.hid ho; clear ho
          go_wp2_with fail
          go_ret2
          exact ⟨v, rfl, HO.out.1, HB3.out.trans ((HO.out.2).mono HB3.out.size)⟩
        · rw [if_pos rfl]
          have g4 : x.size ≤ 26 := by have := g3 rfl; omega
          (first | have HAs := Lib.hid (HG2.out (by omega)) | skip)
          clear HG2 HE HGK HOwn HVal
          go_enter Tryz.func18, Tryz.ntmps18
          go_wp2_with fail
          refine HK.out.mono ?_
          rintro e w1 ⟨rfl, hb1⟩
          have HB1 := Lib.hid (((Below.refl w.heap.size w).alloc (Nat.le_refl _) (.cells #[vf, vt, vn, vs] 33)).trans (hb1.mono (by simp)))
          have HX1 := Lib.hid (blk_below (b := w.heap.size) (o := .cells #[vf, vt, vn, vs] 33 (0, 0)) hb1 (by simp) (blk_new rfl))
          clear hb1 HK
          have z0 := lt_of_blk HX1.out
          obtain ⟨p0, p1, p2, p3⟩ := cells4 HX1.out
          go_wp2_with (refine wpList_store_row rfl 79 (.tmp 8) (.tmp 14) rfl w1.heap.size (kindAt 2) rfl rfl 79 kind0 (heap_alloc_new w1 _) (by rw [KS.out]; kernel_rfl) (by rw [KS.out]; rfl) KO.out ?_; rw [World.setRow_alloc_new])
          have HB2 := Lib.hid (HB1.out.alloc HB1.out.size (.cells (kindAt 2) 79))
          refine (normal_s Any1 vf vt vn vs s f x _ (HS.out.below HB2.out) hx).mono ?_
          rw [HN.out]
          rintro e w3 ⟨rfl, hb3⟩
          have HB3 := Lib.hid (HB2.out.trans (hb3.mono HB2.out.size))
          have HX3 := Lib.hid (blk_below (b := w1.heap.size) (o := .cells (kindAt 2) 79 (0, 0)) hb3 (by simp) (blk_new rfl))
          have cf : w3.cell? ⟨w1.heap.size, 3, none⟩ = some (fnV 109) := by rw [cell_of_row _ _ _ _ _ _ HX3.out]; rfl
          clear hb3 p0 p1 p2 p3
          go_wp2_with fail
          refine (positional_any x _ (by omega)).mono ?_
          rintro e w4 ⟨v, rfl, ho⟩
          have HO := Lib.hid ho; clear ho
          go_wp2_with fail
          go_ret2
          exact ⟨v, rfl, Vec.owns (k := 1) (enc := encS) (fun _ => rfl) HO.out.1 (fun _ _ _ => trivial), HB3.out.trans ((HO.out.2).mono HB3.out.size)⟩
        · rw [if_neg (by omega), if_pos rfl]
          (first | have HAs := Lib.hid (HG2.out (by omega)) | skip)
          clear HG2 HE HGK HOwn HVal
          go_enter Tryz.func18, Tryz.ntmps18
          go_wp2_with fail
          refine HK.out.mono ?_
          rintro e w1 ⟨rfl, hb1⟩
          have HB1 := Lib.hid (((Below.refl w.heap.size w).alloc (Nat.le_refl _) (.cells #[vf, vt, vn, vs] 33)).trans (hb1.mono (by simp)))
          have HX1 := Lib.hid (blk_below (b := w.heap.size) (o := .cells #[vf, vt, vn, vs] 33 (0, 0)) hb1 (by simp) (blk_new rfl))
          clear hb1 HK
          have z0 := lt_of_blk HX1.out
          obtain ⟨p0, p1, p2, p3⟩ := cells4 HX1.out
          go_wp2_with (refine wpList_store_row rfl 79 (.tmp 8) (.tmp 14) rfl w1.heap.size (kindAt 3) rfl rfl 79 kind0 (heap_alloc_new w1 _) (by rw [KS.out]; kernel_rfl) (by rw [KS.out]; rfl) KO.out ?_; rw [World.setRow_alloc_new])
          have HB2 := Lib.hid (HB1.out.alloc HB1.out.size (.cells (kindAt 3) 79))
          refine (normal_s Any1 vf vt vn vs s f x _ (HS.out.below HB2.out) hx).mono ?_
          rw [HN.out]
          rintro e w3 ⟨rfl, hb3⟩
          have HB3 := Lib.hid (HB2.out.trans (hb3.mono HB2.out.size))
          have HX3 := Lib.hid (blk_below (b := w1.heap.size) (o := .cells (kindAt 3) 79 (0, 0)) hb3 (by simp) (blk_new rfl))
          have cf : w3.cell? ⟨w1.heap.size, 3, none⟩ = some (fnV 114) := by rw [cell_of_row _ _ _ _ _ _ HX3.out]; rfl
          clear hb3 p0 p1 p2 p3
          go_wp2_with fail
          refine (kind4_any x _ (by omega)).mono ?_
          rintro e w4 ⟨v, rfl, ho⟩
          have HO := Lib.hid ho; clear ho
          go_wp2_with fail
          go_ret2
          exact ⟨v, rfl, HO.out.1, HB3.out.trans ((HO.out.2).mono HB3.out.size)⟩
        · rw [if_neg (by omega), if_neg (by omega)]
          (first | have HAs := Lib.hid (HG2.out (by omega)) | skip)
          clear HG2 HE HGK HOwn HVal
          go_enter Tryz.func18, Tryz.ntmps18
          go_wp2_with fail
          refine HK.out.mono ?_
          rintro e w1 ⟨rfl, hb1⟩
          have HB1 := Lib.hid (((Below.refl w.heap.size w).alloc (Nat.le_refl _) (.cells #[vf, vt, vn, vs] 33)).trans (hb1.mono (by simp)))
          have HX1 := Lib.hid (blk_below (b := w.heap.size) (o := .cells #[vf, vt, vn, vs] 33 (0, 0)) hb1 (by simp) (blk_new rfl))
          clear hb1 HK
          have z0 := lt_of_blk HX1.out
          obtain ⟨p0, p1, p2, p3⟩ := cells4 HX1.out
          go_wp2_with (refine wpList_store_row rfl 79 (.tmp 8) (.tmp 14) rfl w1.heap.size (kindAt 4) rfl rfl 79 kind0 (heap_alloc_new w1 _) (by rw [KS.out]; kernel_rfl) (by rw [KS.out]; rfl) KO.out ?_; rw [World.setRow_alloc_new])
          have HB2 := Lib.hid (HB1.out.alloc HB1.out.size (.cells (kindAt 4) 79))
          refine (normal_s Any1 vf vt vn vs s f x _ (HS.out.below HB2.out) hx).mono ?_
          rw [HN.out]
          rintro e w3 ⟨rfl, hb3⟩
          have HB3 := Lib.hid (HB2.out.trans (hb3.mono HB2.out.size))
          have HX3 := Lib.hid (blk_below (b := w1.heap.size) (o := .cells (kindAt 4) 79 (0, 0)) hb3 (by simp) (blk_new rfl))
          have cf : w3.cell? ⟨w1.heap.size, 3, none⟩ = some (fnV 105) := by rw [cell_of_row _ _ _ _ _ _ HX3.out]; rfl
          clear hb3 p0 p1 p2 p3
          go_wp2_with fail
          refine (ggrams_any x _ g1 HAs.out).mono ?_
          rintro e w4 ⟨v, rfl, ho⟩
          have HO := Lib.hid ho; clear ho
          go_wp2_with fail
          go_ret2
          exact ⟨v, rfl, HO.out.1, HB3.out.trans ((HO.out.2).mono HB3.out.size)⟩
  · have hne : (er != 0) = true := by simpa using he
    have HE := Lib.hid (show gramsN s f x.data.toList = ([], er) by rw [HVal.out, if_neg he])
    clear he hkk
    rw [HE.out]
    go_enter Tryz.func18, Tryz.ntmps18
    go_wp2_with fail
    refine HK.out.mono ?_
    rintro e w1 ⟨rfl, hb1⟩
    have HB1 := Lib.hid (((Below.refl w.heap.size w).alloc (Nat.le_refl _) (.cells #[vf, vt, vn, vs] 33)).trans (hb1.mono (by simp)))
    clear hb1 HK
    go_wp2_with (refine wpList_store_row rfl 79 (.tmp 8) (.tmp 14) rfl w1.heap.size (kindAt kd) rfl rfl 79 kind0 (heap_alloc_new w1 _) (by rw [KS.out]; kernel_rfl) (by rw [KS.out]; rfl) KO.out ?_; rw [World.setRow_alloc_new])
    go_ret2
    exact ⟨_, rfl, Vec.nil _ _ _ _, HB1.out.alloc HB1.out.size _⟩
end Go.Proofs.YtfgoiojmbphmnaaGreatDoor
end
section
/- The reference of layer 1 (text): Letters, Join, Same, Tokens, Valid compute what the plain functions say. -/
set_option linter.unusedSimpArgs false
set_option linter.unusedVariables false
set_option maxRecDepth 100000
namespace Go.Proofs.YtfgoiojmbphmnaaGreatDoor
open Go.RowKit
attribute [local go_sem] toList_mk mk_size bytes_append
theorem ext_one (s : ByteArray) (k : Nat) (h : k < s.size) : s.extract k (k + 1) = ⟨[s[k]].toArray⟩ := by
  have hl : s.data.toList.length = s.size := by simp
  have := ext_mk s.data.toList k (k + 1) (by omega)
  unfold mkS at this
  have e : (⟨s.data.toList.toArray⟩ : ByteArray) = s := by simp
  rw [e] at this
  rw [this]
  congr 2
  rw [take_snoc' s k h, List.drop_append_of_le_length (by rw [List.length_take]; omega), List.drop_eq_nil_of_le (by rw [List.length_take]; omega), List.nil_append]
set_option maxHeartbeats 1000000 in
theorem rletters_any (s : ByteArray) (w : World) (hs : s.size ≤ 1000000) :
    Calls Tryz.prog 79 #[.string s] w fun e w' => e = .returned (strV (lettersL s.data.toList)) ∧ w = w' := by
  have hl : s.data.toList.length = s.size := by simp
  have HL := Lib.hid hl; clear hl
  go_enter Tryz.func79, Tryz.ntmps79
  go_wp2_with fail
  go_loop [3, 4] (fun o i => ∃ k : Nat, k ≤ s.size ∧ i = .int .i64 k ∧ o = strV (lettersL (s.data.toList.take k))) (fun _ i => s.size - (intOf i).toNat)
  case atStart => exact ⟨0, by omega, rfl, rfl⟩
  case round =>
    obtain ⟨k, hk, rfl, rfl⟩ := hrel
    by_cases hlt : k < s.size
    · have hq : decide ((k : Int) < s.size) = true := by simp; omega
      have ht := Lib.hid (take_snoc' s k hlt)
      have hb := s[k].toNat_lt
      have hlen : (lettersL (s.data.toList.take k)).length ≤ 1000000 := by have := letters_len (s.data.toList.take k); have := List.length_take_le k s.data.toList; omega
      have hext := ext_one s k hlt
      cases hlo : isLow s[k]
      · have HN := Lib.hid (letters_no (s.data.toList.take k) s[k] hlo)
        have hc := hlo
        rw [low_iff, decide_eq_false_iff_not] at hc
        have hc' : (97 ≤ (s[k].toNat : Int) ∧ 122 < (s[k].toNat : Int)) ∨ (s[k].toNat : Int) < 97 := by omega
        clear hc hlo hext
        rcases hc' with ⟨g1, g2⟩ | g1
        all_goals
          go_wp2_with fail
          go_round
          case rel => exact ⟨k + 1, by omega, by go_num, by rw [ht.out, HN.out]⟩
          case measure => simp [intOf]; omega
      · have HY := Lib.hid (letters_yes (s.data.toList.take k) s[k] hlo)
        have hc := hlo
        rw [low_iff, decide_eq_true_iff] at hc
        obtain ⟨g1, g2⟩ := hc
        clear hlo
        go_wp2_with fail
        go_round
        case rel => exact ⟨k + 1, by omega, by go_num, by rw [ht.out, HY.out]⟩
        case measure => simp [intOf]; omega
    · obtain rfl : k = s.size := by omega
      have hq : decide ((s.size : Int) < s.size) = false := by simp
      have HF := Lib.hid (List.take_of_length_le (by rw [HL.out]; exact Nat.le_refl _) : s.data.toList.take s.size = s.data.toList)
      go_wp2_with fail
      go_ret
      exact ⟨by show Ending.returned (strV (lettersL (s.data.toList.take s.size))) = _; rw [HF.out], rfl⟩
theorem join_snoc (T : List (List UInt8)) (x : List UInt8) : joinL (T ++ [x]) = if T = [] then x else joinL T ++ [32] ++ x := by
  induction T with
  | nil => rfl
  | cons t T ih =>
    rw [if_neg (by simp)]
    by_cases hT : T = []
    · subst hT; simp [joinL]
    · rw [if_neg hT] at ih
      rw [List.cons_append, join_cons_ne _ _ (by simp), ih, join_cons_ne _ _ hT]; simp
theorem join_take_len (L : List (List UInt8)) : ∀ k, (joinL (L.take k)).length ≤ (joinL L).length := by
  induction L with
  | nil => intro k; simp
  | cons a L ih =>
    intro k
    cases k with
    | zero => simp [joinL]
    | succ k =>
      rw [List.take_succ_cons]
      by_cases hk : L.take k = []
      · rw [hk]
        by_cases hL : L = []
        · subst hL; simp [joinL]
        · rw [join_cons_ne _ _ hL]; simp [joinL]
      · have hL : L ≠ [] := by intro e; subst e; simp at hk
        rw [join_cons_ne _ _ hk, join_cons_ne _ _ hL]
        have := ih k; simp; omega
set_option maxHeartbeats 1000000 in
theorem rjoin_any (S : Nat → Prop) (v : Value) (L : List (List UInt8)) (w : World) (h : Vec w S 1 encS v L) (hn : L.length ≤ 1000000) (hj : (joinL L).length ≤ 1000000000) :
    Calls Tryz.prog 94 #[v] w fun e w' => e = .returned (strV (joinL L)) ∧ w = w' := by
  obtain ⟨a, cap, rfl⟩ := h.slice
  have HV := Lib.hid h; clear h
  go_enter Tryz.func94, Tryz.ntmps94
  go_wp2_with fail
  go_loop [3, 4] (fun o i => ∃ k : Nat, k ≤ L.length ∧ i = .int .i64 k ∧ o = strV (joinL (L.take k))) (fun _ i => L.length - (intOf i).toNat)
  case atStart => exact ⟨0, by omega, rfl, rfl⟩
  case round =>
    obtain ⟨k, hk, rfl, rfl⟩ := hrel
    have hlen := join_take_len L k
    by_cases hlt : k < L.length
    · have hq : decide ((k : Int) < L.length) = true := by simp; omega
      obtain ⟨b, off, rfl, _, hb, hc⟩ := vec_cell1 HV.out (by omega)
      have c1 := hc k hlt
      have htk := take_snocA L k hlt
      rw [show (default : List UInt8) = [] from rfl] at htk
      have hxl := join_take_len L (k + 1)
      have hsn := join_snoc (L.take k) (L.getD k [])
      rw [← htk] at hsn
      obtain ⟨x, hx⟩ : ∃ x, L.getD k [] = x := ⟨_, rfl⟩
      rw [hx] at c1 htk hsn
      have hx1 : x.length ≤ 1000000000 := by
        rw [hsn] at hxl
        split at hxl
        · omega
        · simp at hxl; omega
      have HSn := Lib.hid hsn
      clear hc htk hsn hx hxl
      by_cases hk0 : k = 0
      · subst hk0
        have e0 : joinL ([] : List (List UInt8)) = [] := rfl
        rw [Nat.add_zero] at c1
        go_wp2_with fail
        go_round
        case rel => exact ⟨1, by omega, by go_num, by rw [HSn.out, if_pos (by simp)]⟩
        case measure => simp [intOf]; omega
      · have hq0 : decide ((0 : Int) < k) = true := by simp; omega
        have hk1 : 0 < k := by omega
        have hne : L.take k ≠ [] := by intro e; have := congrArg List.length e; rw [List.length_take, List.length_nil] at this; omega
        have HNe := Lib.hid hne
        clear hk0 hne
        go_wp2_with fail
        go_round
        case rel => exact ⟨k + 1, by omega, by go_num, by rw [HSn.out, if_neg HNe.out]; simp⟩
        case measure => simp [intOf]; omega
    · obtain rfl : k = L.length := by omega
      have hq : decide ((L.length : Int) < L.length) = false := by simp
      have HF := Lib.hid (List.take_of_length_le (Nat.le_refl _) : L.take L.length = L)
      go_wp2_with fail
      go_ret
      exact ⟨rfl, rfl⟩
end Go.Proofs.YtfgoiojmbphmnaaGreatDoor
end
section
/- The reference of layer 1 (text): Same, Tokens, Valid. -/
set_option linter.unusedSimpArgs false
set_option linter.unusedVariables false
set_option maxRecDepth 100000
namespace Go.Proofs.YtfgoiojmbphmnaaGreatDoor
open Go.RowKit
attribute [local go_sem] toList_mk mk_size bytes_append
theorem list_ext0 {A B : List (List UInt8)} (hl : A.length = B.length) (h : ∀ j, j < A.length → A.getD j [] = B.getD j []) : A = B := by
  refine List.ext_getElem hl fun j h1 h2 => ?_
  have := h j h1
  rwa [List.getD, List.getD, List.getElem?_eq_getElem h1, List.getElem?_eq_getElem h2] at this
set_option maxHeartbeats 1000000 in
theorem rsame_any (S T : Nat → Prop) (va vb : Value) (A B : List (List UInt8)) (w : World) (hA : Vec w S 1 encS va A) (hB : Vec w T 1 encS vb B) (hn : A.length ≤ 1000000) (hm : B.length ≤ 1000000) :
    Calls Tryz.prog 32 #[va, vb] w fun e w' => e = .returned (.bool (A == B)) ∧ Below w.heap.size w w' := by
  obtain ⟨aa, ca, rfl⟩ := hA.slice
  obtain ⟨ab, cb, rfl⟩ := hB.slice
  have HA := Lib.hid hA; have HB := Lib.hid hB
  clear hA hB
  by_cases hl : A.length = B.length
  · have hq0 : ((A.length : Int) != (B.length : Int)) = false := by rw [hl]; simp
    have hq1 : (A.length != B.length) = false := by rw [hl]; simp
    have HL := Lib.hid hl
    have hl2 : A.length ≤ B.length := by omega
    clear hl
    go_enter Tryz.func32, Tryz.ntmps32
    go_wp2_with fail
    clear hq0 hq1
    go_loopw [5] (fun i wr => ∃ k : Nat, k ≤ A.length ∧ i = .int .i64 k ∧ Below w.heap.size w wr ∧ Hid (∀ j, j < k → A.getD j [] = B.getD j [])) (fun i _ => A.length - (intOf i).toNat)
    case atStart => exact ⟨0, by omega, rfl, Below.refl _ _, Lib.hid fun j hj => by omega⟩
    case round =>
      obtain ⟨k, hk, rfl, hbw, HE⟩ := hrel
      have HW := Lib.hid hbw
      by_cases hlt : k < A.length
      · have hq : decide ((k : Int) < A.length) = true := by simp; omega
        have hi1 : (k : Int) < (A.length : Int) := by omega
        have hi2 : (k : Int) < (B.length : Int) := by omega
        obtain ⟨b1, o1, rfl, _, hb1, hc1⟩ := vec_cell1 HA.out (by omega)
        obtain ⟨b2, o2, rfl, _, hb2, hc2⟩ := vec_cell1 HB.out (by omega)
        have c1 := (hbw.cell (p := ⟨b1, o1 + k, none⟩) hb1).trans (hc1 k hlt)
        have c2 := (hbw.cell (p := ⟨b2, o2 + k, none⟩) hb2).trans (hc2 k (by omega))
        obtain ⟨x, hx⟩ : ∃ x, A.getD k [] = x := ⟨_, rfl⟩
        obtain ⟨y, hy⟩ : ∃ y, B.getD k [] = y := ⟨_, rfl⟩
        rw [hx] at c1
        rw [hy] at c2
        have HX := Lib.hid hx; have HY := Lib.hid hy
        clear hc1 hc2 hx hy hbw
        by_cases he : x = y
        · subst he
          go_wp2_with fail
          go_quiet (fail)
          go_wp2_with fail
          go_roundw
          case rel => exact ⟨k + 1, by omega, by go_num, below_drewN HW.out _, Lib.hid fun j hj => by
            by_cases e : j = k
            · subst e; rw [HX.out, HY.out]
            · exact HE.out j (by omega)⟩
          case measure => simp [intOf]; try omega
        · have hne : (x != y) = true := by simpa using he
          have hne2 : (x == y) = false := by simpa using he
          have HNe := Lib.hid he
          clear he
          go_wp2_with fail
          go_quiet (fail)
          go_wp2_with fail
          go_ret
          refine ⟨ret_bool ?_, below_drewN HW.out _⟩
          have : A ≠ B := fun e => HNe.out (by rw [← HX.out, ← HY.out, e])
          simpa using this
      · have hq : decide ((k : Int) < A.length) = false := by simp; omega
        go_wp2_with fail
        go_ret
        refine ⟨ret_bool ?_, HW.out⟩
        have : A = B := list_ext0 HL.out fun j hj => HE.out j (by omega)
        rw [this]; simp
  · have hq0 : ((A.length : Int) != (B.length : Int)) = true := by simp; omega
    have hq1 : (A.length != B.length) = true := by simp; omega
    have HN := Lib.hid hl; clear hl
    go_enter Tryz.func32, Tryz.ntmps32
    go_wp2_with fail
    go_ret
    refine ⟨ret_bool ?_, Below.refl _ _⟩
    have : A ≠ B := fun e => HN.out (by rw [e])
    simpa using this
set_option maxHeartbeats 2000000 in
theorem rtokens_any (s : ByteArray) (w : World) (hs : s.size ≤ 1000000) :
    Calls Tryz.prog 75 #[.string s] w fun e w' => ∃ v, e = .returned v ∧ OwnAt w v (toks s.data.toList) w' := by
  have hl : s.data.toList.length = s.size := by simp
  have HL := Lib.hid hl; clear hl
  obtain ⟨l, hl⟩ : ∃ l, s.data.toList = l := ⟨_, rfl⟩
  rw [hl] at HL
  have HLs := Lib.hid hl
  rw [hl]
  clear hl
  go_enter Tryz.func75, Tryz.ntmps75
  go_wp2_with fail
  go_loopw [3, 4, 5] (fun v t i wr => ∃ (k : Nat) (C : List (List UInt8)) (p : List UInt8), k ≤ s.size + 1 ∧ i = .int .i64 k ∧ t = strV p ∧ OwnAt w v C wr ∧ p.length ≤ k ∧ C.length ≤ k ∧ (k = s.size + 1 → p = []) ∧ Hid (toks l = C ++ toksA p (l.drop k))) (fun _ _ i _ => s.size + 1 - (intOf i).toNat)
  case atStart => exact ⟨0, [], [], by omega, rfl, rfl, OwnAt.start w, by simp, by simp, by omega, Lib.hid rfl⟩
  case round =>
    obtain ⟨k, C, p, hk, rfl, rfl, ho, hp, hC, hpe, HT⟩ := hrel
    have HO := Lib.hid ho; have HPe := Lib.hid hpe
    clear ho hpe
    by_cases hlt : k < s.size
    · have hq : decide ((k : Int) ≤ s.size) = true := by simp; omega
      have hq2 : decide ((k : Int) < s.size) = true := by simp; omega
      have hdr := drop_one s k hlt
      rw [HLs.out] at hdr
      by_cases hsp : s[k] = 32
      · have e1 : ((s[k].toNat : Int) != 32) = false := by rw [hsp]; rfl
        rw [hsp] at hdr
        have HD := Lib.hid hdr
        clear hsp hdr
        by_cases hp0 : p = []
        · subst hp0
          go_wp2_with fail
          go_roundw
          case rel => exact ⟨k + 1, C, [], by omega, by go_num, rfl, HO.out, by simp, by omega, fun _ => rfl, Lib.hid (by rw [HT.out, HD.out, toksA_sp0])⟩
          case measure => simp [intOf]; try omega
        · have f1 : (p == []) = false := by simpa using hp0
          have f2 : p.isEmpty = false := by simpa using hp0
          have f3 : (p != []) = true := by simpa using hp0
          have HP0 := Lib.hid hp0; clear hp0
          have hone : ∀ u ∈ (#[strV p] : Array Value).toList, u.oneCell' = true := by intro u hu; simp at hu; subst hu; rfl
          go_wp2_with (at_builtin; refine wpList_append_new rfl _ _ 28 rfl w.heap.size 9 1 16 (.string ⟨#[]⟩) Tryz.underlying28 infoS rfl (by decide) (by decide) _ _ _ rfl HO.out.1 #[strV p] 1 rfl rfl hone (by omega) HO.out.2.size ?_; intro v2 w8 ho8 hw8)
          go_roundw
          case rel => exact ⟨k + 1, C ++ [p], [], by omega, by go_num, rfl, ⟨by rw [List.length_append, flat_snoc]; exact ho8, hw8 _ HO.out.2⟩, by simp, by rw [List.length_append, List.length_singleton]; omega, fun _ => rfl, Lib.hid (by rw [HT.out, HD.out, toksA_sp _ _ HP0.out]; simp)⟩
          case measure => simp [intOf]; try omega
      · have e1 : ((s[k].toNat : Int) != 32) = true := by
          simp only [bne_iff_ne, ne_eq]; intro e; apply hsp; rw [← UInt8.toNat_inj]; simp; omega
        have hext := ext_one s k hlt
        have HD := Lib.hid hdr; have HSp := Lib.hid hsp
        clear hsp hdr
        go_wp2_with fail
        go_roundw
        case rel => exact ⟨k + 1, C, p ++ [s[k]], by omega, by go_num, rfl, HO.out, by simp; omega, by omega, fun h => by omega, Lib.hid (by rw [HT.out, HD.out, toksA_ch _ _ _ HSp.out])⟩
        case measure => simp [intOf]; omega
    · by_cases hke : k = s.size
      · subst hke
        have hq : decide ((s.size : Int) ≤ s.size) = true := by simp
        have hq2 : decide ((s.size : Int) < s.size) = false := by simp
        have hdr : l.drop s.size = [] := List.drop_eq_nil_of_le (by rw [HL.out]; exact Nat.le_refl _)
        have hdr2 : l.drop (s.size + 1) = [] := List.drop_eq_nil_of_le (by rw [HL.out]; omega)
        have HD := Lib.hid hdr; have HD2 := Lib.hid hdr2
        clear hdr hdr2
        by_cases hp0 : p = []
        · subst hp0
          go_wp2_with fail
          go_roundw
          case rel => exact ⟨s.size + 1, C, [], by omega, by go_num, rfl, HO.out, by simp, by omega, fun _ => rfl, Lib.hid (by rw [HT.out, HD.out, HD2.out])⟩
          case measure => simp [intOf]; try omega
        · have f1 : (p == []) = false := by simpa using hp0
          have f2 : p.isEmpty = false := by simpa using hp0
          have f3 : (p != []) = true := by simpa using hp0
          have HP0 := Lib.hid hp0; clear hp0
          have hone : ∀ u ∈ (#[strV p] : Array Value).toList, u.oneCell' = true := by intro u hu; simp at hu; subst hu; rfl
          go_wp2_with (at_builtin; refine wpList_append_new rfl _ _ 28 rfl w.heap.size 9 1 16 (.string ⟨#[]⟩) Tryz.underlying28 infoS rfl (by decide) (by decide) _ _ _ rfl HO.out.1 #[strV p] 1 rfl rfl hone (by omega) HO.out.2.size ?_; intro v2 w8 ho8 hw8)
          go_roundw
          case rel => exact ⟨s.size + 1, C ++ [p], [], by omega, by go_num, rfl, ⟨by rw [List.length_append, flat_snoc]; exact ho8, hw8 _ HO.out.2⟩, by simp, by rw [List.length_append, List.length_singleton]; omega, fun _ => rfl, Lib.hid (by rw [HT.out, HD.out, HD2.out, toksA_end _ HP0.out]; simp [toksA])⟩
          case measure => simp [intOf]; try omega
      · have hq : decide ((k : Int) ≤ s.size) = false := by simp; omega
        obtain rfl : k = s.size + 1 := by omega
        obtain rfl : p = [] := HPe.out rfl
        have hdr2 : l.drop (s.size + 1) = [] := List.drop_eq_nil_of_le (by rw [HL.out]; omega)
        have hT := HT.out
        rw [hdr2] at hT
        have hT' : toks l = C := by rw [hT]; simp [toksA]
        rw [← hT'] at HO
        clear hT hT' hdr2 hke
        go_wp2_with fail
        go_ret
        exact ⟨_, rfl, HO.out⟩
end Go.Proofs.YtfgoiojmbphmnaaGreatDoor
end
section
/- The reference of layer 12 (schema): samePairs, Same. -/
set_option linter.unusedSimpArgs false
set_option linter.unusedVariables false
set_option maxRecDepth 100000
namespace Go.Proofs.YtfgoiojmbphmnaaGreatDoor
open Go.RowKit
attribute [local go_sem] toList_mk mk_size
theorem list_extD {α : Type} [Inhabited α] {A B : List α} (hl : A.length = B.length) (h : ∀ j, j < A.length → A.getD j default = B.getD j default) : A = B := by
  refine List.ext_getElem hl fun j h1 h2 => ?_
  have := h j h1
  rwa [List.getD, List.getD, List.getElem?_eq_getElem h1, List.getElem?_eq_getElem h2] at this
set_option maxHeartbeats 1000000 in
theorem rsamepairs_any (S T : Nat → Prop) (va vb : Value) (A B : List P2) (w : World) (hA : Vec w S 2 encP va A) (hB : Vec w T 2 encP vb B) (hn : A.length ≤ 1000000) (hm : B.length ≤ 1000000) :
    Calls Tryz.prog 77 #[va, vb] w fun e w' => e = .returned (.bool (A == B)) ∧ Below w.heap.size w w' := by
  obtain ⟨aa, ca, rfl⟩ := hA.slice
  obtain ⟨ab, cb, rfl⟩ := hB.slice
  have HA := Lib.hid hA; have HB := Lib.hid hB
  clear hA hB
  by_cases hl : A.length = B.length
  · have hq0 : ((A.length : Int) != (B.length : Int)) = false := by rw [hl]; simp
    have hq1 : (A.length != B.length) = false := by rw [hl]; simp
    have HL := Lib.hid hl
    have hl2 : A.length ≤ B.length := by omega
    clear hl
    go_enter Tryz.func77, Tryz.ntmps77
    go_wp2_with fail
    clear hq0 hq1
    go_loopw [5] (fun i wr => ∃ k : Nat, k ≤ A.length ∧ i = .int .i64 k ∧ Below w.heap.size w wr ∧ Hid (∀ j, j < k → A.getD j default = B.getD j default)) (fun i _ => A.length - (intOf i).toNat)
    case atStart => exact ⟨0, by omega, rfl, Below.refl _ _, Lib.hid fun j hj => by omega⟩
    case round =>
      obtain ⟨k, hk, rfl, hbw, HE⟩ := hrel
      have HW := Lib.hid hbw
      by_cases hlt : k < A.length
      · have hq : decide ((k : Int) < A.length) = true := by simp; omega
        have hi1 : (k : Int) < (A.length : Int) := by omega
        have hi2 : (k : Int) < (B.length : Int) := by omega
        obtain ⟨b1, o1, rfl, _, hb1, hc1⟩ := vec_cell2 HA.out (by omega)
        obtain ⟨b2, o2, rfl, _, hb2, hc2⟩ := vec_cell2 HB.out (by omega)
        have hd1 := hc1 k hlt
        have hd2 := hc2 k (by omega)
        obtain ⟨⟨x1, x2⟩, hx⟩ : ∃ x, A.getD k default = x := ⟨_, rfl⟩
        obtain ⟨⟨y1, y2⟩, hy⟩ : ∃ y, B.getD k default = y := ⟨_, rfl⟩
        rw [hx] at hd1
        rw [hy] at hd2
        have c1 := (hbw.cell (p := ⟨b1, o1 + k * 2, none⟩) hb1).trans (hd1 0 _ rfl)
        have c2 := (hbw.cell (p := ⟨b1, o1 + k * 2 + 1, none⟩) hb1).trans (hd1 1 _ rfl)
        have c3 := (hbw.cell (p := ⟨b2, o2 + k * 2, none⟩) hb2).trans (hd2 0 _ rfl)
        have c4 := (hbw.cell (p := ⟨b2, o2 + k * 2 + 1, none⟩) hb2).trans (hd2 1 _ rfl)
        have HX := Lib.hid hx; have HY := Lib.hid hy
        clear hc1 hc2 hx hy hbw hd1 hd2
        by_cases he : x1 = y1
        · subst he
          by_cases he2 : x2 = y2
          · subst he2
            go_wp2_with fail
            go_quiet (fail)
            go_wp2_with fail
            go_roundw
            case rel => exact ⟨k + 1, by omega, by go_num, below_drewN HW.out _, Lib.hid fun j hj => by
              by_cases e : j = k
              · subst e; rw [HX.out, HY.out]
              · exact HE.out j (by omega)⟩
            case measure => simp [intOf]; try omega
          · have hne : (x2 != y2) = true := by simpa using he2
            have hne2 : (x2 == y2) = false := by simpa using he2
            have HNe := Lib.hid he2
            clear he2
            go_wp2_with fail
            go_quiet (fail)
            go_wp2_with fail
            go_ret
            refine ⟨ret_bool ?_, below_drewN HW.out _⟩
            have : A ≠ B := fun e => HNe.out (by have := HX.out.symm.trans ((congrArg (fun L => L.getD k default) e).trans HY.out); exact congrArg Prod.snd this)
            simpa using this
        · have hne : (x1 != y1) = true := by simpa using he
          have hne2 : (x1 == y1) = false := by simpa using he
          have HNe := Lib.hid he
          clear he
          go_wp2_with fail
          go_quiet (fail)
          go_wp2_with fail
          go_ret
          refine ⟨ret_bool ?_, below_drewN HW.out _⟩
          have : A ≠ B := fun e => HNe.out (by have := HX.out.symm.trans ((congrArg (fun L => L.getD k default) e).trans HY.out); exact congrArg Prod.fst this)
          simpa using this
      · have hq : decide ((k : Int) < A.length) = false := by simp; omega
        go_wp2_with fail
        go_ret
        refine ⟨ret_bool ?_, HW.out⟩
        have : A = B := list_extD HL.out fun j hj => HE.out j (by omega)
        rw [this]; simp
  · have hq0 : ((A.length : Int) != (B.length : Int)) = true := by simp; omega
    have hq1 : (A.length != B.length) = true := by simp; omega
    have HN := Lib.hid hl; clear hl
    go_enter Tryz.func77, Tryz.ntmps77
    go_wp2_with fail
    go_ret
    refine ⟨ret_bool ?_, Below.refl _ _⟩
    have : A ≠ B := fun e => HN.out (by rw [e])
    simpa using this
end Go.Proofs.YtfgoiojmbphmnaaGreatDoor
end
section
/- The reference of layer 12 (schema): Same. -/
set_option linter.unusedSimpArgs false
set_option linter.unusedVariables false
set_option maxRecDepth 100000
namespace Go.Proofs.YtfgoiojmbphmnaaGreatDoor
open Go.RowKit
attribute [local go_sem] toList_mk mk_size
/-- the lists of two schemas are the same -/
def sameS (a b : SchemaL) : Bool := a.fields == b.fields && a.rules.titles == b.rules.titles && a.rules.nicks == b.rules.nicks && a.rules.streets == b.rules.streets
structure Few4 (s : SchemaL) : Prop where
  f : s.fields.length ≤ 1000000
  t : s.rules.titles.length ≤ 1000000
  n : s.rules.nicks.length ≤ 1000000
  s : s.rules.streets.length ≤ 1000000
set_option maxHeartbeats 4000000 in
theorem rsames_any (S T : Nat → Prop) (vf vt vn vs uf ut un us : Value) (a b : SchemaL) (w : World) (hA : SchemaAt w S vf vt vn vs a) (hB : SchemaAt w T uf ut un us b) (ha : Few4 a) (hb : Few4 b) :
    Calls Tryz.prog 38 #[.agg #[vf, vt, vn, vs], .agg #[uf, ut, un, us]] w fun e w' => e = .returned (.bool (sameS a b)) ∧ Below w.heap.size w w' := by
  obtain ⟨F, ⟨Ti, N, R⟩⟩ := a
  obtain ⟨G, ⟨Ui, M, Q⟩⟩ := b
  obtain ⟨a1, a2, a3, a4⟩ := hA
  obtain ⟨b1, b2, b3, b4⟩ := hB
  obtain ⟨k1, k2, k3, k4⟩ := ha
  obtain ⟨m1, m2, m3, m4⟩ := hb
  dsimp only at *
  obtain ⟨af, cf, rfl⟩ := a1.slice
  obtain ⟨ag, cg, rfl⟩ := b1.slice
  have A1 := Lib.hid a1; have A2 := Lib.hid a2; have A3 := Lib.hid a3; have A4 := Lib.hid a4
  have B1 := Lib.hid b1; have B2 := Lib.hid b2; have B3 := Lib.hid b3; have B4 := Lib.hid b4
  have HF := Lib.hid (show ∀ n : Bool, sameS ⟨F, ⟨Ti, N, R⟩⟩ ⟨G, ⟨Ui, M, Q⟩⟩ = n → Ending.returned (.bool n) = .returned (.bool (sameS ⟨F, ⟨Ti, N, R⟩⟩ ⟨G, ⟨Ui, M, Q⟩⟩)) from fun n h => by rw [h])
  have HB0 := Lib.hid (((Below.refl w.heap.size w).alloc (Nat.le_refl _) (.cells #[.slice af F.length cf, vt, vn, vs] 33)).alloc (by simp) (.cells #[.slice ag G.length cg, ut, un, us] 33))
  clear a1 a2 a3 a4 b1 b2 b3 b4
  by_cases hl : F.length = G.length
  · have hq0 : ((F.length : Int) != (G.length : Int)) = false := by rw [hl]; simp
    have hq1 : (F.length != G.length) = false := by rw [hl]; simp
    have HL := Lib.hid hl
    have hl2 : F.length ≤ G.length := by omega
    clear hl
    go_enter Tryz.func38, Tryz.ntmps38
    go_wp2_with fail
    clear hq0 hq1
    refine (rsame_any S T vt ut Ti Ui _ (A2.out.below HB0.out) (B2.out.below HB0.out) k2 m2).mono ?_
    obtain ⟨q, hq⟩ : ∃ q, (Ti == Ui) = q := ⟨_, rfl⟩
    rw [hq]
    have HQ := Lib.hid hq; clear hq
    rintro e w1 ⟨rfl, hb1⟩
    have X1 := blk_below (b := w.heap.size) (o := .cells #[.slice af F.length cf, vt, vn, vs] 33 (0, 0)) hb1 (by simp; omega) (blk_old (blk_new rfl))
    have X2 := blk_below (b := w.heap.size + 1) (o := .cells #[.slice ag G.length cg, ut, un, us] 33 (0, 0)) hb1 (by simp) (blk_new (by simp))
    have HBZ := Lib.hid (HB0.out.trans (hb1.mono HB0.out.size))
    obtain ⟨p0, p1, p2, p3⟩ := cells4 X1
    obtain ⟨r0, r1, r2, r3⟩ := cells4 X2
    have z1 := lt_of_blk X1; have z2 := lt_of_blk X2
    have HX1 := Lib.hid X1; have HX2 := Lib.hid X2
    clear hb1 X1 X2
    cases q
    · go_wp2_with fail
      go_ret
      exact ⟨HF.out _ (by unfold sameS; dsimp only; rw [HQ.out]; simp), HBZ.out⟩
    · go_wp2_with fail
      clear p0 p1 p2 p3 r0 r1 r2 r3
      go_loopw [5] (fun i wr => ∃ k : Nat, k ≤ F.length ∧ i = .int .i64 k ∧ Below w1.heap.size w1 wr ∧ Hid (∀ j, j < k → F.getD j default = G.getD j default)) (fun i _ => F.length - (intOf i).toNat)
      case atStart => exact ⟨0, by omega, rfl, Below.refl _ _, Lib.hid fun j hj => by omega⟩
      case round =>
        obtain ⟨k, hk, rfl, hbw, HE⟩ := hrel
        have HW := Lib.hid hbw
        obtain ⟨p0, p1, p2, p3⟩ := cells4 (blk_below hbw z1 HX1.out)
        obtain ⟨r0, r1, r2, r3⟩ := cells4 (blk_below hbw z2 HX2.out)
        have zr := hbw.size
        have z1r : w.heap.size < wr.heap.size := by omega
        have z2r : w.heap.size + 1 < wr.heap.size := by omega
        have HBR := Lib.hid (HBZ.out.trans (hbw.mono HBZ.out.size))
        by_cases hlt : k < F.length
        · have hq : decide ((k : Int) < F.length) = true := by simp; omega
          have hi1 : (k : Int) < (F.length : Int) := by omega
          have hi2 : (k : Int) < (G.length : Int) := by omega
          obtain ⟨b1, o1, rfl, _, hb1, hc1⟩ := vec_cell2 A1.out (by omega)
          obtain ⟨b2, o2, rfl, _, hb2, hc2⟩ := vec_cell2 B1.out (by omega)
          have hd1 := hc1 k hlt
          have hd2 := hc2 k (by omega)
          obtain ⟨⟨x1, x2⟩, hx⟩ : ∃ x, F.getD k default = x := ⟨_, rfl⟩
          obtain ⟨⟨y1, y2⟩, hy⟩ : ∃ y, G.getD k default = y := ⟨_, rfl⟩
          rw [hx] at hd1
          rw [hy] at hd2
          have c1 := (HBR.out.cell (p := ⟨b1, o1 + k * 2, none⟩) hb1).trans (hd1 0 _ rfl)
          have c2 := (HBR.out.cell (p := ⟨b1, o1 + k * 2 + 1, none⟩) hb1).trans (hd1 1 _ rfl)
          have c3 := (HBR.out.cell (p := ⟨b2, o2 + k * 2, none⟩) hb2).trans (hd2 0 _ rfl)
          have c4 := (HBR.out.cell (p := ⟨b2, o2 + k * 2 + 1, none⟩) hb2).trans (hd2 1 _ rfl)
          have HX := Lib.hid hx; have HY := Lib.hid hy
          clear hc1 hc2 hx hy hbw hd1 hd2
          by_cases he : x1 = y1
          · subst he
            by_cases he2 : x2 = y2
            · subst he2
              go_wp2_with fail
              go_quiet (fail)
              go_wp2_with fail
              go_roundw
              case rel => exact ⟨k + 1, by omega, by go_num, below_drewN HW.out _, Lib.hid fun j hj => by
                by_cases e : j = k
                · subst e; rw [HX.out, HY.out]
                · exact HE.out j (by omega)⟩
              case measure => simp [intOf]; try omega
            · have hne : (x2 != y2) = true := by simpa using he2
              have hne2 : (x2 == y2) = false := by simpa using he2
              have HNe := Lib.hid he2
              clear he2
              go_wp2_with fail
              go_quiet (fail)
              go_wp2_with fail
              go_ret
              refine ⟨HF.out _ ?_, below_drewN HBR.out _⟩
              have : F ≠ G := fun e => HNe.out (by have := HX.out.symm.trans ((congrArg (fun L => L.getD k default) e).trans HY.out); exact congrArg Prod.snd this)
              unfold sameS; dsimp only; rw [beq_false_of_ne this]; rfl
          · have hne : (x1 != y1) = true := by simpa using he
            have hne2 : (x1 == y1) = false := by simpa using he
            have HNe := Lib.hid he
            clear he
            go_wp2_with fail
            go_quiet (fail)
            go_wp2_with fail
            go_ret
            refine ⟨HF.out _ ?_, below_drewN HBR.out _⟩
            have : F ≠ G := fun e => HNe.out (by have := HX.out.symm.trans ((congrArg (fun L => L.getD k default) e).trans HY.out); exact congrArg Prod.fst this)
            unfold sameS; dsimp only; rw [beq_false_of_ne this]; rfl
        · have hq : decide ((k : Int) < F.length) = false := by simp; omega
          have HFG := Lib.hid (show F = G from list_extD HL.out fun j hj => HE.out j (by omega))
          clear hbw
          go_wp2_with fail
          refine (rsamepairs_any S T vn un N M _ (A3.out.below HBR.out) (B3.out.below HBR.out) k3 m3).mono ?_
          obtain ⟨q, hq⟩ : ∃ q, (N == M) = q := ⟨_, rfl⟩
          rw [hq]
          have HN := Lib.hid hq; clear hq
          rintro e w2 ⟨rfl, hb2⟩
          have HBS := Lib.hid (HBR.out.trans (hb2.mono HBR.out.size))
          obtain ⟨p0, p1, p2, p3⟩ := cells4 (blk_below hb2 z1r (blk_below HW.out z1 HX1.out))
          obtain ⟨r0, r1, r2, r3⟩ := cells4 (blk_below hb2 z2r (blk_below HW.out z2 HX2.out))
          have zs := hb2.size
          clear hb2
          cases q
          · go_wp2_with fail
            go_ret
            exact ⟨HF.out _ (by unfold sameS; dsimp only; rw [HN.out]; simp), HBS.out⟩
          · go_wp2_with fail
            refine (rsamepairs_any S T vs us R Q _ (A4.out.below HBS.out) (B4.out.below HBS.out) k4 m4).mono ?_
            rintro e w3 ⟨rfl, hb3⟩
            have HBT := Lib.hid (HBS.out.trans (hb3.mono HBS.out.size))
            clear hb3
            go_wp2_with fail
            go_ret
            exact ⟨HF.out _ (by unfold sameS; dsimp only; rw [HN.out, HQ.out, HFG.out]; simp), HBT.out⟩
  · have hq0 : ((F.length : Int) != (G.length : Int)) = true := by simp; omega
    have hq1 : (F.length != G.length) = true := by simp; omega
    have HN := Lib.hid hl; clear hl
    go_enter Tryz.func38, Tryz.ntmps38
    go_wp2_with fail
    go_ret
    refine ⟨HF.out _ ?_, HB0.out⟩
    have : F ≠ G := fun e => HN.out (by rw [e])
    unfold sameS; dsimp only; rw [beq_false_of_ne this]; rfl
end Go.Proofs.YtfgoiojmbphmnaaGreatDoor
end
section
/- The law SchemaBack, walked: for every list of numbers, place and byte it returns true and leaves what was there. -/
set_option linter.unusedSimpArgs false
set_option linter.unusedVariables false
set_option maxRecDepth 100000
namespace Go.Proofs.YtfgoiojmbphmnaaGreatDoor
open Go.RowKit Cal
attribute [local go_sem] toList_mk mk_size str_append
theorem sameS_refl (s : SchemaL) : sameS s s = true := by unfold sameS; simp
theorem few_valid {s : SchemaL} (h : checkS s = 0) : Few4 s := by
  obtain ⟨g1, _, g3⟩ := check_fields h
  obtain ⟨⟨n1, n2, n3⟩, _⟩ := check_zero g3
  exact ⟨by omega, by omega, by omega, by omega⟩
theorem text_ne {s : SchemaL} (h : checkS s = 0) : textL s ≠ [] := by
  obtain ⟨g1, _, _⟩ := check_fields h
  obtain ⟨F, r⟩ := s
  cases F with
  | nil => simp at g1
  | cons x F => unfold textL fieldLine; simp
set_option maxHeartbeats 16000000 in
theorem sback_walk (a : Option Addr) (n cap : Nat) (zs : List Int) (x y : Int) (w : World) (hr : IsRow .i64 w a n cap zs) (hx : (Lit.int .i64 x).wf = true) (hy : (Lit.int .u8 y).wf = true) (hm : MaxAt w) :
    Calls Tryz.prog 7 #[.slice a n cap, .int .i64 x, .int .u8 y] w fun e w' => e = .returned (.bool true) ∧ Below w.heap.size w w' := by
  have hx1 : -9223372036854775808 ≤ x ∧ x ≤ 9223372036854775807 := by simpa [Lit.wf, IntKind.min, IntKind.max, IntKind.signed, IntKind.bits] using hx
  have hy1 : 0 ≤ y ∧ y ≤ 255 := by simpa [Lit.wf, IntKind.min, IntKind.max, IntKind.signed, IntKind.bits] using hy
  obtain ⟨yb, hyb⟩ : ∃ b : UInt8, y = (b.toNat : Int) := ⟨UInt8.ofNat y.toNat, by rw [UInt8.toNat_ofNat']; omega⟩
  subst hyb
  clear hx hy hy1
  by_cases hn : n ≤ 400
  · have hd : decide (n ≤ 400) = true := by simpa using hn
    have HR := Lib.hid hr; clear hr
    go_enter Tryz.func7, Tryz.ntmps7
    go_wp2_with fail
    refine (awake_s _).mono ?_; rintro e w1 ⟨rfl, hb1⟩
    go_wp2_with fail
    refine (few_any a n cap _).mono ?_; rintro e w' ⟨rfl, rfl⟩
    go_wp2_with fail
    refine (new_any a n cap _).mono ?_; rintro e w' ⟨rfl, rfl⟩
    have Hdk := Lib.hid (deck_law (cap := cap) hn HR.out hb1)
    have HB1 := Lib.hid (hb1.alloc hb1.size (.cells #[.slice a n cap, .int .i64 0, .int .u64 11400714819323198485] 71))
    have zB1 := hb1.size
    clear hb1 HR hd
    go_wp2_with fail
    refine (schema_deal _ _ Hdk.out).mono ?_
    rintro e w2 ⟨vf, vt, vn, vs, s, rfl, hS, hSD, mv⟩
    obtain ⟨af, cf, rfl⟩ := hS.1.slice
    obtain ⟨at', ct, rfl⟩ := hS.2.1.slice
    obtain ⟨an, cn, rfl⟩ := hS.2.2.1.slice
    obtain ⟨as', cs, rfl⟩ := hS.2.2.2.slice
    have HB2 := Lib.hid (mv.base HB1.out zB1)
    have HM := Lib.hid hm
    have HCk := Lib.hid hSD.check
    have HS := Lib.hid hS.any
    clear hm hS mv hSD HB1 Hdk
    go_wp2_with fail
    refine (text_yes Any1 _ _ _ _ s _ (HS.out.below ((Below.refl _ _).alloc (Nat.le_refl _) _)) HCk.out).mono ?_
    rintro e w3 ⟨rfl, hb3⟩
    have HX3 := Lib.hid (blk_below (b := w2.heap.size) (o := .cells #[.slice af s.fields.length cf, .slice at' s.rules.titles.length ct, .slice an s.rules.nicks.length cn, .slice as' s.rules.streets.length cs] 33 (0, 0)) hb3 (by simp) (blk_new rfl))
    have HB3 := Lib.hid ((HB2.out.alloc HB2.out.size (.cells #[.slice af s.fields.length cf, .slice at' s.rules.titles.length ct, .slice an s.rules.nicks.length cn, .slice as' s.rules.streets.length cs] 33)).trans (hb3.mono (by have := HB2.out.size; simp; omega)))
    have HS3 := Lib.hid ((HS.out.below ((Below.refl _ _).alloc (Nat.le_refl _) (.cells #[.slice af s.fields.length cf, .slice at' s.rules.titles.length ct, .slice an s.rules.nicks.length cn, .slice as' s.rules.streets.length cs] 33))).below hb3)
    have HP := Lib.hid (parse_text HCk.out)
    have hlen := text_bound HCk.out
    have hne := text_ne HCk.out
    obtain ⟨l, hl⟩ : ∃ l, textL s = l := ⟨_, rfl⟩
    rw [hl] at hlen hne HP ⊢
    have q1 : (l == []) = false := by simpa using hne
    have q2 : l.isEmpty = false := by simpa using hne
    have hl1 : 1 ≤ l.length := List.length_pos_iff.2 hne
    have zX3 := lt_of_blk HX3.out
    clear hb3 hne hl HS HB2
    unfold pairV
    go_wp2_with fail
    refine (sparse_any l _ (HM.out.old HB3.out) (by omega)).mono ?_
    rw [HP.out]
    rintro e w4 ⟨uf, ut, un, us, rfl, hS4, hb4⟩
    dsimp only at hS4
    obtain ⟨bf, df, rfl⟩ := hS4.1.slice
    obtain ⟨bt, dt, rfl⟩ := hS4.2.1.slice
    obtain ⟨bn, dn, rfl⟩ := hS4.2.2.1.slice
    obtain ⟨bs, ds, rfl⟩ := hS4.2.2.2.slice
    have HX4 := Lib.hid (blk_below hb4 zX3 HX3.out)
    have HS4 := Lib.hid (HS3.out.below hb4)
    have HB4 := Lib.hid (HB3.out.trans (hb4.mono HB3.out.size))
    have HU4 := Lib.hid hS4.any
    have zX4 := lt_of_blk HX4.out
    clear hb4 hS4 HX3 HS3 HB3 zX3
    obtain ⟨cap2, wN, hcv, hBt, hbN, zN⟩ := bytes_conv (w4.alloc (.cells #[.slice bf s.fields.length df, .slice bt s.rules.titles.length dt, .slice bn s.rules.nicks.length dn, .slice bs s.rules.streets.length ds] 33)) l
    have HXN := Lib.hid (blk_below (b := w2.heap.size) hbN (by simp; omega) (blk_old HX4.out))
    have HUN := Lib.hid (blk_below (b := w4.heap.size) (o := (.cells #[.slice bf s.fields.length df, .slice bt s.rules.titles.length dt, .slice bn s.rules.nicks.length dn, .slice bs s.rules.streets.length ds] 33 (0, 0))) hbN (by simp) (blk_new rfl))
    have bA := ((Below.refl w4.heap.size w4).alloc (Nat.le_refl _) (.cells #[.slice bf s.fields.length df, .slice bt s.rules.titles.length dt, .slice bn s.rules.nicks.length dn, .slice bs s.rules.streets.length ds] 33)).trans (hbN.mono (by simp))
    have HBA := Lib.hid bA
    obtain ⟨K, hK⟩ : ∃ K, (w4.alloc (.cells #[.slice bf s.fields.length df, .slice bt s.rules.titles.length dt, .slice bn s.rules.nicks.length dn, .slice bs s.rules.streets.length ds] 33)).heap.size = K := ⟨_, rfl⟩
    have hKs : K = w4.heap.size + 1 := by rw [← hK]; simp
    rw [hK] at hcv hBt zN
    have HBt := Lib.hid hBt
    have HKs := Lib.hid hKs
    clear hK hBt hbN bA HX4 hKs
    go_wp2_with fail
    clear hcv
    refine (mod_some x l.length _ hx1.1 hx1.2 (by omega) (by omega)).mono ?_
    rintro e w5 ⟨r, rfl, hr, rfl⟩
    have hrl : r < l.length := by omega
    obtain ⟨cb, cfz⟩ := HBt.out.cell r hrl
    unfold byteV at cb
    have hcv := bytes_back (wN.setCell ⟨K, r, none⟩ (byteV yb)) K (l.set r yb) cap2 (HBt.out.set r yb)
    unfold byteV at hcv
    rw [List.length_set] at hcv
    obtain ⟨l2, hl2⟩ : ∃ l2, l.set r yb = l2 := ⟨_, rfl⟩
    rw [hl2] at hcv
    have hl2l : l2.length = l.length := by rw [← hl2]; simp
    have HL2 := Lib.hid hl2l
    have hBM := HBt.out.set r yb
    rw [hl2] at hBM
    unfold byteV at hBM
    have zK : w4.heap.size ≤ K := by rw [HKs.out]; omega
    have bM : Below w4.heap.size w4 (wN.setCell ⟨K, r, none⟩ (.int .u8 yb.toNat)) := HBA.out.setCell zK _
    have HMB := Lib.hid hBM
    have HXM := Lib.hid (blk_far (a := ⟨K, r, none⟩) (v := .int .u8 yb.toNat) HXN.out (by show w2.heap.size ≠ K; omega))
    have HUM := Lib.hid (blk_far (a := ⟨K, r, none⟩) (v := .int .u8 yb.toNat) HUN.out (by show w4.heap.size ≠ K; rw [HKs.out]; omega))
    have HSM := Lib.hid (HS4.out.below bM)
    have HVM := Lib.hid (HU4.out.below bM)
    have HBM := Lib.hid (HB4.out.trans (bM.mono HB4.out.size))
    clear hl2 hl2l hr hBM bM HXN HUN HBA HS4 HU4 HB4
    go_wp2_with fail
    clear hcv cb cfz
    refine (sparse_any l2 _ (HM.out.old HBM.out) (by rw [HL2.out]; omega)).mono ?_
    obtain ⟨⟨y', g⟩, hp⟩ : ∃ p, parseN l2 = p := ⟨_, rfl⟩
    rw [hp]
    have HP2 := Lib.hid hp
    rintro e w6 ⟨xf, xt, xn, xs, rfl, hS6, hb6⟩
    dsimp only at hS6
    obtain ⟨ef, gf, rfl⟩ := hS6.1.slice
    obtain ⟨et, gt, rfl⟩ := hS6.2.1.slice
    obtain ⟨en, gn, rfl⟩ := hS6.2.2.1.slice
    obtain ⟨es, gs, rfl⟩ := hS6.2.2.2.slice
    have HX6 := Lib.hid (blk_below hb6 (lt_of_blk HXM.out) HXM.out)
    have HU6 := Lib.hid (blk_below hb6 (lt_of_blk HUM.out) HUM.out)
    have HS6 := Lib.hid (HSM.out.below hb6)
    have HV6 := Lib.hid (HVM.out.below hb6)
    have HB6 := Lib.hid (HBM.out.trans (hb6.mono HBM.out.size))
    have HT6 := Lib.hid (HMB.out.below hb6)
    have HY6 := Lib.hid hS6.any
    clear hb6 hS6 HXM HUM HSM HVM HBM HMB hp
    go_wp2_with fail
    refine (stext_any Any1 _ _ _ _ y' _ (HY6.out.below ((Below.refl _ _).alloc (Nat.le_refl _) _))).mono ?_
    obtain ⟨⟨u, h⟩, hu⟩ : ∃ p, textN y' = p := ⟨_, rfl⟩
    rw [hu]
    have HU := Lib.hid hu
    unfold pairV
    rintro e w7 ⟨rfl, hb7⟩
    have bB := ((Below.refl w6.heap.size w6).alloc (Nat.le_refl _) (.cells #[.slice ef y'.fields.length gf, .slice et y'.rules.titles.length gt, .slice en y'.rules.nicks.length gn, .slice es y'.rules.streets.length gs] 33)).trans (hb7.mono (by simp))
    have hX7 := blk_below bB (lt_of_blk HX6.out) HX6.out
    have hU7 := blk_below bB (lt_of_blk HU6.out) HU6.out
    obtain ⟨a0, a1, a2, a3⟩ := cells4 hX7
    obtain ⟨c0, c1, c2, c3⟩ := cells4 hU7
    have zX7 := lt_of_blk hX7; have zU7 := lt_of_blk hU7
    have HS7 := Lib.hid (HS6.out.below bB)
    have HV7 := Lib.hid (HV6.out.below bB)
    have HB7 := Lib.hid (HB6.out.trans (bB.mono HB6.out.size))
    have HT7 := Lib.hid (HT6.out.below bB)
    have HFw := Lib.hid (few_valid HCk.out)
    clear hb7 bB hX7 hU7 HX6 HU6 HS6 HV6 HB6 HT6 HY6 hu
    go_wp2_with fail
    refine (rsames_any Any1 Any1 _ _ _ _ _ _ _ _ s s _ HV7.out HS7.out HFw.out HFw.out).mono ?_
    rw [sameS_refl]
    rintro e w8 ⟨rfl, hb8⟩
    have HB8 := Lib.hid (HB7.out.trans (hb8.mono HB7.out.size))
    have hcv := bytes_back w8 K l2 cap2 (HT7.out.below hb8)
    rw [HL2.out] at hcv
    clear hb8 a0 a1 a2 a3 c0 c1 c2 c3
    by_cases hg : g = 0
    · subst hg
      obtain ⟨k1, k2⟩ := parse_back HP2.out
      have hu : (u, h) = (l2, 0) := by rw [← HU.out]; unfold textN; rw [if_pos k1, k2]
      obtain ⟨rfl, rfl⟩ := Prod.mk.inj hu
      clear k1 k2 hu
      go_wp2_with fail
      go_ret
      exact ⟨rfl, HB8.out⟩
    · have q4 : (g != 0) = true := by simpa using hg
      clear hg hcv
      go_wp2_with fail
      go_ret
      exact ⟨rfl, HB8.out⟩
  · have hd : decide (n ≤ 400) = false := by simpa using hn
    clear hr hn
    go_enter Tryz.func7, Tryz.ntmps7
    go_wp2_with fail
    refine (awake_s _).mono ?_; rintro e w1 ⟨rfl, hb1⟩
    go_wp2_with fail
    refine (few_any a n cap _).mono ?_; rintro e w' ⟨rfl, rfl⟩
    go_wp2_with fail
    refine (awake_s _).mono ?_; rintro e w2 ⟨rfl, hb2⟩
    go_wp2_with fail
    go_ret
    exact ⟨rfl, hb1.trans (hb2.mono hb1.size)⟩
end Go.Proofs.YtfgoiojmbphmnaaGreatDoor
end
section
/- The wrap of a row with listed variables, the world's shape handed on to the contract. -/
namespace Go.Proofs.YtfgoiojmbphmnaaGreatDoor
open Go
theorem handed_shaped {H : Type} {enc : TypeId × Value → H} {a : Assume} {C : Checked} {os : Os} {f : FuncId} {fn : Func} {s : ChangeSpec} {conds : List PathCond} {apart fresh handsOn again : Bool} {X : World → Array Value → Prop}
    (hX : ∀ (w w' : World) (args : Array Value), w.heap = w'.heap → X w args → X w' args)
    (own : ownKnob C.prog.godebug = none) (started : os.Started) (noInit : C.prog.inits.idxOf? f = none) (hfn : C.prog.funcs[f]? = some fn)
    (witness : ∃ (w : World) (tape : Tape) (i : Input), w.os = os ∧ (w.forCall tape i).Shaped C.prog ∧ i.vars = [] ∧ Input.okWide C.prog (w.forCall tape i) .any w.heap.size f i ∧
      ((s.pre enc C.prog fn conds apart (w.forCall tape i).memory i.args ∧ X (w.forCall tape i).memory i.args) ∧ sizedMet enc C.prog fn (OpenSpec.ofChange s) apart (w.forCall tape i).memory i.args) ∧ a.holds C.prog (lone (Frame.enter C.prog f i.args .normal) [] (w.forCall tape i)))
    (contract : ∀ (W : World) (base : Nat) (args : Array Value) (ds gs : List (DataW H)) (before : List MemPlace),
      (∀ (j : Nat) t v, fn.params[j]? = some t → args[j]? = some v → Value.okWide C.prog W .any base t v) →
      DataW.Whole enc C.prog fn.params.toList s.vars apart W args.toList ds gs before →
      X W args → W.ShapedOpen C.prog →
      Calls C.prog f args W fun e W' => ∃ v, e = .returned v ∧ s.post enc C.prog fn apart fresh handsOn again W args v W') :
    ReturnsInHanded a C os f .any (fun w args => (s.pre enc C.prog fn conds apart w args ∧ X w args) ∧ sizedMet enc C.prog fn (OpenSpec.ofChange s) apart w args) (s.post enc C.prog fn apart fresh handsOn again) := by
  refine returnsInHanded_of_calls own started noInit witness ?_
  intro w tape i _ hsh _ hok hpre hholds
  obtain ⟨_, _, _, fn', hfn', _, _, _, _, hval⟩ := hok
  obtain rfl : fn' = fn := Option.some.inj (hfn'.symm.trans hfn)
  obtain ⟨⟨⟨ds, gs, before, hw, hc⟩, hx⟩, hz⟩ := hpre
  refine (contract (w.forCall tape i) w.heap.size i.args ds gs before hval (DataW.Whole.of_heap (w' := w.forCall tape i) (by rfl) hw) (hX _ _ _ (by rfl) hx) hsh).mono fun e W' ⟨v, he, hp⟩ => ?_
  subst he
  exact ChangeSpec.post_blind hp
end Go.Proofs.YtfgoiojmbphmnaaGreatDoor
end
section
namespace Go.Proofs.YtfgoiojmbphmnaaGreatDoor.schemaBack
open Go.ChangeShapes Go.WideShapes Go.ChangeAt Go.RowKit Go.Joins
open Go.ChangeMaps (open_string shut_string)
set_option linter.unusedVariables false

theorem own : ownKnob Tryz.prog.godebug = none := by kernel_rfl
theorem laidOut : laidOutB Tryz.prog = true := by kernel_rfl

set_option maxRecDepth 100000 in
theorem lifted (os : Os) (started : os.Started) (H : Type) (enc : TypeId × Value → H) :
    ReturnsInHanded {} Tryz.checked os 7 .any (fun w args => (Rows.schemaBackSpec.pre enc Tryz.prog Tryz.f7 Rows.schemaBackRow.domain false w args ∧ laidMetH Tryz.prog Rows.schemaBackRow.laid w) ∧ sizedMet enc Tryz.prog Tryz.f7 (OpenSpec.ofChange Rows.schemaBackSpec) false w args) (Rows.schemaBackSpec.post enc Tryz.prog Tryz.f7 false true false false) := by
  refine handed_shaped (C := Tryz.checked) (X := fun w _ => laidMetH Tryz.prog Rows.schemaBackRow.laid w) (fun _ _ _ hh h => h.of_heap hh) own started (by kernel_rfl) Tryz.func7
    (ChangeSpec.witness_shaped (enc := enc) (C := Tryz.checked) (os := os) (X := fun w _ => laidMetH Tryz.prog Rows.schemaBackRow.laid w) false (World.laidAll Tryz.prog os Rows.schemaBackRow.laid) #[.slice none 0 0, .int .i64 0, .int .u8 0] 8 (World.laidAll_os _ _ _)
      (World.shaped_of_ZipB (by kernel_rfl) (by kernel_rfl)) (by kernel_rfl) (by kernel_rfl) (by kernel_rfl)
      (by rw [MakeChecks.laidMetH_plain _ _ _ (by kernel_rfl)]; exact laidMet_laidAll _ (by kernel_rfl) (by kernel_rfl))) ?_
  intro W base args ds gs before hval0 hW hLaid hsh
  have hval : ∀ (j : Nat) t v, Tryz.f7.params[j]? = some t → args[j]? = some v → Value.okWide Tryz.prog W .any base t v := hval0
  have hW' := hW
  obtain ⟨p, q, hA0, hV, rfl, hfz, hnd⟩ := hW
  have hA : DataW.TrodAll enc Tryz.prog W 0 (fun _ => true) true Tryz.f7.params.toList args.toList ds p := hA0
  rw [Tryz.params7] at hA hval
  obtain ⟨v0, vs0, d0, ds0, p0, q0, hargs, rfl, rfl, h0, r0⟩ := trodAll_cons hA
  obtain ⟨v1, vs1, d1, ds1, p1, q1, rfl, rfl, rfl, h1, r1⟩ := trodAll_cons r0
  obtain ⟨v2, vs2, d2, ds2, p2, q2, rfl, rfl, rfl, h2, r2⟩ := trodAll_cons r1
  obtain ⟨rfl, rfl, rfl⟩ := trodAll_nil r2
  obtain rfl : args = #[v0, v1, v2] := by cases args; simp_all
  obtain ⟨rfl, rfl⟩ := trodVars_none hV
  obtain ⟨a0, len0, cap0, rfl⟩ := okWide_slice Tryz.underlying22 (hval 0 22 v0 rfl rfl)
  have k0 := h0
  have lt0 : ∀ x ∈ p0, x.block < W.heap.size := by obtain ⟨m, hm⟩ := k0; exact DataW.trod_lt m _ _ _ hm
  obtain ⟨z0, w0⟩ : ∃ zs, IsRow .i64 W a0 len0 cap0 zs := by
    obtain ⟨fuel, hf⟩ := h0
    rcases open_ints Tryz.underlying22 Tryz.underlying3 (by kernel_rfl) hf with ⟨hcs, _⟩ | ⟨x, l, c, zs, hcs, _, hl, hm, hz, _, hcell, hwz⟩
    · simp [Value.cells] at hcs
      obtain ⟨rfl, rfl, rfl⟩ := hcs
      exact ⟨[], .inl ⟨rfl, rfl, rfl, rfl⟩⟩
    · simp [Value.cells] at hcs
      obtain ⟨rfl, rfl, rfl⟩ := hcs
      exact ⟨zs, .inr ⟨_, rfl, hl, hm, by simpa using hz, hcell, hwz⟩⟩
  have k1 := h1
  have lt1 : ∀ x ∈ p1, x.block < W.heap.size := by obtain ⟨m, hm⟩ := k1; exact DataW.trod_lt m _ _ _ hm
  obtain ⟨x1, rfl, hd1, hp1, w1⟩ := open_int Tryz.underlying3 (hval 1 3 v1 rfl rfl) h1
  have k2 := h2
  have lt2 : ∀ x ∈ p2, x.block < W.heap.size := by obtain ⟨m, hm⟩ := k2; exact DataW.trod_lt m _ _ _ hm
  obtain ⟨x2, rfl, hd2, hp2, w2⟩ := open_int Tryz.underlying5 (hval 2 5 v2 rfl rfl) h2
  clear hA0 hval0
  refine (sback_walk a0 len0 cap0 z0 x1 x2 W w0 w1 w2 (Tryz.laysM145.s1_3 W hsh)).mono fun e W' ⟨he, bel⟩ => ?_
  subst he
  exact ⟨_, rfl, _, _, _, [], _, [], hW', trodAll_mk1 (shut_bool Tryz.underlying4 _), (trodAll_cons_mk (Below.trod laidOut (by kernel_rfl) (of_decide_eq_true (by kernel_rfl)) k0 bel lt0) (trodAll_cons_mk (Below.trod laidOut (by kernel_rfl) (of_decide_eq_true (by kernel_rfl)) k1 bel lt1) (trodAll_cons_mk (Below.trod laidOut (by kernel_rfl) (of_decide_eq_true (by kernel_rfl)) k2 bel lt2) trodAll_mk0))), rfl, bel.frame _, fun h => by cases h⟩

theorem over : Rows.schemaBackRow.holds Tryz.pinned (OpenSpec.ofChange Rows.schemaBackSpec) :=
  OpenClaim.holds_of_wide 7 Tryz.f7 rfl rfl rfl rfl rfl rfl rfl ⟨rfl, rfl, rfl, rfl, rfl⟩ rfl rfl rfl rfl rfl (by kernel_rfl) Tryz.func7 (by kernel_rfl)
    (of_decide_eq_true (by kernel_rfl)) (by unfold Func.isWrapper; first | (rw [if_pos (by decide +kernel)]; kernel_rfl) | (rw [if_neg (by decide +kernel)]; exact ⟨rfl, rfl⟩))
    (fun os started H enc _ => lifted os started H enc)

/-- THE STATEMENT -/
theorem proved : Rows.SchemaBackCardSaid :=
  Claim7.holds_tied_plain_at .later [] [.data, .pinned] true (true, "d80584c64c476ce7af35335222562c676e5987e6d7256348884298adb1664843") false
    over (fun _ h => by cases h) (by kernel_rfl) (fun _ h => by cases h) schemaBack_row_tie rfl ⟨rfl, rfl⟩ (by kernel_rfl) rfl
    (fun f fn hf hfn => by
      obtain rfl : f = 7 := Option.some.inj ((show Tryz.prog.funcNamed Rows.schemaBackRow.func = some 7 by kernel_rfl).symm.trans hf) |>.symm
      obtain rfl : fn = Tryz.f7 := (Option.some.inj (Tryz.func7.symm.trans hfn)).symm
      exact ⟨by kernel_rfl, fun j t ht => by
        rw [Tryz.params7] at ht
        have hm : t ∈ [22, 3, 5] := by simpa using Array.mem_of_getElem? ht
        have hall : ([22, 3, 5].all fun u => !Tryz.prog.wantsStandIn u) = true := by kernel_rfl
        exact (show Tryz.prog.wantsStandIn t = false by simpa using List.all_eq_true.1 hall t hm)⟩)
    (by kernel_rfl)
#print axioms proved
end Go.Proofs.YtfgoiojmbphmnaaGreatDoor.schemaBack
end
