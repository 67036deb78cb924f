/- Parts of one proof: LawB, LawC, RefSipA, RefSipB, RefSipC. -/
import Derived.Test.YthdolmofeeniaaaGreatDoorPartBk6
section
/- What the laws of blocks share: where they stand; a part of a record; when a record has a hash. -/
set_option linter.unusedSimpArgs false
set_option linter.unusedVariables false
set_option maxRecDepth 100000
namespace Go.Proofs.YthdolmofeeniaaaGreatDoor
open Go.RowKit Cal
attribute [local go_sem] toList_mk mk_size bytes_append
/-- the deck in block D, the schema in block y, the block keys, the secret in block kb -/
structure LbAt (D : Nat) (w : World) (y kb : Nat) (S : Nat → Prop) (vf vt vn vs : Value) (s : SchemaL) (kv : Value) (Ks : List (List (Int × Int))) (k : Int × Int) (wr : World) : Prop where
  m : Moved D w wr
  b : wr.heap[y]? = some (.cells #[vf, vt, vn, vs] 33 (0, 0))
  kk : wr.heap[kb]? = some (.cells #[.int .u64 k.1, .int .u64 k.2] 39 (0, 0))
  s : SchemaAt wr S vf vt vn vs s
  ks : KeysVec wr S kv Ks
  ne : ∀ b, S b → b ≠ D
  yD : y ≠ D
  kD : kb ≠ D
theorem KeysVec.moved {D : Nat} {w w' : World} {S : Nat → Prop} {v : Value} {L : List (List (Int × Int))} (h : KeysVec w S v L) (hS : ∀ b, S b → b ≠ D) (m : Moved D w w') : KeysVec w' S v L :=
  h.move m.size fun b hb hs => ⟨m.grown.block b hb (by have := hS b hs; simp; omega), hs⟩
theorem LbAt.moved {D : Nat} {w : World} {y kb : Nat} {S : Nat → Prop} {vf vt vn vs : Value} {s : SchemaL} {kv : Value} {Ks : List (List (Int × Int))} {k : Int × Int} {wr wd : World} (h : LbAt D w y kb S vf vt vn vs s kv Ks k wr) (m : Moved D wr wd) : LbAt D w y kb S vf vt vn vs s kv Ks k wd :=
  ⟨h.m.trans m, m.blk h.yD h.b, m.blk h.kD h.kk, h.s.moved h.ne m, h.ks.moved h.ne m, h.ne, h.yD, h.kD⟩
theorem LbAt.below {D : Nat} {w : World} {y kb : Nat} {S : Nat → Prop} {vf vt vn vs : Value} {s : SchemaL} {kv : Value} {Ks : List (List (Int × Int))} {k : Int × Int} {wr wd : World} (h : LbAt D w y kb S vf vt vn vs s kv Ks k wr) (hb : Below wr.heap.size wr wd) : LbAt D w y kb S vf vt vn vs s kv Ks k wd :=
  h.moved ((Moved.start h.m.deck).below hb)
/-- a part of a valid record, for a component of a valid block key -/
theorem part_of {S : Nat → Prop} {vf vt vn vs : Value} {s : SchemaL} {K : List (Int × Int)} {r : RecL} {sv : Value} {w : World} (h : SchemaAt w S vf vt vn vs s) (hv : Vec w Any1 1 encS sv r.vals) (hk : KeyOk s.fields K) (hr : checkN s r = 0) (hs : ∀ x ∈ r.vals, x.length ≤ 64) (hn : s.fields.length ≤ 1000) (c : Int × Int) (hc : c ∈ K) :
    Calls Tryz.prog 16 #[.agg #[vf, vt, vn, vs], .agg #[.int .i64 c.1, .int .i64 c.2], .agg #[.int .i64 r.id, .int .i64 r.ver, sv]] w fun e w' => e = .returned (strV (compN r.vals c)) ∧ Below w.heap.size w w' := by
  obtain ⟨f0, f1, f2⟩ := hk.fit c hc
  obtain ⟨_, _, g2, g3, g4⟩ := (comps_ok hk hr hs).fit c hc
  exact bpart_yes S vf vt vn vs s c r sv w h hv hr hs hn f0 f1 f2 g2 g3 g4
/-- all components of a key have a part -/
def fullB (vals : List (List UInt8)) (K : List (Int × Int)) : Bool := K.all fun c => decide (compN vals c ≠ [])
theorem all_snoc {α : Type} (K : List α) (p : α → Bool) (j : Nat) (h : j < K.length) : (K.take (j + 1)).all p = ((K.take j).all p && p K[j]) := by
  rw [List.take_succ_eq_append_getElem h, List.all_append]; simp
theorem has_emptyB (L : List (List UInt8)) : hasB L [] = decide ([] ∈ L) := by
  unfold hasB
  rw [Bool.eq_iff_iff, List.any_eq_true, decide_eq_true_iff]
  constructor
  · rintro ⟨x, hx, he⟩
    have : x = [] := by simpa using he
    rw [← this]; exact hx
  · intro h; exact ⟨[], h, rfl⟩
theorem hash_full (k : Int × Int) (i : Nat) (vals : List (List UInt8)) (K : List (Int × Int)) : (bhashN k i (K.map (compN vals))).2 = fullB vals K := by
  unfold bhashN fullB
  by_cases h : ∀ c ∈ K, compN vals c ≠ []
  · have h1 : hasB (K.map (compN vals)) [] = false := by
      rw [has_emptyB]
      simp only [decide_eq_false_iff_not, List.mem_map, not_exists, not_and]
      exact fun c hc e => h c hc e
    rw [h1, if_neg (by decide)]
    symm
    rw [List.all_eq_true]
    exact fun c hc => by simpa using h c hc
  · have h1 : hasB (K.map (compN vals)) [] = true := by
      rw [has_emptyB, decide_eq_true_eq, List.mem_map]
      have : ∃ c, c ∈ K ∧ compN vals c = [] := Classical.byContradiction fun h2 => h fun c hc e => h2 ⟨c, hc, e⟩
      exact this
    rw [h1, if_pos rfl]
    symm
    rw [List.all_eq_false]
    have : ∃ c, c ∈ K ∧ compN vals c = [] := Classical.byContradiction fun h2 => h fun c hc e => h2 ⟨c, hc, e⟩
    obtain ⟨c, hc, e⟩ := this
    exact ⟨c, hc, by simp [e]⟩
theorem hash_none {k : Int × Int} {i : Nat} {L : List (List UInt8)} (h : (bhashN k i L).2 = false) : (bhashN k i L).1 = 0 := by
  unfold bhashN at h ⊢
  split at h
  · next h1 => rw [if_pos h1]
  · cases h
end Go.Proofs.YthdolmofeeniaaaGreatDoor
end
section
/- recordlinkmake: Records: some valid records; where a law of blocks stands before it has a key. -/
set_option linter.unusedSimpArgs false
set_option linter.unusedVariables false
set_option maxRecDepth 100000
namespace Go.Proofs.YthdolmofeeniaaaGreatDoor
open Go.RowKit Cal
attribute [local go_sem] toList_mk mk_size bytes_append
/-- the deck in block D, the schema in block y, the block keys -/
structure LsAt (D : Nat) (w : World) (y : Nat) (S : Nat → Prop) (vf vt vn vs : Value) (s : SchemaL) (kv : Value) (Ks : List (List (Int × Int))) (wr : World) : Prop where
  m : Moved D w wr
  b : wr.heap[y]? = some (.cells #[vf, vt, vn, vs] 33 (0, 0))
  s : SchemaAt wr S vf vt vn vs s
  ks : KeysVec wr S kv Ks
  ne : ∀ b, S b → b ≠ D
  yD : y ≠ D
theorem LsAt.moved {D : Nat} {w : World} {y : Nat} {S : Nat → Prop} {vf vt vn vs : Value} {s : SchemaL} {kv : Value} {Ks : List (List (Int × Int))} {wr wd : World} (h : LsAt D w y S vf vt vn vs s kv Ks wr) (m : Moved D wr wd) : LsAt D w y S vf vt vn vs s kv Ks wd :=
  ⟨h.m.trans m, m.blk h.yD h.b, h.s.moved h.ne m, h.ks.moved h.ne m, h.ne, h.yD⟩
theorem LsAt.key {D : Nat} {w : World} {y kb : Nat} {S : Nat → Prop} {vf vt vn vs : Value} {s : SchemaL} {kv : Value} {Ks : List (List (Int × Int))} {k : Int × Int} {wr : World} (h : LsAt D w y S vf vt vn vs s kv Ks wr) (hk : wr.heap[kb]? = some (.cells #[.int .u64 k.1, .int .u64 k.2] 39 (0, 0))) (hD : kb ≠ D) : LbAt D w y kb S vf vt vn vs s kv Ks k wr :=
  ⟨h.m, h.b, hk, h.s, h.ks, h.ne, h.yD, hD⟩
theorem infoR : (Tryz.prog.info? 42).map (fun i => (i.zero, i.size, i.bytes)) = some (some (.agg #[.int .i64 0, .int .i64 0, .slice none 0 0]), 3, 40) := by kernel_rfl
theorem one_encRV : ∀ x : RV, ∀ u ∈ encRV x, u.oneCell' = true := by intro x u hu; simp at hu; rcases hu with rfl | rfl | rfl <;> rfl
/-- records that are being dealt -/
structure ROut (D : Nat) (W : World) (s : SchemaL) (v : Value) (C : List RV) (id : Int) (wr : World) : Prop where
  own : OwnM D 42 3 encRV W v C wr
  vals : ∀ x ∈ C, Vec wr (OffRow W.heap.size v) 1 encS (.slice x.a x.n x.c) x.vals
  ok : ∀ x ∈ C, checkN s (pR x) = 0 ∧ ∀ y ∈ x.vals, y.length ≤ 64
  asc : C.Pairwise fun x y => x.id < y.id
  le : ∀ x ∈ C, x.id ≤ id
  id0 : 0 ≤ id
  id3 : id ≤ 3 * C.length
theorem ROut.nil {D : Nat} {W wr : World} {s : SchemaL} (m : Moved D W wr) : ROut D W s (.slice none 0 0) [] 0 wr := ⟨OwnM.nil m, fun x h => by simp at h, fun x h => by simp at h, List.Pairwise.nil, fun x h => by simp at h, by omega, by simp⟩
theorem ROut.moved {D : Nat} {W wr wx : World} {s : SchemaL} {v : Value} {C : List RV} {id : Int} (h : ROut D W s v C id wr) (m : Moved D wr wx) : ROut D W s v C id wx :=
  ⟨h.own.moved m, fun x hx => (h.vals x hx).move m.size fun b hb hs => ⟨m.grown.block b hb (by have := h.own.2.lt; have := hs.1; simp; omega), hs⟩, h.ok, h.asc, h.le, h.id0, h.id3⟩
theorem recs_ok {s : SchemaL} {C : List RV} (h0 : checkS s = 0) (ok : ∀ x ∈ C, checkN s (pR x) = 0 ∧ ∀ y ∈ x.vals, y.length ≤ 64) (asc : C.Pairwise fun x y => x.id < y.id) (hl : C.length ≤ 64) : RecsOk s (C.map pR) := by
  refine ⟨?_, fun r hr => ?_⟩
  · unfold allN
    rw [if_pos h0, if_pos (by simpa using hl)]
    refine allA_yes _ none (fun r hr => ?_) (fun q r hq => by cases hq) (fun j hj => ?_)
    · obtain ⟨x, hx, rfl⟩ := List.mem_map.1 hr
      have := (ok x hx).1
      unfold checkN at this
      rwa [if_pos h0] at this
    · rw [List.getElem_map, List.getElem_map]
      exact List.pairwise_iff_getElem.1 asc j (j + 1) _ _ (by omega)
  · obtain ⟨x, hx, rfl⟩ := List.mem_map.1 hr
    exact (ok x hx).2
def RecordsPost (D : Nat) (s : SchemaL) (most : Nat) (w : World) (e : Ending) (w' : World) : Prop := ∃ v R, e = .returned v ∧ RecsVec w' (fun b => w.heap.size ≤ b) v R ∧ RecsOk s R ∧ R.length ≤ most ∧ (R.Pairwise fun x y => x.id < y.id) ∧ Moved D w w'
set_option maxHeartbeats 8000000 in
theorem records_deal (D : Nat) (S : Nat → Prop) (vf vt vn vs : Value) (s : SchemaL) (most : Nat) (w : World) (h : DeckAt w D) (hs : SchemaAt w S vf vt vn vs s) (hS : ∀ b, S b → b ≠ D) (hd : SchemaD s) (hm : most ≤ 64) :
    Calls Tryz.prog 23 #[.pointer (some ⟨D, 0, none⟩), .agg #[vf, vt, vn, vs], .int .i64 most] w (RecordsPost D s most w) := by
  have zD := h.lt
  have M0 := Lib.hid (Moved.start h); clear h
  have HS := Lib.hid hs; have HSD := Lib.hid hd; have HSne := Lib.hid hS
  clear hs hd hS
  go_enter Tryz.func23, Tryz.ntmps23
  go_wp2_with fail
  refine wp_calls_world (fun W hW => ?_)
  have hm0 : Moved D w W := by rw [hW]; exact M0.out.alloc _
  have hb0 : Below w.heap.size w W := by rw [hW]; exact (Below.refl w.heap.size w).alloc (Nat.le_refl _) _
  have hs0 : W.heap[w.heap.size]? = some (.cells #[vf, vt, vn, vs] 33 (0, 0)) := by rw [hW]; exact blk_new rfl
  have hzW : W.heap.size = w.heap.size + 1 := by rw [hW]; simp
  clear hW
  have HM := Lib.hid hm0; have HS0 := Lib.hid hs0; have HSW := Lib.hid (HS.out.below hb0); have HZW := Lib.hid hzW
  clear hm0 hs0 hb0 hzW
  refine (next_any D _ (most + 1) HM.out.deck (by omega) (by omega)).mono ?_
  rintro e w1 ⟨q, rfl, q0, q1, mv⟩
  obtain ⟨q, rfl⟩ := Int.eq_ofNat_of_zero_le q0
  have MW := Lib.hid mv
  clear mv
  go_wp2_with fail
  go_loopw [7, 8, 9] (fun v t i wr => ∃ (j : Nat) (id : Int) (C : List RV), t = .int .i64 id ∧ i = .int .i64 j ∧ C.length + j = q ∧ ROut D W s v C id wr) (fun _ _ i _ => (intOf i).toNat)
  case atStart => exact ⟨q, 0, [], rfl, rfl, by simp, ROut.nil MW.out⟩
  case round =>
    obtain ⟨j, id, C, rfl, rfl, hj, ho⟩ := hrel
    have HO := Lib.hid ho; have HJ := Lib.hid hj; clear ho hj
    have hzr := HO.out.own.2.size
    by_cases hlt : 0 < j
    · have hq : decide ((0 : Int) < (j : Int)) = true := by simp; omega
      have hCl : C.length ≤ 63 := by have := HJ.out; omega
      have hjq : j ≤ 65 := by have := HJ.out; omega
      have hi0 := HO.out.id0; have hi3 := HO.out.id3
      go_wp2_with fail
      refine (next_any D _ 3 HO.out.own.2.deck (by omega) (by omega)).mono ?_
      rintro e w2 ⟨x, rfl, x0, x1, mv⟩
      have HO2 := Lib.hid (HO.out.moved mv)
      have hsx := HO2.out.own.2.blk (k := w.heap.size) (by omega) HS0.out
      have HSX := Lib.hid hsx
      obtain ⟨s0, s1, s2, s3⟩ := cellsS hsx
      have hzs := lt_of_blk hsx
      clear mv HO hsx
      go_wp2_with fail
      refine (record_deal D S _ _ _ _ s (id + (1 + x)) w2 HO2.out.own.2.deck (HSW.out.moved HSne.out HO2.out.own.2) HSne.out HSD.out (by omega) (by omega)).mono ?_
      rintro e w3 ⟨_, r, rfl, ⟨sv, rfl, hv⟩, hid, hck, hsh, mv⟩
      obtain ⟨av, cv, rfl⟩ := hv.slice
      have hzw2 := HO2.out.own.2.size
      have hown6 : ∀ x, w2.heap.size ≤ x → some x ≠ u7.ownBlock := by
        intro x hx'
        rcases HO2.out.own.1.2 with ⟨h0, _⟩ | ⟨g, cap, cur, h0, hg, hh, _⟩
        · rw [h0]; simp [Value.ownBlock]
        · rw [h0]; have := lt_of_blk hh; simp [Value.ownBlock]; omega
      have HO3 := Lib.hid (HO2.out.moved mv)
      have HO4 := Lib.hid (HO3.out.own.moved ((Moved.start HO3.out.own.2.deck).alloc (.cells #[.int .i64 r.id, .int .i64 r.ver, .slice av r.vals.length cv] 42)))
      have HR4 := Lib.hid (show Reads (w3.alloc (.cells #[.int .i64 r.id, .int .i64 r.ver, .slice av r.vals.length cv] 42)) 3 (.slice (some ⟨w3.heap.size, 0, none⟩) 1 1) [(⟨r.id, r.ver, av, r.vals.length, cv, r.vals⟩ : RV)].length ([(⟨r.id, r.ver, av, r.vals.length, cv, r.vals⟩ : RV)].flatMap encRV) from reads_block (xs := [(⟨r.id, r.ver, av, r.vals.length, cv, r.vals⟩ : RV)].flatMap encRV) (fr := (0, 0)) (t := 42) (blk_new rfl) rfl)
      have HVN := Lib.hid (hv.move (w' := w3) (S' := fun x => some x ≠ u7.ownBlock ∧ W.heap.size ≤ x) (Nat.le_refl _) (fun x _ hx' => ⟨rfl, hown6 x hx', by have h' : w2.heap.size ≤ x := hx'; omega⟩))
      have HVO := Lib.hid (fun y (hy : y ∈ C) => (HO3.out.vals y hy).move (w' := w3) (S' := fun x => some x ≠ u7.ownBlock ∧ W.heap.size ≤ x) (Nat.le_refl _) (fun x hx' hs => ⟨rfl, hs.2, hs.1⟩))
      have hcn : C.length + [(⟨r.id, r.ver, av, r.vals.length, cv, r.vals⟩ : RV)].length ≤ 1000000000 := by simp only [List.length_cons, List.length_nil]; omega
      have HCk := Lib.hid (show checkN s r = 0 ∧ ∀ y ∈ r.vals, y.length ≤ 64 from ⟨hck, hsh⟩)
      have HId := Lib.hid hid
      have HAsc := Lib.hid HO3.out.asc; have HLe := Lib.hid HO3.out.le; have HOk3 := Lib.hid HO3.out.ok
      obtain ⟨rid, rver, rvals⟩ := r
      dsimp only at HO4 HR4 HVN hcn HCk HId
      clear hv hid hck hsh mv s0 s1 s2 s3 hzs HSX HO2 HO3
      go_wp2_with (at_builtin; refine wpList_append_mat rfl (.tmp 23) (.tmp 28) 58 rfl D 42 (.agg #[.int .i64 0, .int .i64 0, .slice none 0 0]) 3 40 encRV (fun _ => rfl) one_encRV Tryz.underlying58 infoR rfl (by decide) (by decide) (wA := W) (v := u7) (A := C) (B := [⟨rid, rver, av, rvals.length, cv, rvals⟩]) rfl HO4.out rfl HR4.out hcn ?_; intro v4 w4 ho4 hk4 hz4 hat4)
      go_roundw
      case rel =>
        have hmv : ∀ b, b < w3.heap.size → (some b ≠ u7.ownBlock ∧ W.heap.size ≤ b) → w4.heap[b]? = w3.heap[b]? ∧ OffRow W.heap.size v4 b := by
          intro b hb hS
          obtain ⟨q1, q2⟩ := hS
          refine ⟨?_, q2, ?_⟩
          · obtain ⟨ob, hob⟩ : ∃ ob, w3.heap[b]? = some ob := ⟨_, Array.getElem?_eq_getElem hb⟩
            rw [hob]
            exact hk4 b ob q1 (blk_old hob)
          · rcases hat4 with h1 | h1 | h1
            · rw [h1]; simp
            · rw [← h1]; exact q1
            · rw [h1]; simp; omega
        have hz34 : w3.heap.size ≤ w4.heap.size := by simp at hz4; omega
        have hidr := HId.out
        refine ⟨j - 1, id + (1 + x), C ++ [⟨rid, rver, av, rvals.length, cv, rvals⟩], rfl, by go_num, by rw [List.length_append]; have := HJ.out; show C.length + 1 + (j - 1) = q; omega, ho4, fun y hy => ?_, fun y hy => ?_, ?_, fun y hy => ?_, by omega, by rw [List.length_append]; simp; omega⟩
        · rcases List.mem_append.1 hy with h1 | h1
          · exact (HVO.out y h1).move hz34 hmv
          · simp at h1; subst h1; exact HVN.out.move hz34 hmv
        · rcases List.mem_append.1 hy with h1 | h1
          · exact HOk3.out y h1
          · simp at h1; subst h1; exact HCk.out
        · refine List.pairwise_append.2 ⟨HAsc.out, List.pairwise_singleton _ _, fun y hy z hz => ?_⟩
          simp at hz; subst hz
          have := HLe.out y hy
          show y.id < rid; omega
        · rcases List.mem_append.1 hy with h1 | h1
          · have := HLe.out y h1; omega
          · simp at h1; subst h1; show rid ≤ _; omega
      case measure => simp [intOf]; omega
    · have hq : decide ((0 : Int) < (j : Int)) = false := by simp; omega
      obtain rfl : j = 0 := by omega
      go_wp2_with fail
      go_ret
      refine ⟨_, C.map pR, rfl, ⟨C, (OwnM.vec (size := 3) (enc := encRV) (fun _ => rfl) HO.out.own).move (Nat.le_refl _) (fun x _ hx => ⟨rfl, by have h1 := HZW.out; have hx' : W.heap.size ≤ x := hx; show w.heap.size ≤ x; omega⟩), rfl, fun y hy => (HO.out.vals y hy).move (Nat.le_refl _) (fun x _ hx => ⟨rfl, by have h1 := HZW.out; have hx' := hx.1; show w.heap.size ≤ x; omega⟩)⟩, recs_ok HSD.out.check HO.out.ok HO.out.asc (by have := HJ.out; omega), by rw [List.length_map]; have := HJ.out; omega, ?_, HM.out.trans HO.out.own.2⟩
      exact List.pairwise_map.2 HO.out.asc
end Go.Proofs.YthdolmofeeniaaaGreatDoor
end
section
/- siphash, the reference's: rotations, a round. -/
set_option linter.unusedSimpArgs false
set_option linter.unusedVariables false
set_option maxRecDepth 100000
namespace Go.Proofs.YthdolmofeeniaaaGreatDoor
open Go.RowKit
set_option maxHeartbeats 400000 in
theorem rrot13 (x : Int) (w : World) : Calls Tryz.prog 166 #[.int .u64 x, .int .i64 13] w fun e w' => e = .returned (.int .u64 (rotP 8192 2251799813685248 x)) ∧ Below w.heap.size w w' := by
  have hw : IntKind.i64.wrap 51 = 51 := by decide
  go_enter Tryz.func166, Tryz.ntmps166
  go_wp2_with fail
  refine wp_region_noPanic ?_
  refine wp_region_held_drew (S := (fun _ => True)) (by kernel_rfl) (trivial) (fun hHeld => ?_)
  refine wpAnyH_take (i := 0) (v := ?_) rfl (by kernel_rfl) (by kernel_rfl) (by kernel_rfl) (fun _ _ _ h => h) (Or.inl ⟨by rfl, ?_⟩) (by assumption) ?_
  rotate_left 1
  · (intro wS hSw; (try dsimp only at hSw); go_simp; try with_reducible rfl)
  try simp only [List.getElem_toArray, List.getElem_cons_zero, List.getElem_cons_succ, Act.put, List.setIfInBounds_toArray, List.set_cons_zero, List.set_cons_succ]
  refine wpAnyH_take (i := 1) (v := ?_) rfl (by kernel_rfl) (by kernel_rfl) (by kernel_rfl) (fun _ _ _ h => h) (Or.inl ⟨by rfl, ?_⟩) (by assumption) ?_
  rotate_left 1
  · (intro wS hSw; (try dsimp only at hSw); go_simp; try with_reducible rfl)
  try simp only [List.getElem_toArray, List.getElem_cons_zero, List.getElem_cons_succ, Act.put, List.setIfInBounds_toArray, List.set_cons_zero, List.set_cons_succ]
  refine wpAnyH_take (i := 2) (v := ?_) rfl (by kernel_rfl) (by kernel_rfl) (by kernel_rfl) (fun _ _ _ h => h) (Or.inl ⟨by rfl, ?_⟩) (by assumption) ?_
  rotate_left 1
  · (intro wS hSw; (try dsimp only at hSw); go_simp; try with_reducible rfl)
  try simp only [List.getElem_toArray, List.getElem_cons_zero, List.getElem_cons_succ, Act.put, List.setIfInBounds_toArray, List.set_cons_zero, List.set_cons_succ]
  refine wpAnyH_take (i := 3) (v := ?_) rfl (by kernel_rfl) (by kernel_rfl) (by kernel_rfl) (fun _ _ _ h => h) (Or.inl ⟨by rfl, ?_⟩) (by assumption) ?_
  rotate_left 1
  · (intro wS hSw; (try dsimp only at hSw); go_simp; try with_reducible rfl)
  try simp only [List.getElem_toArray, List.getElem_cons_zero, List.getElem_cons_succ, Act.put, List.setIfInBounds_toArray, List.set_cons_zero, List.set_cons_succ]
  refine wpAnyH_take (i := 4) (v := ?_) rfl (by kernel_rfl) (by kernel_rfl) (by kernel_rfl) (fun _ _ _ h => h) (Or.inl ⟨by rfl, ?_⟩) (by assumption) ?_
  rotate_left 1
  · (intro wS hSw; (try dsimp only at hSw); go_simp; try with_reducible rfl)
  try simp only [List.getElem_toArray, List.getElem_cons_zero, List.getElem_cons_succ, Act.put, List.setIfInBounds_toArray, List.set_cons_zero, List.set_cons_succ]
  refine wpAnyH_take (i := 5) (v := ?_) rfl (by kernel_rfl) (by kernel_rfl) (by kernel_rfl) (fun _ _ _ h => h) (Or.inl ⟨by rfl, ?_⟩) (by assumption) ?_
  rotate_left 1
  · (intro wS hSw; (try dsimp only at hSw); go_simp; try with_reducible rfl)
  try simp only [List.getElem_toArray, List.getElem_cons_zero, List.getElem_cons_succ, Act.put, List.setIfInBounds_toArray, List.set_cons_zero, List.set_cons_succ]
  refine wpAnyH_take (i := 6) (v := ?_) rfl (by kernel_rfl) (by kernel_rfl) (by kernel_rfl) (fun _ _ _ h => h) (Or.inl ⟨by rfl, ?_⟩) (by assumption) ?_
  rotate_left 1
  · (intro wS hSw; (try dsimp only at hSw); go_simp; try with_reducible rfl)
  try simp only [List.getElem_toArray, List.getElem_cons_zero, List.getElem_cons_succ, Act.put, List.setIfInBounds_toArray, List.set_cons_zero, List.set_cons_succ]
  refine wpAnyH_take (i := 7) (v := ?_) rfl (by kernel_rfl) (by kernel_rfl) (by kernel_rfl) (fun _ _ _ h => h) (Or.inl ⟨by rfl, ?_⟩) (by assumption) ?_
  rotate_left 1
  · (intro wS hSw; (try dsimp only at hSw); go_simp; try with_reducible rfl)
  try simp only [List.getElem_toArray, List.getElem_cons_zero, List.getElem_cons_succ, Act.put, List.setIfInBounds_toArray, List.set_cons_zero, List.set_cons_succ]
  refine wpAnyH_take (i := 8) (v := ?_) rfl (by kernel_rfl) (by kernel_rfl) (by kernel_rfl) (fun _ _ _ h => h) (Or.inl ⟨by rfl, ?_⟩) (by assumption) ?_
  rotate_left 1
  · (intro wS hSw; (try dsimp only at hSw); go_simp; try with_reducible rfl)
  try simp only [List.getElem_toArray, List.getElem_cons_zero, List.getElem_cons_succ, Act.put, List.setIfInBounds_toArray, List.set_cons_zero, List.set_cons_succ]
  refine wpAnyH_done (by kernel_rfl) ?_ _
  refine NoPanic.normal ?_
  go_wp2_with fail
  go_ret
  exact ⟨rfl, (Below.refl _ _).drew⟩
set_option maxHeartbeats 400000 in
theorem rrot32 (x : Int) (w : World) : Calls Tryz.prog 166 #[.int .u64 x, .int .i64 32] w fun e w' => e = .returned (.int .u64 (rotP 4294967296 4294967296 x)) ∧ Below w.heap.size w w' := by
  have hw : IntKind.i64.wrap 32 = 32 := by decide
  go_enter Tryz.func166, Tryz.ntmps166
  go_wp2_with fail
  refine wp_region_noPanic ?_
  refine wp_region_held_drew (S := (fun _ => True)) (by kernel_rfl) (trivial) (fun hHeld => ?_)
  refine wpAnyH_take (i := 0) (v := ?_) rfl (by kernel_rfl) (by kernel_rfl) (by kernel_rfl) (fun _ _ _ h => h) (Or.inl ⟨by rfl, ?_⟩) (by assumption) ?_
  rotate_left 1
  · (intro wS hSw; (try dsimp only at hSw); go_simp; try with_reducible rfl)
  try simp only [List.getElem_toArray, List.getElem_cons_zero, List.getElem_cons_succ, Act.put, List.setIfInBounds_toArray, List.set_cons_zero, List.set_cons_succ]
  refine wpAnyH_take (i := 1) (v := ?_) rfl (by kernel_rfl) (by kernel_rfl) (by kernel_rfl) (fun _ _ _ h => h) (Or.inl ⟨by rfl, ?_⟩) (by assumption) ?_
  rotate_left 1
  · (intro wS hSw; (try dsimp only at hSw); go_simp; try with_reducible rfl)
  try simp only [List.getElem_toArray, List.getElem_cons_zero, List.getElem_cons_succ, Act.put, List.setIfInBounds_toArray, List.set_cons_zero, List.set_cons_succ]
  refine wpAnyH_take (i := 2) (v := ?_) rfl (by kernel_rfl) (by kernel_rfl) (by kernel_rfl) (fun _ _ _ h => h) (Or.inl ⟨by rfl, ?_⟩) (by assumption) ?_
  rotate_left 1
  · (intro wS hSw; (try dsimp only at hSw); go_simp; try with_reducible rfl)
  try simp only [List.getElem_toArray, List.getElem_cons_zero, List.getElem_cons_succ, Act.put, List.setIfInBounds_toArray, List.set_cons_zero, List.set_cons_succ]
  refine wpAnyH_take (i := 3) (v := ?_) rfl (by kernel_rfl) (by kernel_rfl) (by kernel_rfl) (fun _ _ _ h => h) (Or.inl ⟨by rfl, ?_⟩) (by assumption) ?_
  rotate_left 1
  · (intro wS hSw; (try dsimp only at hSw); go_simp; try with_reducible rfl)
  try simp only [List.getElem_toArray, List.getElem_cons_zero, List.getElem_cons_succ, Act.put, List.setIfInBounds_toArray, List.set_cons_zero, List.set_cons_succ]
  refine wpAnyH_take (i := 4) (v := ?_) rfl (by kernel_rfl) (by kernel_rfl) (by kernel_rfl) (fun _ _ _ h => h) (Or.inl ⟨by rfl, ?_⟩) (by assumption) ?_
  rotate_left 1
  · (intro wS hSw; (try dsimp only at hSw); go_simp; try with_reducible rfl)
  try simp only [List.getElem_toArray, List.getElem_cons_zero, List.getElem_cons_succ, Act.put, List.setIfInBounds_toArray, List.set_cons_zero, List.set_cons_succ]
  refine wpAnyH_take (i := 5) (v := ?_) rfl (by kernel_rfl) (by kernel_rfl) (by kernel_rfl) (fun _ _ _ h => h) (Or.inl ⟨by rfl, ?_⟩) (by assumption) ?_
  rotate_left 1
  · (intro wS hSw; (try dsimp only at hSw); go_simp; try with_reducible rfl)
  try simp only [List.getElem_toArray, List.getElem_cons_zero, List.getElem_cons_succ, Act.put, List.setIfInBounds_toArray, List.set_cons_zero, List.set_cons_succ]
  refine wpAnyH_take (i := 6) (v := ?_) rfl (by kernel_rfl) (by kernel_rfl) (by kernel_rfl) (fun _ _ _ h => h) (Or.inl ⟨by rfl, ?_⟩) (by assumption) ?_
  rotate_left 1
  · (intro wS hSw; (try dsimp only at hSw); go_simp; try with_reducible rfl)
  try simp only [List.getElem_toArray, List.getElem_cons_zero, List.getElem_cons_succ, Act.put, List.setIfInBounds_toArray, List.set_cons_zero, List.set_cons_succ]
  refine wpAnyH_take (i := 7) (v := ?_) rfl (by kernel_rfl) (by kernel_rfl) (by kernel_rfl) (fun _ _ _ h => h) (Or.inl ⟨by rfl, ?_⟩) (by assumption) ?_
  rotate_left 1
  · (intro wS hSw; (try dsimp only at hSw); go_simp; try with_reducible rfl)
  try simp only [List.getElem_toArray, List.getElem_cons_zero, List.getElem_cons_succ, Act.put, List.setIfInBounds_toArray, List.set_cons_zero, List.set_cons_succ]
  refine wpAnyH_take (i := 8) (v := ?_) rfl (by kernel_rfl) (by kernel_rfl) (by kernel_rfl) (fun _ _ _ h => h) (Or.inl ⟨by rfl, ?_⟩) (by assumption) ?_
  rotate_left 1
  · (intro wS hSw; (try dsimp only at hSw); go_simp; try with_reducible rfl)
  try simp only [List.getElem_toArray, List.getElem_cons_zero, List.getElem_cons_succ, Act.put, List.setIfInBounds_toArray, List.set_cons_zero, List.set_cons_succ]
  refine wpAnyH_done (by kernel_rfl) ?_ _
  refine NoPanic.normal ?_
  go_wp2_with fail
  go_ret
  exact ⟨rfl, (Below.refl _ _).drew⟩
set_option maxHeartbeats 400000 in
theorem rrot16 (x : Int) (w : World) : Calls Tryz.prog 166 #[.int .u64 x, .int .i64 16] w fun e w' => e = .returned (.int .u64 (rotP 65536 281474976710656 x)) ∧ Below w.heap.size w w' := by
  have hw : IntKind.i64.wrap 48 = 48 := by decide
  go_enter Tryz.func166, Tryz.ntmps166
  go_wp2_with fail
  refine wp_region_noPanic ?_
  refine wp_region_held_drew (S := (fun _ => True)) (by kernel_rfl) (trivial) (fun hHeld => ?_)
  refine wpAnyH_take (i := 0) (v := ?_) rfl (by kernel_rfl) (by kernel_rfl) (by kernel_rfl) (fun _ _ _ h => h) (Or.inl ⟨by rfl, ?_⟩) (by assumption) ?_
  rotate_left 1
  · (intro wS hSw; (try dsimp only at hSw); go_simp; try with_reducible rfl)
  try simp only [List.getElem_toArray, List.getElem_cons_zero, List.getElem_cons_succ, Act.put, List.setIfInBounds_toArray, List.set_cons_zero, List.set_cons_succ]
  refine wpAnyH_take (i := 1) (v := ?_) rfl (by kernel_rfl) (by kernel_rfl) (by kernel_rfl) (fun _ _ _ h => h) (Or.inl ⟨by rfl, ?_⟩) (by assumption) ?_
  rotate_left 1
  · (intro wS hSw; (try dsimp only at hSw); go_simp; try with_reducible rfl)
  try simp only [List.getElem_toArray, List.getElem_cons_zero, List.getElem_cons_succ, Act.put, List.setIfInBounds_toArray, List.set_cons_zero, List.set_cons_succ]
  refine wpAnyH_take (i := 2) (v := ?_) rfl (by kernel_rfl) (by kernel_rfl) (by kernel_rfl) (fun _ _ _ h => h) (Or.inl ⟨by rfl, ?_⟩) (by assumption) ?_
  rotate_left 1
  · (intro wS hSw; (try dsimp only at hSw); go_simp; try with_reducible rfl)
  try simp only [List.getElem_toArray, List.getElem_cons_zero, List.getElem_cons_succ, Act.put, List.setIfInBounds_toArray, List.set_cons_zero, List.set_cons_succ]
  refine wpAnyH_take (i := 3) (v := ?_) rfl (by kernel_rfl) (by kernel_rfl) (by kernel_rfl) (fun _ _ _ h => h) (Or.inl ⟨by rfl, ?_⟩) (by assumption) ?_
  rotate_left 1
  · (intro wS hSw; (try dsimp only at hSw); go_simp; try with_reducible rfl)
  try simp only [List.getElem_toArray, List.getElem_cons_zero, List.getElem_cons_succ, Act.put, List.setIfInBounds_toArray, List.set_cons_zero, List.set_cons_succ]
  refine wpAnyH_take (i := 4) (v := ?_) rfl (by kernel_rfl) (by kernel_rfl) (by kernel_rfl) (fun _ _ _ h => h) (Or.inl ⟨by rfl, ?_⟩) (by assumption) ?_
  rotate_left 1
  · (intro wS hSw; (try dsimp only at hSw); go_simp; try with_reducible rfl)
  try simp only [List.getElem_toArray, List.getElem_cons_zero, List.getElem_cons_succ, Act.put, List.setIfInBounds_toArray, List.set_cons_zero, List.set_cons_succ]
  refine wpAnyH_take (i := 5) (v := ?_) rfl (by kernel_rfl) (by kernel_rfl) (by kernel_rfl) (fun _ _ _ h => h) (Or.inl ⟨by rfl, ?_⟩) (by assumption) ?_
  rotate_left 1
  · (intro wS hSw; (try dsimp only at hSw); go_simp; try with_reducible rfl)
  try simp only [List.getElem_toArray, List.getElem_cons_zero, List.getElem_cons_succ, Act.put, List.setIfInBounds_toArray, List.set_cons_zero, List.set_cons_succ]
  refine wpAnyH_take (i := 6) (v := ?_) rfl (by kernel_rfl) (by kernel_rfl) (by kernel_rfl) (fun _ _ _ h => h) (Or.inl ⟨by rfl, ?_⟩) (by assumption) ?_
  rotate_left 1
  · (intro wS hSw; (try dsimp only at hSw); go_simp; try with_reducible rfl)
  try simp only [List.getElem_toArray, List.getElem_cons_zero, List.getElem_cons_succ, Act.put, List.setIfInBounds_toArray, List.set_cons_zero, List.set_cons_succ]
  refine wpAnyH_take (i := 7) (v := ?_) rfl (by kernel_rfl) (by kernel_rfl) (by kernel_rfl) (fun _ _ _ h => h) (Or.inl ⟨by rfl, ?_⟩) (by assumption) ?_
  rotate_left 1
  · (intro wS hSw; (try dsimp only at hSw); go_simp; try with_reducible rfl)
  try simp only [List.getElem_toArray, List.getElem_cons_zero, List.getElem_cons_succ, Act.put, List.setIfInBounds_toArray, List.set_cons_zero, List.set_cons_succ]
  refine wpAnyH_take (i := 8) (v := ?_) rfl (by kernel_rfl) (by kernel_rfl) (by kernel_rfl) (fun _ _ _ h => h) (Or.inl ⟨by rfl, ?_⟩) (by assumption) ?_
  rotate_left 1
  · (intro wS hSw; (try dsimp only at hSw); go_simp; try with_reducible rfl)
  try simp only [List.getElem_toArray, List.getElem_cons_zero, List.getElem_cons_succ, Act.put, List.setIfInBounds_toArray, List.set_cons_zero, List.set_cons_succ]
  refine wpAnyH_done (by kernel_rfl) ?_ _
  refine NoPanic.normal ?_
  go_wp2_with fail
  go_ret
  exact ⟨rfl, (Below.refl _ _).drew⟩
set_option maxHeartbeats 400000 in
theorem rrot21 (x : Int) (w : World) : Calls Tryz.prog 166 #[.int .u64 x, .int .i64 21] w fun e w' => e = .returned (.int .u64 (rotP 2097152 8796093022208 x)) ∧ Below w.heap.size w w' := by
  have hw : IntKind.i64.wrap 43 = 43 := by decide
  go_enter Tryz.func166, Tryz.ntmps166
  go_wp2_with fail
  refine wp_region_noPanic ?_
  refine wp_region_held_drew (S := (fun _ => True)) (by kernel_rfl) (trivial) (fun hHeld => ?_)
  refine wpAnyH_take (i := 0) (v := ?_) rfl (by kernel_rfl) (by kernel_rfl) (by kernel_rfl) (fun _ _ _ h => h) (Or.inl ⟨by rfl, ?_⟩) (by assumption) ?_
  rotate_left 1
  · (intro wS hSw; (try dsimp only at hSw); go_simp; try with_reducible rfl)
  try simp only [List.getElem_toArray, List.getElem_cons_zero, List.getElem_cons_succ, Act.put, List.setIfInBounds_toArray, List.set_cons_zero, List.set_cons_succ]
  refine wpAnyH_take (i := 1) (v := ?_) rfl (by kernel_rfl) (by kernel_rfl) (by kernel_rfl) (fun _ _ _ h => h) (Or.inl ⟨by rfl, ?_⟩) (by assumption) ?_
  rotate_left 1
  · (intro wS hSw; (try dsimp only at hSw); go_simp; try with_reducible rfl)
  try simp only [List.getElem_toArray, List.getElem_cons_zero, List.getElem_cons_succ, Act.put, List.setIfInBounds_toArray, List.set_cons_zero, List.set_cons_succ]
  refine wpAnyH_take (i := 2) (v := ?_) rfl (by kernel_rfl) (by kernel_rfl) (by kernel_rfl) (fun _ _ _ h => h) (Or.inl ⟨by rfl, ?_⟩) (by assumption) ?_
  rotate_left 1
  · (intro wS hSw; (try dsimp only at hSw); go_simp; try with_reducible rfl)
  try simp only [List.getElem_toArray, List.getElem_cons_zero, List.getElem_cons_succ, Act.put, List.setIfInBounds_toArray, List.set_cons_zero, List.set_cons_succ]
  refine wpAnyH_take (i := 3) (v := ?_) rfl (by kernel_rfl) (by kernel_rfl) (by kernel_rfl) (fun _ _ _ h => h) (Or.inl ⟨by rfl, ?_⟩) (by assumption) ?_
  rotate_left 1
  · (intro wS hSw; (try dsimp only at hSw); go_simp; try with_reducible rfl)
  try simp only [List.getElem_toArray, List.getElem_cons_zero, List.getElem_cons_succ, Act.put, List.setIfInBounds_toArray, List.set_cons_zero, List.set_cons_succ]
  refine wpAnyH_take (i := 4) (v := ?_) rfl (by kernel_rfl) (by kernel_rfl) (by kernel_rfl) (fun _ _ _ h => h) (Or.inl ⟨by rfl, ?_⟩) (by assumption) ?_
  rotate_left 1
  · (intro wS hSw; (try dsimp only at hSw); go_simp; try with_reducible rfl)
  try simp only [List.getElem_toArray, List.getElem_cons_zero, List.getElem_cons_succ, Act.put, List.setIfInBounds_toArray, List.set_cons_zero, List.set_cons_succ]
  refine wpAnyH_take (i := 5) (v := ?_) rfl (by kernel_rfl) (by kernel_rfl) (by kernel_rfl) (fun _ _ _ h => h) (Or.inl ⟨by rfl, ?_⟩) (by assumption) ?_
  rotate_left 1
  · (intro wS hSw; (try dsimp only at hSw); go_simp; try with_reducible rfl)
  try simp only [List.getElem_toArray, List.getElem_cons_zero, List.getElem_cons_succ, Act.put, List.setIfInBounds_toArray, List.set_cons_zero, List.set_cons_succ]
  refine wpAnyH_take (i := 6) (v := ?_) rfl (by kernel_rfl) (by kernel_rfl) (by kernel_rfl) (fun _ _ _ h => h) (Or.inl ⟨by rfl, ?_⟩) (by assumption) ?_
  rotate_left 1
  · (intro wS hSw; (try dsimp only at hSw); go_simp; try with_reducible rfl)
  try simp only [List.getElem_toArray, List.getElem_cons_zero, List.getElem_cons_succ, Act.put, List.setIfInBounds_toArray, List.set_cons_zero, List.set_cons_succ]
  refine wpAnyH_take (i := 7) (v := ?_) rfl (by kernel_rfl) (by kernel_rfl) (by kernel_rfl) (fun _ _ _ h => h) (Or.inl ⟨by rfl, ?_⟩) (by assumption) ?_
  rotate_left 1
  · (intro wS hSw; (try dsimp only at hSw); go_simp; try with_reducible rfl)
  try simp only [List.getElem_toArray, List.getElem_cons_zero, List.getElem_cons_succ, Act.put, List.setIfInBounds_toArray, List.set_cons_zero, List.set_cons_succ]
  refine wpAnyH_take (i := 8) (v := ?_) rfl (by kernel_rfl) (by kernel_rfl) (by kernel_rfl) (fun _ _ _ h => h) (Or.inl ⟨by rfl, ?_⟩) (by assumption) ?_
  rotate_left 1
  · (intro wS hSw; (try dsimp only at hSw); go_simp; try with_reducible rfl)
  try simp only [List.getElem_toArray, List.getElem_cons_zero, List.getElem_cons_succ, Act.put, List.setIfInBounds_toArray, List.set_cons_zero, List.set_cons_succ]
  refine wpAnyH_done (by kernel_rfl) ?_ _
  refine NoPanic.normal ?_
  go_wp2_with fail
  go_ret
  exact ⟨rfl, (Below.refl _ _).drew⟩
set_option maxHeartbeats 400000 in
theorem rrot17 (x : Int) (w : World) : Calls Tryz.prog 166 #[.int .u64 x, .int .i64 17] w fun e w' => e = .returned (.int .u64 (rotP 131072 140737488355328 x)) ∧ Below w.heap.size w w' := by
  have hw : IntKind.i64.wrap 47 = 47 := by decide
  go_enter Tryz.func166, Tryz.ntmps166
  go_wp2_with fail
  refine wp_region_noPanic ?_
  refine wp_region_held_drew (S := (fun _ => True)) (by kernel_rfl) (trivial) (fun hHeld => ?_)
  refine wpAnyH_take (i := 0) (v := ?_) rfl (by kernel_rfl) (by kernel_rfl) (by kernel_rfl) (fun _ _ _ h => h) (Or.inl ⟨by rfl, ?_⟩) (by assumption) ?_
  rotate_left 1
  · (intro wS hSw; (try dsimp only at hSw); go_simp; try with_reducible rfl)
  try simp only [List.getElem_toArray, List.getElem_cons_zero, List.getElem_cons_succ, Act.put, List.setIfInBounds_toArray, List.set_cons_zero, List.set_cons_succ]
  refine wpAnyH_take (i := 1) (v := ?_) rfl (by kernel_rfl) (by kernel_rfl) (by kernel_rfl) (fun _ _ _ h => h) (Or.inl ⟨by rfl, ?_⟩) (by assumption) ?_
  rotate_left 1
  · (intro wS hSw; (try dsimp only at hSw); go_simp; try with_reducible rfl)
  try simp only [List.getElem_toArray, List.getElem_cons_zero, List.getElem_cons_succ, Act.put, List.setIfInBounds_toArray, List.set_cons_zero, List.set_cons_succ]
  refine wpAnyH_take (i := 2) (v := ?_) rfl (by kernel_rfl) (by kernel_rfl) (by kernel_rfl) (fun _ _ _ h => h) (Or.inl ⟨by rfl, ?_⟩) (by assumption) ?_
  rotate_left 1
  · (intro wS hSw; (try dsimp only at hSw); go_simp; try with_reducible rfl)
  try simp only [List.getElem_toArray, List.getElem_cons_zero, List.getElem_cons_succ, Act.put, List.setIfInBounds_toArray, List.set_cons_zero, List.set_cons_succ]
  refine wpAnyH_take (i := 3) (v := ?_) rfl (by kernel_rfl) (by kernel_rfl) (by kernel_rfl) (fun _ _ _ h => h) (Or.inl ⟨by rfl, ?_⟩) (by assumption) ?_
  rotate_left 1
  · (intro wS hSw; (try dsimp only at hSw); go_simp; try with_reducible rfl)
  try simp only [List.getElem_toArray, List.getElem_cons_zero, List.getElem_cons_succ, Act.put, List.setIfInBounds_toArray, List.set_cons_zero, List.set_cons_succ]
  refine wpAnyH_take (i := 4) (v := ?_) rfl (by kernel_rfl) (by kernel_rfl) (by kernel_rfl) (fun _ _ _ h => h) (Or.inl ⟨by rfl, ?_⟩) (by assumption) ?_
  rotate_left 1
  · (intro wS hSw; (try dsimp only at hSw); go_simp; try with_reducible rfl)
  try simp only [List.getElem_toArray, List.getElem_cons_zero, List.getElem_cons_succ, Act.put, List.setIfInBounds_toArray, List.set_cons_zero, List.set_cons_succ]
  refine wpAnyH_take (i := 5) (v := ?_) rfl (by kernel_rfl) (by kernel_rfl) (by kernel_rfl) (fun _ _ _ h => h) (Or.inl ⟨by rfl, ?_⟩) (by assumption) ?_
  rotate_left 1
  · (intro wS hSw; (try dsimp only at hSw); go_simp; try with_reducible rfl)
  try simp only [List.getElem_toArray, List.getElem_cons_zero, List.getElem_cons_succ, Act.put, List.setIfInBounds_toArray, List.set_cons_zero, List.set_cons_succ]
  refine wpAnyH_take (i := 6) (v := ?_) rfl (by kernel_rfl) (by kernel_rfl) (by kernel_rfl) (fun _ _ _ h => h) (Or.inl ⟨by rfl, ?_⟩) (by assumption) ?_
  rotate_left 1
  · (intro wS hSw; (try dsimp only at hSw); go_simp; try with_reducible rfl)
  try simp only [List.getElem_toArray, List.getElem_cons_zero, List.getElem_cons_succ, Act.put, List.setIfInBounds_toArray, List.set_cons_zero, List.set_cons_succ]
  refine wpAnyH_take (i := 7) (v := ?_) rfl (by kernel_rfl) (by kernel_rfl) (by kernel_rfl) (fun _ _ _ h => h) (Or.inl ⟨by rfl, ?_⟩) (by assumption) ?_
  rotate_left 1
  · (intro wS hSw; (try dsimp only at hSw); go_simp; try with_reducible rfl)
  try simp only [List.getElem_toArray, List.getElem_cons_zero, List.getElem_cons_succ, Act.put, List.setIfInBounds_toArray, List.set_cons_zero, List.set_cons_succ]
  refine wpAnyH_take (i := 8) (v := ?_) rfl (by kernel_rfl) (by kernel_rfl) (by kernel_rfl) (fun _ _ _ h => h) (Or.inl ⟨by rfl, ?_⟩) (by assumption) ?_
  rotate_left 1
  · (intro wS hSw; (try dsimp only at hSw); go_simp; try with_reducible rfl)
  try simp only [List.getElem_toArray, List.getElem_cons_zero, List.getElem_cons_succ, Act.put, List.setIfInBounds_toArray, List.set_cons_zero, List.set_cons_succ]
  refine wpAnyH_done (by kernel_rfl) ?_ _
  refine NoPanic.normal ?_
  go_wp2_with fail
  go_ret
  exact ⟨rfl, (Below.refl _ _).drew⟩
set_option maxHeartbeats 4000000 in
theorem rround_any (s : Sip) (w : World) : Calls Tryz.prog 110 #[.agg (sipC s)] w fun e w' => e = .returned (.agg (sipC (rndP s))) ∧ Below w.heap.size w w' := by
  obtain ⟨a, b, c, d⟩ := s
  go_enter Tryz.func110, Tryz.ntmps110
  go_wp2_with fail
  refine wp_world (fun W hW => ?_)
  have hb0 : Below w.heap.size w W := by rw [hW]; exact ((Below.refl _ _).alloc (Nat.le_refl _) _).alloc (by simp) _
  have hv0 : W.heap[w.heap.size]? = some (.cells (sipC ⟨a, b, c, d⟩) 160 (0, 0)) := by rw [hW]; exact blk_old (blk_new rfl)
  have hr0 : W.heap[w.heap.size + 1]? = some (.cells (sipC ⟨0, 0, 0, 0⟩) 160 (0, 0)) := by rw [hW]; exact blk_new (by simp)
  clear hW
  have HB0 := Lib.hid hb0; have HR0 := Lib.hid hr0
  obtain ⟨c0, c1, c2, c3⟩ := cellsS hv0
  clear hb0 hv0 hr0
  refine wp_region_noPanic ?_
  refine wp_region_held_drew (S := (fun w' => w'.cell? ⟨w.heap.size, 0, none⟩ = some (.int .u64 a) ∧ w'.cell? ⟨w.heap.size, 1, none⟩ = some (.int .u64 b) ∧ w'.cell? ⟨w.heap.size, 2, none⟩ = some (.int .u64 c) ∧ w'.cell? ⟨w.heap.size, 3, none⟩ = some (.int .u64 d))) (by kernel_rfl) (⟨c0, c1, c2, c3⟩) (fun hHeld => ?_)
  refine wpAnyH_take (i := 0) (v := ?_) rfl (by kernel_rfl) (by kernel_rfl) (by kernel_rfl) (fun _ _ _ h => h) (Or.inl ⟨by rfl, ?_⟩) (by assumption) ?_
  rotate_left 1
  · (intro wS hSw; (try dsimp only at hSw); go_simp; try with_reducible rfl)
  try simp only [List.getElem_toArray, List.getElem_cons_zero, List.getElem_cons_succ, Act.put, List.setIfInBounds_toArray, List.set_cons_zero, List.set_cons_succ]
  refine wpAnyH_take (i := 1) (v := ?_) rfl (by kernel_rfl) (by kernel_rfl) (by kernel_rfl) (fun _ _ _ h => h) (Or.inl ⟨by rfl, ?_⟩) (by assumption) ?_
  rotate_left 1
  · (intro wS hSw; (try dsimp only at hSw); go_simp; try with_reducible rfl)
  try simp only [List.getElem_toArray, List.getElem_cons_zero, List.getElem_cons_succ, Act.put, List.setIfInBounds_toArray, List.set_cons_zero, List.set_cons_succ]
  refine wpAnyH_take (i := 2) (v := ?_) rfl (by kernel_rfl) (by kernel_rfl) (by kernel_rfl) (fun _ _ _ h => h) (Or.inl ⟨by rfl, ?_⟩) (by assumption) ?_
  rotate_left 1
  · (intro wS hSw; (try dsimp only at hSw); go_simp; try with_reducible rfl)
  try simp only [List.getElem_toArray, List.getElem_cons_zero, List.getElem_cons_succ, Act.put, List.setIfInBounds_toArray, List.set_cons_zero, List.set_cons_succ]
  refine wpAnyH_take (i := 3) (v := ?_) rfl (by kernel_rfl) (by kernel_rfl) (by kernel_rfl) (fun _ _ _ h => h) (Or.inl ⟨by rfl, ?_⟩) (by assumption) ?_
  rotate_left 1
  · (intro wS hSw; (try dsimp only at hSw); go_simp; try with_reducible rfl)
  try simp only [List.getElem_toArray, List.getElem_cons_zero, List.getElem_cons_succ, Act.put, List.setIfInBounds_toArray, List.set_cons_zero, List.set_cons_succ]
  refine wpAnyH_take (i := 4) (v := ?_) rfl (by kernel_rfl) (by kernel_rfl) (by kernel_rfl) (fun _ _ _ h => h) (Or.inl ⟨by rfl, ?_⟩) (by assumption) ?_
  rotate_left 1
  · (intro wS hSw; (try dsimp only at hSw); go_simp; try with_reducible rfl)
  try simp only [List.getElem_toArray, List.getElem_cons_zero, List.getElem_cons_succ, Act.put, List.setIfInBounds_toArray, List.set_cons_zero, List.set_cons_succ]
  refine wpAnyH_take (i := 5) (v := ?_) rfl (by kernel_rfl) (by kernel_rfl) (by kernel_rfl) (fun _ _ _ h => h) (Or.inl ⟨by rfl, ?_⟩) (by assumption) ?_
  rotate_left 1
  · (intro wS hSw; (try dsimp only at hSw); go_simp; try with_reducible rfl)
  try simp only [List.getElem_toArray, List.getElem_cons_zero, List.getElem_cons_succ, Act.put, List.setIfInBounds_toArray, List.set_cons_zero, List.set_cons_succ]
  refine wpAnyH_take (i := 6) (v := ?_) rfl (by kernel_rfl) (by kernel_rfl) (by kernel_rfl) (fun _ _ _ h => h) (Or.inl ⟨by rfl, ?_⟩) (by assumption) ?_
  rotate_left 1
  · (intro wS hSw; (try dsimp only at hSw); go_simp; try with_reducible rfl)
  try simp only [List.getElem_toArray, List.getElem_cons_zero, List.getElem_cons_succ, Act.put, List.setIfInBounds_toArray, List.set_cons_zero, List.set_cons_succ]
  refine wpAnyH_take (i := 7) (v := ?_) rfl (by kernel_rfl) (by kernel_rfl) (by kernel_rfl) (fun _ _ _ h => h) (Or.inl ⟨by rfl, ?_⟩) (by assumption) ?_
  rotate_left 1
  · (intro wS hSw; (try dsimp only at hSw); go_simp; try with_reducible rfl)
  try simp only [List.getElem_toArray, List.getElem_cons_zero, List.getElem_cons_succ, Act.put, List.setIfInBounds_toArray, List.set_cons_zero, List.set_cons_succ]
  refine wpAnyH_take (i := 8) (v := ?_) rfl (by kernel_rfl) (by kernel_rfl) (by kernel_rfl) (fun _ _ _ h => h) (Or.inl ⟨by rfl, ?_⟩) (by assumption) ?_
  rotate_left 1
  · (intro wS hSw; (try dsimp only at hSw); go_simp; try with_reducible rfl)
  try simp only [List.getElem_toArray, List.getElem_cons_zero, List.getElem_cons_succ, Act.put, List.setIfInBounds_toArray, List.set_cons_zero, List.set_cons_succ]
  refine wpAnyH_take (i := 9) (v := ?_) rfl (by kernel_rfl) (by kernel_rfl) (by kernel_rfl) (fun _ _ _ h => h) (Or.inl ⟨by rfl, ?_⟩) (by assumption) ?_
  rotate_left 1
  · (intro wS hSw; (try dsimp only at hSw); go_simp; try with_reducible rfl)
  try simp only [List.getElem_toArray, List.getElem_cons_zero, List.getElem_cons_succ, Act.put, List.setIfInBounds_toArray, List.set_cons_zero, List.set_cons_succ]
  refine wpAnyH_take (i := 10) (v := ?_) rfl (by kernel_rfl) (by kernel_rfl) (by kernel_rfl) (fun _ _ _ h => h) (Or.inl ⟨by rfl, ?_⟩) (by assumption) ?_
  rotate_left 1
  · (intro wS hSw; (try dsimp only at hSw); go_simp; try with_reducible rfl)
  try simp only [List.getElem_toArray, List.getElem_cons_zero, List.getElem_cons_succ, Act.put, List.setIfInBounds_toArray, List.set_cons_zero, List.set_cons_succ]
  refine wpAnyH_take (i := 11) (v := ?_) rfl (by kernel_rfl) (by kernel_rfl) (by kernel_rfl) (fun _ _ _ h => h) (Or.inl ⟨by rfl, ?_⟩) (by assumption) ?_
  rotate_left 1
  · (intro wS hSw; (try dsimp only at hSw); go_simp; try with_reducible rfl)
  try simp only [List.getElem_toArray, List.getElem_cons_zero, List.getElem_cons_succ, Act.put, List.setIfInBounds_toArray, List.set_cons_zero, List.set_cons_succ]
  refine wpAnyH_done (by kernel_rfl) ?_ _
  refine NoPanic.normal ?_
  refine exitk_world (fun W1 hW1 => ?_)
  have hb1 : Below w.heap.size w W1 := by rw [hW1]; exact HB0.out.drew
  have hr1 : W1.heap[w.heap.size + 1]? = some (.cells (sipC ⟨0, 0, 0, 0⟩) 160 (0, 0)) := by rw [hW1]; exact HR0.out
  clear hW1 c0 c1 c2 c3 hHeld HB0 HR0
  have HB := Lib.hid hb1; have HR := Lib.hid hr1; clear hb1 hr1
  go_wp2_with fail
  refine (rrot13 _ _).mono ?_
  rintro e w1 ⟨rfl, hb⟩
  have hB := HB.out.trans (hb.mono HB.out.size); have hR := blk_below hb (lt_of_blk HR.out) HR.out
  clear HB HR hb; have HB := Lib.hid hB; have HR := Lib.hid hR; clear hB hR
  go_wp2_with fail
  refine (rrot32 _ _).mono ?_
  rintro e w2 ⟨rfl, hb⟩
  have hB := HB.out.trans (hb.mono HB.out.size); have hR := blk_below hb (lt_of_blk HR.out) HR.out
  clear HB HR hb; have HB := Lib.hid hB; have HR := Lib.hid hR; clear hB hR
  go_wp2_with fail
  refine (rrot16 _ _).mono ?_
  rintro e w3 ⟨rfl, hb⟩
  have hB := HB.out.trans (hb.mono HB.out.size); have hR := blk_below hb (lt_of_blk HR.out) HR.out
  clear HB HR hb; have HB := Lib.hid hB; have HR := Lib.hid hR; clear hB hR
  go_wp2_with fail
  refine (rrot21 _ _).mono ?_
  rintro e w4 ⟨rfl, hb⟩
  have hB := HB.out.trans (hb.mono HB.out.size); have hR := blk_below hb (lt_of_blk HR.out) HR.out
  clear HB HR hb; have HB := Lib.hid hB; have HR := Lib.hid hR; clear hB hR
  go_wp2_with fail
  refine (rrot17 _ _).mono ?_
  rintro e w5 ⟨rfl, hb⟩
  have hB := HB.out.trans (hb.mono HB.out.size); have hR := blk_below hb (lt_of_blk HR.out) HR.out
  clear HB HR hb; have HB := Lib.hid hB; have HR := Lib.hid hR; clear hB hR
  go_wp2_with fail
  refine (rrot32 _ _).mono ?_
  rintro e w6 ⟨rfl, hb⟩
  have hB := HB.out.trans (hb.mono HB.out.size); have hR := blk_below hb (lt_of_blk HR.out) HR.out
  clear HB HR hb; have HB := Lib.hid hB; have HR := Lib.hid hR; 
  obtain ⟨r0, r1, r2, r3⟩ := cellsS hR
  obtain ⟨f0, f1, f2, f3⟩ := freeS hR
  have lr := lt_of_blk hR
  clear hB hR
  go_wp2_with fail
  exact bodyPost_row1 rfl rfl (blk_set (i := 3) (blk_set (i := 2) (blk_set (i := 1) (blk_set (i := 0) HR.out)))) Tryz.underlying160 rfl (by kernel_rfl)
    ⟨rfl, (((HB.out.setCell (p := ⟨w.heap.size + 1, 0, none⟩) (Nat.le_succ _) _).setCell (p := ⟨w.heap.size + 1, 1, none⟩) (Nat.le_succ _) _).setCell (p := ⟨w.heap.size + 1, 2, none⟩) (Nat.le_succ _) _).setCell (p := ⟨w.heap.size + 1, 3, none⟩) (Nat.le_succ _) _⟩
end Go.Proofs.YthdolmofeeniaaaGreatDoor
end
section
/- siphash, the reference's: Sum. -/
set_option linter.unusedSimpArgs false
set_option linter.unusedVariables false
set_option maxRecDepth 100000
namespace Go.Proofs.YthdolmofeeniaaaGreatDoor
open Go.RowKit
/-- s lies in block b; all but that block is as it was -/
def RipAt (w : World) (b : Nat) (s : Sip) (w' : World) : Prop := w'.heap[b]? = some (.cells (sipC s) 160 (0, 0)) ∧ w.grownBy w' (some b)
theorem RipAt.read {w w' : World} {b : Nat} {s : Sip} (h : RipAt w b s w') : (w'.cell? ⟨b, 0, none⟩ = some (.int .u64 s.a) ∧ w'.cell? ⟨b, 1, none⟩ = some (.int .u64 s.b) ∧ w'.cell? ⟨b, 2, none⟩ = some (.int .u64 s.c) ∧ w'.cell? ⟨b, 3, none⟩ = some (.int .u64 s.d)) ∧
    (w'.frozen? ⟨b, 0, none⟩ = false ∧ w'.frozen? ⟨b, 1, none⟩ = false ∧ w'.frozen? ⟨b, 2, none⟩ = false ∧ w'.frozen? ⟨b, 3, none⟩ = false) := ⟨cellsS h.1, freeS h.1⟩
theorem RipAt.set {w w' : World} {b i : Nat} {s s' : Sip} {v : Value} (h : RipAt w b s w') (e : (sipC s).setIfInBounds i v = sipC s') : RipAt w b s' (w'.setCell ⟨b, i, none⟩ v) :=
  ⟨by rw [← e]; exact blk_set h.1, grown_set h.2⟩
theorem RipAt.below {w w' w'' : World} {b : Nat} {s : Sip} (h : RipAt w b s w') (hb : Below w'.heap.size w' w'') : RipAt w b s w'' :=
  ⟨blk_below hb (lt_of_blk h.1) h.1, grown_trans h.2 (grown_below hb)⟩
theorem RipAt.all {w w' : World} {b : Nat} {s s' : Sip} (h : RipAt w b s w') : RipAt w b s' ((((w'.setCell ⟨b, 0, none⟩ (.int .u64 s'.a)).setCell ⟨b, 1, none⟩ (.int .u64 s'.b)).setCell ⟨b, 2, none⟩ (.int .u64 s'.c)).setCell ⟨b, 3, none⟩ (.int .u64 s'.d)) :=
  (((h.set (s' := ⟨s'.a, s.b, s.c, s.d⟩) rfl).set (s' := ⟨s'.a, s'.b, s.c, s.d⟩) rfl).set (s' := ⟨s'.a, s'.b, s'.c, s.d⟩) rfl).set rfl
theorem RipAt.base {w W w' : World} {b B : Nat} {s : Sip} (h : RipAt W b s w') (hb : Below B w W) (hB : B ≤ b) (hW : B ≤ W.heap.size) : Below B w w' :=
  hb.trans ⟨h.2.os, h.2.tape, h.2.output, h.2.size, fun k hk => h.2.block k (by omega) (by simp; omega)⟩
/-- the length's byte on top -/
theorem top_wrap (n : Nat) : (n : Int) % 256 * 72057594037927936 = IntKind.u64.wrap ((n : Int) * 72057594037927936) := by
  have h : ∀ x : Int, IntKind.u64.wrap x = x % 18446744073709551616 := fun x => rfl
  rw [h]; omega
set_option maxHeartbeats 8000000 in
theorem rsum_any (S : Nat → Prop) (ka kb : Int) (v : Value) (l : List UInt8) (w : World) (h : Vec w S 1 encB v l) (hl : l.length ≤ 1000000000) :
    Calls Tryz.prog 63 #[.agg #[.int .u64 ka, .int .u64 kb], v] w fun e w' => e = .returned (.int .u64 (sumP ka kb l)) ∧ Below w.heap.size w w' := by
  obtain ⟨a, cap, rfl⟩ := h.slice
  have hcap := h.len.2
  have HV := Lib.hid (h.any.move (S' := fun b => b < w.heap.size) (w' := w) (Nat.le_refl _) fun b hb _ => ⟨rfl, hb⟩); clear h
  go_enter Tryz.func63, Tryz.ntmps63
  go_wp2_with fail
  refine wp_world (fun W hW => ?_)
  have hb0 : Below w.heap.size w W := by rw [hW]; exact ((Below.refl _ _).alloc (Nat.le_refl _) _).alloc (by simp) _
  have hs0 : RipAt W (w.heap.size + 1) ⟨xr ka 8317987319222330741, xr kb 7237128888997146477, xr ka 7816392313619706465, xr kb 8387220255154660723⟩ W := by rw [hW]; exact ⟨blk_new (by simp), grown_refl _ _⟩
  have hv0 := HV.out.below hb0
  clear hW HV
  have HB0 := Lib.hid hb0; have HS0 := Lib.hid hs0; have HV0 := Lib.hid hv0
  clear hb0 hs0 hv0
  go_loopw [6] (fun at_ wr => ∃ (j : Nat) (s : Sip), at_ = .int .i64 ((8 * j : Nat) : Int) ∧ 8 * j ≤ l.length ∧ RipAt W (w.heap.size + 1) s wr ∧ Hid (eachP s (l.drop (8 * j)) ((l.drop (8 * j)).length / 8) = eachP ⟨xr ka 8317987319222330741, xr kb 7237128888997146477, xr ka 7816392313619706465, xr kb 8387220255154660723⟩ l (l.length / 8))) (fun at_ _ => l.length + 1 - (intOf at_).toNat)
  case atStart => exact ⟨0, _, rfl, by omega, HS0.out, Lib.hid rfl⟩
  case round =>
    obtain ⟨j, s, rfl, hj, hs, HE⟩ := hrel
    obtain ⟨J, hJ⟩ : ∃ J, 8 * j = J := ⟨_, rfl⟩
    rw [hJ] at hj HE ⊢
    obtain ⟨r, hr⟩ : ∃ r, l.drop J = r := ⟨_, rfl⟩
    have hrl : r.length = l.length - J := by rw [← hr, List.length_drop]
    rw [hr] at HE
    have HRD := Lib.hid hr; have HJ := Lib.hid hJ
    have HV := Lib.hid (HV0.out.grown (b := w.heap.size + 1) (fun x hx => by omega) hs.2)
    have HS := Lib.hid hs
    obtain ⟨⟨c0, c1, c2, c3⟩, f0, f1, f2, f3⟩ := hs.read
    have lb := lt_of_blk hs.1
    clear hs hr hJ
    by_cases hlt : 8 ≤ r.length
    · have hmin : min (8 : Int) ((l.length : Int) - (J : Int)) = 8 := by omega
      have hq8 : decide ((8 : Int) < 8) = false := rfl
      have hend : eachP s r (r.length / 8) = eachP (wordP s (numP 0 0 (r.take 8))) (r.drop 8) ((r.drop 8).length / 8) := eachP_more s r hlt
      have HEnd := Lib.hid hend; clear hend
      go_wp2_with fail
      go_loopw [7, 9] (fun m i wx => wx = wr ∧ ∃ (k : Nat) (mm : Int), i = .int .i64 k ∧ k ≤ 8 ∧ m = .int .u64 mm ∧ Hid (numP k mm ((r.take 8).drop k) = numP 0 0 (r.take 8))) (fun _ i _ => 8 - (intOf i).toNat)
      case atStart => exact ⟨rfl, 0, 0, rfl, by omega, rfl, Lib.hid rfl⟩
      case round =>
        obtain ⟨rfl, k, mm, rfl, hk, rfl, HT⟩ := hrel
        by_cases hlk : k < 8
        · have hq : decide ((k : Int) < 8) = true := by simp; omega
          obtain ⟨b, off, rfl, hb, hc⟩ := HV.out.get (J + k) (by omega)
          have c0 := hc 0 _ rfl
          rw [Nat.mul_one, Nat.add_zero] at c0
          unfold byteV at c0
          have hkr : k < (r.take 8).length := by rw [List.length_take]; omega
          have hg : (r.take 8)[k] = l[J + k] := by rw [List.getElem_take]; simp only [← HRD.out, List.getElem_drop]
          have ht := HT.out
          rw [List.drop_eq_getElem_cons hkr, hg] at ht
          have HT2 := Lib.hid ht
          clear ht hg HT hc
          go_wp2_with fail
          go_roundw
          case rel => exact ⟨trivial, k + 1, _, by go_num, by omega, rfl, Lib.hid (by rw [← HT2.out]; rfl)⟩
          case measure => simp [intOf]; omega
        · have hq : decide ((k : Int) < 8) = false := by simp; omega
          have hd : (r.take 8).drop k = [] := List.drop_eq_nil_of_le (by rw [List.length_take]; omega)
          rw [hd] at HT
          obtain rfl : mm = numP 0 0 (r.take 8) := HT.out
          clear HT hd hq
          obtain ⟨m, hm⟩ : ∃ m, numP 0 0 (r.take 8) = m := ⟨_, rfl⟩
          rw [hm] at HEnd ⊢
          have HM := Lib.hid hm; clear hm
          go_wp2_with fail
          have hS := HS.out.set (i := 3) (v := .int .u64 (xr s.d m)) (s' := ⟨s.a, s.b, s.c, xr s.d m⟩) rfl
          clear HS; have HS := Lib.hid hS; clear hS
          clear c0 c1 c2 c3 f0 f1 f2 f3
          refine (rround_any ⟨s.a, s.b, s.c, xr s.d m⟩ _).mono ?_
          rintro e w1 ⟨rfl, hb⟩
          have hS := HS.out.below hb
          clear HS hb; have HS := Lib.hid hS; clear hS
          go_wp2_with fail
          refine (rround_any (rndP ⟨s.a, s.b, s.c, xr s.d m⟩) _).mono ?_
          rintro e w2 ⟨rfl, hb⟩
          have hS := HS.out.below hb
          clear HS hb
          obtain ⟨t, ht⟩ : ∃ t, rndP (rndP ⟨s.a, s.b, s.c, xr s.d m⟩) = t := ⟨_, rfl⟩
          rw [ht]
          have hw : wordP s m = ⟨xr t.a m, t.b, t.c, t.d⟩ := by rw [← ht]; rfl
          have HW := Lib.hid hw
          have HS := Lib.hid hS
          obtain ⟨⟨c0, c1, c2, c3⟩, f0, f1, f2, f3⟩ := hS.read
          have lb2 := lt_of_blk hS.1
          clear hS ht hw
          go_wp2_with fail
          exact ⟨⟨j + 1, ⟨xr t.a m, t.b, t.c, t.d⟩, congrArg (Value.int .i64) (by have := HJ.out; omega), by have := HJ.out; omega, (HS.out.all (s' := t)).set (i := 0) (v := .int .u64 (xr t.a m)) rfl, Lib.hid (by rw [← HE.out, HEnd.out, HW.out, show 8 * (j + 1) = J + 8 by have := HJ.out; omega, ← List.drop_drop, HRD.out])⟩, by simp [intOf]; omega⟩
    · have hmin : min (8 : Int) ((l.length : Int) - (J : Int)) = (l.length : Int) - (J : Int) := by omega
      have hq8 : decide ((l.length : Int) - (J : Int) < 8) = true := by simp; omega
      have hr8 : r.take 8 = r := List.take_of_length_le (by omega)
      have hE := HE.out
      rw [eachP_end s r (by omega)] at hE
      have HE2 := Lib.hid hE.symm
      clear hE HE
      go_wp2_with fail
      go_loopw [7, 9] (fun m i wx => wx = wr ∧ ∃ (k : Nat) (mm : Int), i = .int .i64 k ∧ k ≤ r.length ∧ m = .int .u64 mm ∧ Hid (numP k mm ((r.take 8).drop k) = numP 0 0 (r.take 8))) (fun _ i _ => r.length - (intOf i).toNat)
      case atStart => exact ⟨rfl, 0, 0, rfl, by omega, rfl, Lib.hid rfl⟩
      case round =>
        obtain ⟨rfl, k, mm, rfl, hk, rfl, HT⟩ := hrel
        by_cases hlk : k < r.length
        · have hq : decide ((k : Int) < (l.length : Int) - (J : Int)) = true := by simp; omega
          obtain ⟨b, off, rfl, hb, hc⟩ := HV.out.get (J + k) (by omega)
          have c0 := hc 0 _ rfl
          rw [Nat.mul_one, Nat.add_zero] at c0
          unfold byteV at c0
          have hkr : k < (r.take 8).length := by rw [List.length_take]; omega
          have hg : (r.take 8)[k] = l[J + k] := by rw [List.getElem_take]; simp only [← HRD.out, List.getElem_drop]
          have ht := HT.out
          rw [List.drop_eq_getElem_cons hkr, hg] at ht
          have HT2 := Lib.hid ht
          clear ht hg HT hc
          go_wp2_with fail
          go_roundw
          case rel => exact ⟨trivial, k + 1, _, by go_num, by omega, rfl, Lib.hid (by rw [← HT2.out]; rfl)⟩
          case measure => simp [intOf]; omega
        · have hq : decide ((k : Int) < (l.length : Int) - (J : Int)) = false := by simp; omega
          have hd : (r.take 8).drop k = [] := List.drop_eq_nil_of_le (by rw [List.length_take]; omega)
          rw [hd] at HT
          obtain rfl : mm = numP 0 0 (r.take 8) := HT.out
          clear HT hd hq
          have htw := top_wrap l.length
          rw [hr8]
          obtain ⟨m, hm⟩ : ∃ m, bits .or .u64 (numP 0 0 r) (IntKind.u64.wrap ((l.length : Int) * 72057594037927936)) = m := ⟨_, rfl⟩
          have hm2 : bits .or .u64 (numP 0 0 r) ((l.length : Int) % 256 * 72057594037927936) = m := by rw [htw]; exact hm
          have HM := Lib.hid hm; clear hm htw
          go_wp2_with fail
          clear hm2
          have hS := HS.out.set (i := 3) (v := .int .u64 (xr s.d m)) (s' := ⟨s.a, s.b, s.c, xr s.d m⟩) rfl
          clear HS; have HS := Lib.hid hS; clear hS
          clear c0 c1 c2 c3 f0 f1 f2 f3
          refine (rround_any ⟨s.a, s.b, s.c, xr s.d m⟩ _).mono ?_
          rintro e w1 ⟨rfl, hb⟩
          have hS := HS.out.below hb
          clear HS hb; have HS := Lib.hid hS; clear hS
          go_wp2_with fail
          refine (rround_any (rndP ⟨s.a, s.b, s.c, xr s.d m⟩) _).mono ?_
          rintro e w2 ⟨rfl, hb⟩
          have hS := HS.out.below hb
          clear HS hb
          obtain ⟨t, ht⟩ : ∃ t, rndP (rndP ⟨s.a, s.b, s.c, xr s.d m⟩) = t := ⟨_, rfl⟩
          rw [ht]
          have hw : wordP s m = ⟨xr t.a m, t.b, t.c, t.d⟩ := by rw [← ht]; rfl
          have HW := Lib.hid hw
          have HS := Lib.hid hS
          obtain ⟨⟨c0, c1, c2, c3⟩, f0, f1, f2, f3⟩ := hS.read
          have lb2 := lt_of_blk hS.1
          clear hS ht hw
          go_upto_region 14 with fail
          refine wp_world (fun W1 hW1 => ?_)
          have hS : RipAt W (w.heap.size + 1) t W1 := by rw [hW1]; exact HS.out.all (s' := t)
          clear HS c0 c1 c2 c3 f0 f1 f2 f3 lb2 hW1; have HS := Lib.hid hS
          obtain ⟨⟨c0, c1, c2, c3⟩, f0, f1, f2, f3⟩ := hS.read
          have lb2 := lt_of_blk hS.1
          clear hS
          go_upto_region 16 with fail
          refine wp_world (fun W2 hW2 => ?_)
          have hS : RipAt W (w.heap.size + 1) ⟨xr t.a m, t.b, t.c, t.d⟩ W2 := by rw [hW2]; exact HS.out.set (i := 0) (v := .int .u64 (xr t.a m)) rfl
          clear HS c0 c1 c2 c3 f0 f1 f2 f3 lb2 hW2; have HS := Lib.hid hS
          obtain ⟨⟨c0, c1, c2, c3⟩, f0, f1, f2, f3⟩ := hS.read
          have lb2 := lt_of_blk hS.1
          clear hS
          go_wp2_with fail
          have hS := HS.out.set (i := 2) (v := .int .u64 (xr t.c 255)) (s' := ⟨xr t.a m, t.b, xr t.c 255, t.d⟩) rfl
          clear HS c0 c1 c2 c3 f0 f1 f2 f3; have HS := Lib.hid hS; clear hS
          obtain ⟨u, hu⟩ : ∃ u : Sip, (⟨xr t.a m, t.b, t.c, t.d⟩ : Sip) = u := ⟨_, rfl⟩
          refine (rround_any ⟨xr t.a m, t.b, xr t.c 255, t.d⟩ _).mono ?_
          rintro e w3 ⟨rfl, hb⟩
          have hS := HS.out.below hb
          clear HS hb; have HS := Lib.hid hS; clear hS
          go_wp2_with fail
          refine (rround_any (rndI 1 ⟨xr t.a m, t.b, xr t.c 255, t.d⟩) _).mono ?_
          rintro e w4 ⟨rfl, hb⟩
          have hS := HS.out.below hb
          clear HS hb; have HS := Lib.hid hS; clear hS
          go_wp2_with fail
          refine (rround_any (rndI 2 ⟨xr t.a m, t.b, xr t.c 255, t.d⟩) _).mono ?_
          rintro e w5 ⟨rfl, hb⟩
          have hS := HS.out.below hb
          clear HS hb; have HS := Lib.hid hS; clear hS
          go_wp2_with fail
          refine (rround_any (rndI 3 ⟨xr t.a m, t.b, xr t.c 255, t.d⟩) _).mono ?_
          rintro e w6 ⟨rfl, hb⟩
          have hS := HS.out.below hb
          clear HS hb
          obtain ⟨v, hv⟩ : ∃ v, rndI 4 ⟨xr t.a m, t.b, xr t.c 255, t.d⟩ = v := ⟨_, rfl⟩
          rw [show rndP (rndI 3 ⟨xr t.a m, t.b, xr t.c 255, t.d⟩) = v from hv]
          have HVv := Lib.hid hv
          have HS := Lib.hid hS
          obtain ⟨⟨c0, c1, c2, c3⟩, f0, f1, f2, f3⟩ := hS.read
          have lb2 := lt_of_blk hS.1
          clear hS hv hu
          go_upto_region 18 with fail
          refine wp_world (fun W3 hW3 => ?_)
          have hS : RipAt W (w.heap.size + 1) v W3 := by rw [hW3]; exact HS.out.all (s' := v)
          clear HS hW3 c0 c1 c2 c3 f0 f1 f2 f3; have HS := Lib.hid hS
          obtain ⟨⟨c0, c1, c2, c3⟩, f0, f1, f2, f3⟩ := hS.read
          have lb3 := lt_of_blk hS.1
          clear hS
          go_wp2_with fail
          go_ret
          refine ⟨?_, HS.out.base HB0.out (by omega) HB0.out.size⟩
          rw [← sumP_of ka kb l s r HE2.out ⟨xr t.a m, t.b, t.c, t.d⟩ (by rw [HM.out]; exact HW.out) v HVv.out]
          rfl
end Go.Proofs.YthdolmofeeniaaaGreatDoor
end
section
/- siphash, the reference's: Parts, Derive. -/
set_option linter.unusedSimpArgs false
set_option linter.unusedVariables false
set_option maxRecDepth 100000
namespace Go.Proofs.YthdolmofeeniaaaGreatDoor
open Go.RowKit
set_option maxHeartbeats 4000000 in
theorem rsparts_any (S : Nat → Prop) (ka kb : Int) (v : Value) (L : List (List UInt8)) (w : World) (h : Vec w S 1 encS v L) (hl : ∀ t ∈ L, t.length ≤ 60000) (hn : L.length ≤ 1000) :
    Calls Tryz.prog 18 #[.agg #[.int .u64 ka, .int .u64 kb], v] w fun e w' => e = .returned (.int .u64 (partsP ka kb L)) ∧ Below w.heap.size w w' := by
  obtain ⟨a, cap, rfl⟩ := h.slice
  have HV := Lib.hid h.any; clear h
  have HL := Lib.hid hl; clear hl
  go_enter Tryz.func18, Tryz.ntmps18
  go_wp2_with fail
  refine wp_world (fun W hW => ?_)
  have hb0 : Below w.heap.size w W := by rw [hW]; exact (Below.refl _ _).alloc (Nat.le_refl _) _
  have hk : W.heap[w.heap.size]? = some (.cells #[.int .u64 ka, .int .u64 kb] 39 (0, 0)) := by rw [hW]; exact blk_new rfl
  have HV0 := Lib.hid (HV.out.below hb0)
  have HB0 := Lib.hid hb0; have HK := Lib.hid hk
  clear hW hb0 hk HV
  go_loopw [5, 6] (fun v i wr => ∃ k : Nat, i = .int .i64 k ∧ k ≤ L.length ∧ OwnV 5 1 encB W v ((L.take k).flatMap partP) wr) (fun _ i _ => L.length - (intOf i).toNat)
  case atStart => exact ⟨0, rfl, by omega, OwnV.start _ _ _ _⟩
  case round =>
    obtain ⟨k, rfl, hk, ho⟩ := hrel
    have HO := Lib.hid ho; clear ho
    by_cases hlt : k < L.length
    · have hq : decide ((k : Int) < L.length) = true := by simp; omega
      obtain ⟨t, ht⟩ : ∃ t, L[k] = t := ⟨_, rfl⟩
      have htl : t.length ≤ 60000 := HL.out t (by rw [← ht]; exact List.getElem_mem _)
      obtain ⟨b, off, rfl, hb, hc⟩ := (HV0.out.below HO.out.2).get k hlt
      have c0 := hc 0 _ rfl
      rw [Nat.mul_one, Nat.add_zero, ht] at c0
      clear hc
      have hm : decide ((65535 : Int) < t.length) = false := by simp; omega
      have hx := extract_all t
      obtain ⟨x, ex⟩ : ∃ x, UInt8.ofNat (t.length / 256) = x := ⟨_, rfl⟩
      obtain ⟨y, ey⟩ : ∃ y, UInt8.ofNat t.length = y := ⟨_, rfl⟩
      have hxa : (t.length : Int) / 256 = (x.toNat : Int) := by rw [← ex, UInt8.toNat_ofNat']; omega
      have hya : (t.length : Int) % 256 = (y.toNat : Int) := by rw [← ey, UInt8.toNat_ofNat']; omega
      have hp := partP_short t htl
      rw [ex, ey] at hp
      have hts : L.take (k + 1) = L.take k ++ [t] := by rw [List.take_succ_eq_append_getElem hlt, ht]
      have htk := sparts_len (L.take k) fun u hu => HL.out u (List.mem_of_mem_take hu)
      rw [List.length_take] at htk
      have HP := Lib.hid hp; have HTs := Lib.hid hts
      clear hp hts ex ey
      obtain ⟨P, hP⟩ : ∃ P, (L.take k).flatMap partP = P := ⟨_, rfl⟩
      rw [hP] at HO htk
      have HPP := Lib.hid hP; clear hP
      have HO1 := Lib.hid (HO.out.below ((Below.refl _ _).alloc (Nat.le_refl _) (.cells #[.int .u8 (x.toNat : Int), .int .u8 (y.toNat : Int)] 5)))
      have HR1 := Lib.hid (reads_row (xs := [x, y].flatMap encB) (n := 2) (c := 2) (heap_alloc_new wr (.cells #[.int .u8 (x.toNat : Int), .int .u8 (y.toNat : Int)] 5)) rfl)
      have hz0 := HO.out.2.size
      have hlen : P.length + ([x, y] : List UInt8).length ≤ 1000000000 := by simp only [List.length_cons, List.length_nil]; omega
      have hlen2 : (P ++ [x, y]).length + t.length ≤ 1000000000 := by rw [List.length_append]; simp only [List.length_cons, List.length_nil]; omega
      go_wp2_with (at_builtin; first | (refine wpList_append_v rfl (.tmp 23) (.tmp 31) 85 rfl 5 (.int .u8 0) 1 1 encB (fun _ => rfl) one_encB Tryz.underlying85 infoBy rfl (by decide) (by decide) (w0 := W) (v := u5) (A := P) (B := [x, y]) rfl HO1.out rfl HR1.out hlen ?_; intro v2 w2 ho2 hk2 hz2) | (refine wpList_append_s rfl (.tmp 33) (.tmp 34) 85 9 rfl 5 Tryz.underlying85 Tryz.underlying9 infoBy (w0 := W) (v := v2) (A := P ++ [x, y]) t rfl ho2 rfl hlen2 ?_; intro v3 w3 ho3 hz3))
      go_roundw
      case rel => exact ⟨k + 1, by go_num, by omega, by rw [HTs.out, List.flatMap_append, HPP.out, List.flatMap_cons, List.flatMap_nil, List.append_nil, HP.out, ← List.append_assoc]; exact ho3⟩
      case measure => simp [intOf]; omega
    · have hq : decide ((k : Int) < L.length) = false := by simp; omega
      have htk := sparts_len L fun u hu => HL.out u hu
      rw [List.take_of_length_le (by omega)] at HO
      have hz0 := HO.out.2.size
      have hk2 : wr.heap[w.heap.size]? = some (.cells #[.int .u64 ka, .int .u64 kb] 39 (0, 0)) := blk_below HO.out.2 (lt_of_blk HK.out) HK.out
      obtain ⟨k0, k1⟩ := cells2K hk2
      go_wp2_with fail
      refine (rsum_any _ ka kb _ (L.flatMap partP) _ (OwnV.vec (size := 1) (enc := encB) (fun _ => rfl) HO.out) (by omega)).mono ?_
      rintro e w2 ⟨rfl, hb2⟩
      go_wp2_with fail
      go_ret
      exact ⟨rfl, HB0.out.trans ((HO.out.2.mono HB0.out.size).trans (hb2.mono (by have := HB0.out.size; omega)))⟩
/-- two texts that lie in one block -/
theorem rparts_two (ka kb : Int) (x y : List UInt8) (hx : x.length ≤ 60000) (hy : y.length ≤ 60000) (w : World) (g : Nat) (h : w.heap[g]? = some (.cells #[strV x, strV y] 9 (0, 0))) :
    Calls Tryz.prog 18 #[.agg #[.int .u64 ka, .int .u64 kb], .slice (some ⟨g, 0, none⟩) 2 2] w fun e w' => e = .returned (.int .u64 (partsP ka kb [x, y])) ∧ Below w.heap.size w w' := by
  refine rsparts_any Any1 ka kb _ [x, y] w ⟨_, 2, rfl, by simp, fun _ => ⟨g, 0, rfl, trivial, lt_of_blk h, fun j z hj i u hu => ?_⟩⟩ (by intro t ht; simp at ht; rcases ht with rfl | rfl <;> omega) (by simp)
  rw [cell_of_row _ _ _ _ _ _ h]
  match j, i, hj, hu with
  | 0, 0, hj, hu => simp at hj; subst hj; simpa using hu
  | 1, 0, hj, hu => simp at hj; subst hj; simpa using hu
  | 0, i + 1, hj, hu => simp at hu
  | 1, i + 1, hj, hu => simp at hu
  | j + 2, _, hj, _ => simp at hj
set_option maxHeartbeats 4000000 in
theorem rderive_any (ka kb : Int) (l : List UInt8) (w : World) (hl : l.length ≤ 60000) :
    Calls Tryz.prog 19 #[.agg #[.int .u64 ka, .int .u64 kb], strV l] w fun e w' => e = .returned (.agg #[.int .u64 (deriveP ka kb l).1, .int .u64 (deriveP ka kb l).2]) ∧ Below w.heap.size w w' := by
  obtain ⟨p, hp⟩ : ∃ p, partsP ka kb [l, [97]] = p := ⟨_, rfl⟩
  obtain ⟨q, hq⟩ : ∃ q, partsP ka kb [l, [98]] = q := ⟨_, rfl⟩
  have hpq : deriveP ka kb l = (p, q) := by rw [← hp, ← hq]; rfl
  rw [hpq]
  have HP := Lib.hid hp; have HQ := Lib.hid hq
  clear hp hq hpq
  go_enter Tryz.func19, Tryz.ntmps19
  go_wp2_with fail
  refine wp_world (fun W hW => ?_)
  have hb0 : Below w.heap.size w W := by rw [hW]; exact ((Below.refl _ _).alloc (Nat.le_refl _) _).alloc (by simp) _
  have hk0 : W.heap[w.heap.size]? = some (.cells #[.int .u64 ka, .int .u64 kb] 39 (0, 0)) := by rw [hW]; exact blk_old (blk_new rfl)
  have hz0 : W.heap[w.heap.size + 1]? = some (.cells #[.int .u64 0, .int .u64 0] 39 (0, 0)) := by rw [hW]; exact blk_new (by simp)
  have hW0 := lt_of_blk hk0
  obtain ⟨k0, k1⟩ := cells2K hk0
  clear hW
  have bD : Below W.heap.size W W.drew := (Below.refl _ _).drew
  refine wp_region_noPanic ?_
  refine wp_region_k (by kernel_rfl) (fun w' => w'.cell? ⟨w.heap.size, 0, none⟩ = some (.int .u64 ka) ∧ w'.cell? ⟨w.heap.size, 1, none⟩ = some (.int .u64 kb)) 9 (⟨k0, k1⟩) (fun hHeld => ?_)
  refine wpAnyK_take (i := 0) (v := ?_) rfl (by kernel_rfl) (by kernel_rfl) (by kernel_rfl) (by kernel_rfl) (fun _ _ _ h => h) (Or.inl ⟨by rfl, ?_⟩) (by assumption) ?_
  rotate_left 1
  · (intro wS hSw; (try dsimp only at hSw); go_simp; try with_reducible rfl)
  try simp only [List.getElem_toArray, List.getElem_cons_zero, List.getElem_cons_succ, Act.put, List.setIfInBounds_toArray, List.set_cons_zero, List.set_cons_succ]
  refine wpAnyK_take (i := 1) (v := ?_) rfl (by kernel_rfl) (by kernel_rfl) (by kernel_rfl) (by kernel_rfl) (fun _ _ _ h => h) (Or.inl ⟨by rfl, ?_⟩) (by assumption) ?_
  rotate_left 1
  · (intro wS hSw; (try dsimp only at hSw); go_simp; try with_reducible rfl)
  try simp only [List.getElem_toArray, List.getElem_cons_zero, List.getElem_cons_succ, Act.put, List.setIfInBounds_toArray, List.set_cons_zero, List.set_cons_succ]
  refine wpAnyK_take (i := 4) (v := ?_) rfl (by kernel_rfl) (by kernel_rfl) (by kernel_rfl) (by kernel_rfl) (fun _ _ _ h => h) (Or.inl ⟨by rfl, ?_⟩) (by assumption) ?_
  rotate_left 1
  · (intro wS hSw; (try dsimp only at hSw); go_simp; try with_reducible rfl)
  try simp only [List.getElem_toArray, List.getElem_cons_zero, List.getElem_cons_succ, Act.put, List.setIfInBounds_toArray, List.set_cons_zero, List.set_cons_succ]
  refine wpAnyK_take (i := 5) (v := ?_) rfl (by kernel_rfl) (by kernel_rfl) (by kernel_rfl) (by kernel_rfl) (fun _ _ _ h => h) (Or.inl ⟨by rfl, ?_⟩) (by assumption) ?_
  rotate_left 1
  · (intro wS hSw; (try dsimp only at hSw); go_simp; try with_reducible rfl)
  try simp only [List.getElem_toArray, List.getElem_cons_zero, List.getElem_cons_succ, Act.put, List.setIfInBounds_toArray, List.set_cons_zero, List.set_cons_succ]
  refine wpAnyK_ready (rs := [2, 6]) (by kernel_rfl) (by simp) ?_
  refine AllReadyK.cons rfl (fun K hK => ?_) (AllReadyK.cons rfl (fun K hK => ?_) AllReadyK.nil)
  focus
    go_simp
    refine shutK hK (⟨((bD.alloc bD.size _).cell (p := ⟨w.heap.size, 0, none⟩) hW0).trans k0, ((bD.alloc bD.size _).cell (p := ⟨w.heap.size, 1, none⟩) hW0).trans k1⟩) (fun hHeld => ?_)
    clear hK K
    try simp only [List.getElem_toArray, List.getElem_cons_zero, List.getElem_cons_succ, Act.put, List.setIfInBounds_toArray, List.set_cons_zero, List.set_cons_succ]
    refine wpk_name (fun W1 hW1 => ?_)
    have b1 : Below W.heap.size W W1 := by rw [hW1]; exact bD.alloc bD.size (.cells #[strV l, strV [97]] 9)
    have g1 : W1.heap[W.heap.size]? = some (.cells #[strV l, strV [97]] 9 (0, 0)) := by rw [hW1]; exact blk_new rfl
    clear hW1
    refine wpAnyK_ready (rs := [3, 6]) (by kernel_rfl) (by simp) ?_
    refine AllReadyK.cons rfl (fun K hK => ?_) (AllReadyK.cons rfl (fun K hK => ?_) AllReadyK.nil)
    focus
      go_simp
      refine (rparts_two ka kb l [97] hl (by decide) _ _ g1).mono ?_
      rintro e w2 ⟨rfl, hb⟩
      have b2 := b1.trans (hb.mono b1.size)
      clear hb
      refine shutK hK (⟨(b2.cell (p := ⟨w.heap.size, 0, none⟩) hW0).trans k0, (b2.cell (p := ⟨w.heap.size, 1, none⟩) hW0).trans k1⟩) (fun hHeld => ?_)
      clear hK K
      try simp only [List.getElem_toArray, List.getElem_cons_zero, List.getElem_cons_succ, Act.put, List.setIfInBounds_toArray, List.set_cons_zero, List.set_cons_succ]
      refine wpAnyK_ready (rs := [6]) (by kernel_rfl) (by simp) ?_
      refine AllReadyK.cons rfl (fun K hK => ?_) AllReadyK.nil
      go_simp
      refine shutK hK (⟨((b2.alloc b2.size _).cell (p := ⟨w.heap.size, 0, none⟩) hW0).trans k0, ((b2.alloc b2.size _).cell (p := ⟨w.heap.size, 1, none⟩) hW0).trans k1⟩) (fun hHeld => ?_)
      clear hK K
      try simp only [List.getElem_toArray, List.getElem_cons_zero, List.getElem_cons_succ, Act.put, List.setIfInBounds_toArray, List.set_cons_zero, List.set_cons_succ]
      refine wpk_name (fun W3 hW3 => ?_)
      have b3 : Below W.heap.size W W3 := by rw [hW3]; exact b2.alloc b2.size (.cells #[strV l, strV [98]] 9)
      have g3 : W3.heap[w2.heap.size]? = some (.cells #[strV l, strV [98]] 9 (0, 0)) := by rw [hW3]; exact blk_new rfl
      clear hW3
    rotate_left 1
    focus
      go_simp
      refine shutK hK (⟨((b1.alloc b1.size _).cell (p := ⟨w.heap.size, 0, none⟩) hW0).trans k0, ((b1.alloc b1.size _).cell (p := ⟨w.heap.size, 1, none⟩) hW0).trans k1⟩) (fun hHeld => ?_)
      clear hK K
      try simp only [List.getElem_toArray, List.getElem_cons_zero, List.getElem_cons_succ, Act.put, List.setIfInBounds_toArray, List.set_cons_zero, List.set_cons_succ]
      refine wpk_name (fun W2 hW2 => ?_)
      have b2 : Below W.heap.size W W2 := by rw [hW2]; exact b1.alloc b1.size (.cells #[strV l, strV [98]] 9)
      have g3 : W2.heap[W1.heap.size]? = some (.cells #[strV l, strV [98]] 9 (0, 0)) := by rw [hW2]; exact blk_new rfl
      have g1' : W2.heap[W.heap.size]? = some (.cells #[strV l, strV [97]] 9 (0, 0)) := by rw [hW2]; exact blk_old g1
      clear hW2
      refine wpAnyK_ready (rs := [3]) (by kernel_rfl) (by simp) ?_
      refine AllReadyK.cons rfl (fun K hK => ?_) AllReadyK.nil
      go_simp
      refine (rparts_two ka kb l [97] hl (by decide) _ _ g1').mono ?_
      rintro e W3 ⟨rfl, hb⟩
      have b3 := b2.trans (hb.mono b2.size)
      have g3 := blk_below hb (lt_of_blk g3) g3
      clear hb
      refine shutK hK (⟨(b3.cell (p := ⟨w.heap.size, 0, none⟩) hW0).trans k0, (b3.cell (p := ⟨w.heap.size, 1, none⟩) hW0).trans k1⟩) (fun hHeld => ?_)
      clear hK K
      try simp only [List.getElem_toArray, List.getElem_cons_zero, List.getElem_cons_succ, Act.put, List.setIfInBounds_toArray, List.set_cons_zero, List.set_cons_succ]
  rotate_left 2
  focus
    go_simp
    refine shutK hK (⟨((bD.alloc bD.size _).cell (p := ⟨w.heap.size, 0, none⟩) hW0).trans k0, ((bD.alloc bD.size _).cell (p := ⟨w.heap.size, 1, none⟩) hW0).trans k1⟩) (fun hHeld => ?_)
    clear hK K
    try simp only [List.getElem_toArray, List.getElem_cons_zero, List.getElem_cons_succ, Act.put, List.setIfInBounds_toArray, List.set_cons_zero, List.set_cons_succ]
    refine wpk_name (fun W1 hW1 => ?_)
    have b1 : Below W.heap.size W W1 := by rw [hW1]; exact bD.alloc bD.size (.cells #[strV l, strV [98]] 9)
    have g3 : W1.heap[W.heap.size]? = some (.cells #[strV l, strV [98]] 9 (0, 0)) := by rw [hW1]; exact blk_new rfl
    clear hW1
    refine wpAnyK_ready (rs := [2]) (by kernel_rfl) (by simp) ?_
    refine AllReadyK.cons rfl (fun K hK => ?_) AllReadyK.nil
    go_simp
    refine shutK hK (⟨((b1.alloc b1.size _).cell (p := ⟨w.heap.size, 0, none⟩) hW0).trans k0, ((b1.alloc b1.size _).cell (p := ⟨w.heap.size, 1, none⟩) hW0).trans k1⟩) (fun hHeld => ?_)
    clear hK K
    try simp only [List.getElem_toArray, List.getElem_cons_zero, List.getElem_cons_succ, Act.put, List.setIfInBounds_toArray, List.set_cons_zero, List.set_cons_succ]
    refine wpk_name (fun W2 hW2 => ?_)
    have b2 : Below W.heap.size W W2 := by rw [hW2]; exact b1.alloc b1.size (.cells #[strV l, strV [97]] 9)
    have g1 : W2.heap[W1.heap.size]? = some (.cells #[strV l, strV [97]] 9 (0, 0)) := by rw [hW2]; exact blk_new rfl
    have g3' : W2.heap[W.heap.size]? = some (.cells #[strV l, strV [98]] 9 (0, 0)) := by rw [hW2]; exact blk_old g3
    clear hW2
    refine wpAnyK_ready (rs := [3]) (by kernel_rfl) (by simp) ?_
    refine AllReadyK.cons rfl (fun K hK => ?_) AllReadyK.nil
    go_simp
    refine (rparts_two ka kb l [97] hl (by decide) _ _ g1).mono ?_
    rintro e W3 ⟨rfl, hb⟩
    have b3 := b2.trans (hb.mono b2.size)
    have g3 := blk_below hb (lt_of_blk g3') g3'
    clear hb
    refine shutK hK (⟨(b3.cell (p := ⟨w.heap.size, 0, none⟩) hW0).trans k0, (b3.cell (p := ⟨w.heap.size, 1, none⟩) hW0).trans k1⟩) (fun hHeld => ?_)
    clear hK K
    try simp only [List.getElem_toArray, List.getElem_cons_zero, List.getElem_cons_succ, Act.put, List.setIfInBounds_toArray, List.set_cons_zero, List.set_cons_succ]
  all_goals
    refine wpAnyK_ready (rs := [7]) (by kernel_rfl) (by simp) ?_
    refine AllReadyK.cons rfl (fun K hK => ?_) AllReadyK.nil
    go_simp
    refine (rparts_two ka kb l [98] hl (by decide) _ _ g3).mono ?_; rintro e w4 ⟨rfl, hb⟩; have b4 := b3.trans (hb.mono b3.size); clear hb; rw [HP.out, HQ.out]
    refine shutK hK (⟨(b4.cell (p := ⟨w.heap.size, 0, none⟩) hW0).trans k0, (b4.cell (p := ⟨w.heap.size, 1, none⟩) hW0).trans k1⟩) (fun hHeld => ?_)
    clear hK K
    try simp only [List.getElem_toArray, List.getElem_cons_zero, List.getElem_cons_succ, Act.put, List.setIfInBounds_toArray, List.set_cons_zero, List.set_cons_succ]
    refine wpAnyK_take (i := 8) (v := ?_) rfl (by kernel_rfl) (by kernel_rfl) (by kernel_rfl) (by kernel_rfl) (fun _ _ _ h => h) (Or.inl ⟨by rfl, ?_⟩) (by assumption) ?_
    rotate_left 1
    · (intro wS hSw; (try dsimp only at hSw); go_simp; try with_reducible rfl)
    try simp only [List.getElem_toArray, List.getElem_cons_zero, List.getElem_cons_succ, Act.put, List.setIfInBounds_toArray, List.set_cons_zero, List.set_cons_succ]
    have hz4 := blk_below b4 (lt_of_blk hz0) hz0
    have hz5 := lt_of_blk hz4
    obtain ⟨z0, z1⟩ := cells2K hz4
    have y0 := frozen_of_row _ _ 0 _ _ hz4
    have y1 := frozen_of_row _ _ 1 _ _ hz4
    refine wpAnyK_ready (rs := [9]) (by kernel_rfl) (by simp) ?_
    refine AllReadyK.cons rfl (fun K hK => ?_) AllReadyK.nil
    go_simp
    refine shutK_off hK (by decide) ?_
    clear hK K
    try simp only [List.getElem_toArray, List.getElem_cons_zero, List.getElem_cons_succ, Act.put, List.setIfInBounds_toArray, List.set_cons_zero, List.set_cons_succ]
    refine wpAnyK_done (by kernel_rfl) ?_ _
    refine NoPanic.normal ?_
    go_wp2_with fail
    exact bodyPost_row1 rfl rfl (blk_set (i := 1) (v := .int .u64 q) (blk_set (i := 0) (v := .int .u64 p) hz4)) Tryz.underlying39 rfl (by kernel_rfl)
      ⟨rfl, ((hb0.trans (b4.mono hb0.size)).setCell (p := ⟨w.heap.size + 1, 0, none⟩) (Nat.le_succ _) _).setCell (p := ⟨w.heap.size + 1, 1, none⟩) (Nat.le_succ _) _⟩
end Go.Proofs.YthdolmofeeniaaaGreatDoor
end
