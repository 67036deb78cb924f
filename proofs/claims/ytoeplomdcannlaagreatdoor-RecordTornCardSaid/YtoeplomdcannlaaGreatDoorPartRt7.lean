/- Parts of one proof: RecMake, CmpPlain, RecAll, EncF, EncG, JoinC, JoinT, RefGramA, RecLine, MakeB, Drawn, DeckRecB, AppendM, DeckRecs, RecSame, EncLaw, EncAwake, RecAwake, RecordOrderWalk, HexPlain, Shelf3, NumPlain. -/
import Derived.Test.YtoeplomdcannlaaGreatDoorPartRt6
import Derived.Deep.OwnRows
import Derived.Shelf.Strconv.Atoi
import Derived.Shelf.Strconv.AtoiErrFast
import Derived.Shelf.Strconv.ParseIntEmpty
import Derived.Shelf.Strconv.AtoiFail
import Derived.Shelf.Strconv.Clone
import Derived.Shelf.Strconv.SyntaxError
import Derived.Shelf.LaysC
import Derived.Shelf.Strconv.ToError
import Derived.Shelf.Strconv.Lower
import Derived.Shelf.Strconv.ParseUint10
import Derived.Shelf.Strconv.ParseUint10Empty
import Derived.Shelf.Strconv.ParseUint10Any
import Derived.Shelf.Strconv.ParseInt10
import Derived.Shelf.Strconv.AtoiLong
import Derived.Shelf.Strconv.AtoiInnerAll
import Derived.Shelf.Strconv.RangeError
import Derived.Shelf.Strconv.ToErrorRange
import Derived.Shelf.Strconv.AtoiAll
import Derived.Shelf.Strings.LastIndex
import Derived.Shelf.Strings.Prefix
import Derived.Shelf.Strings.Repeat
import Derived.Lib.Atoi
set_option linter.unusedSimpArgs false
set_option linter.unusedVariables false
namespace Go.Proofs.YtoeplomdcannlaaGreatDoor
section
set_option maxRecDepth 100000
open Go.RowKit Cal
attribute [local go_sem] toList_mk mk_size str_append
theorem made_strs (m : Nat) : madeCells #[strV []] m = ((List.replicate m ([] : List UInt8)).flatMap encS).toArray := by
  have e : ((List.replicate m ([] : List UInt8)).flatMap encS) = List.replicate m (strV []) := by
    induction m with
    | zero => rfl
    | succ m ih => rw [List.replicate_succ, List.flatMap_cons, ih]; rfl
  rw [e]
  unfold madeCells
  apply Array.toList_inj.1
  rw [Array.toList_map, Array.toList_range]
  refine List.ext_getElem (by simp) fun i h1 h2 => ?_
  simp [Nat.mod_one]
theorem row_put (L : List (List UInt8)) (j : Nat) (y : List UInt8) : ((L.flatMap encS).toArray).setIfInBounds j (strV y) = ((L.set j y).flatMap encS).toArray := by
  rw [flat_set]; simp
/-- where Make stands: the schema's box, the result's, the record's, its values -/
structure PkAt (w : World) (g : Nat) (vf vt vn vs : Value) (id ver : Int) (n : Nat) (L : List (List UInt8)) (wr : World) : Prop where
  s : wr.heap[w.heap.size]? = some (.cells #[vf, vt, vn, vs] 33 (0, 0))
  z : wr.heap[w.heap.size + 1]? = some (.cells #[.int .i64 0, .int .i64 0, .slice none 0 0] 48 (0, 0))
  row : wr.heap[g]? = some (.cells (L.flatMap encS).toArray 9 (0, 0))
  r : wr.heap[g + 1]? = some (.cells #[.int .i64 id, .int .i64 ver, .slice (some ⟨g, 0, none⟩) n n] 48 (0, 0))
  b : Below w.heap.size w wr
  lt : w.heap.size + 1 < g
theorem PkAt.below {w : World} {g : Nat} {vf vt vn vs : Value} {id ver : Int} {n : Nat} {L : List (List UInt8)} {wr wx : World} (h : PkAt w g vf vt vn vs id ver n L wr) (hb : Below wr.heap.size wr wx) : PkAt w g vf vt vn vs id ver n L wx :=
  ⟨blk_below hb (lt_of_blk h.s) h.s, blk_below hb (lt_of_blk h.z) h.z, blk_below hb (lt_of_blk h.row) h.row, blk_below hb (lt_of_blk h.r) h.r, h.b.trans (hb.mono h.b.size), h.lt⟩
theorem fill_set {C : List (List UInt8)} {j n : Nat} (hC : C.length = j) (hj : j < n) (y : List UInt8) : (C ++ List.replicate (n - j) []).set j y = (C ++ [y]) ++ List.replicate (n - (j + 1)) [] := by
  subst hC
  rw [List.set_append_right _ _ (Nat.le_refl _), Nat.sub_self, show n - C.length = (n - (C.length + 1)) + 1 by omega, List.replicate_succ, List.set_cons_zero]
  simp
set_option maxHeartbeats 8000000 in
theorem pmake_yes (S T : Nat → Prop) (vf vt vn vs : Value) (s : SchemaL) (id ver : Int) (raws : List (List UInt8)) (rv : Value) (w : World) (h : SchemaAt w S vf vt vn vs s) (hv : Vec w T 1 encS rv raws) (hc : checkS s = 0) (hl : raws.length = s.fields.length) (hn : numberedB id ver = true) (hs : ∀ x ∈ raws, x.length ≤ 1000000) :
    Calls Tryz.prog 36 #[.agg #[vf, vt, vn, vs], .int .i64 id, .int .i64 ver, rv] w (MakePost (makeN s id ver raws) w) := by
  have hmk := makeN_in hc hl hn
  obtain ⟨R, hR⟩ : ∃ R, makeN s id ver raws = R := ⟨_, rfl⟩
  rw [hR] at hmk ⊢
  have HMK := Lib.hid hmk
  clear hmk hR
  obtain ⟨a, cap, rfl⟩ := hv.slice
  obtain ⟨af, cf, rfl⟩ := h.1.slice
  have h5 : raws.length ≤ 5 := by have := (check_fields hc).1.2; omega
  have hne : ((raws.length : Int) != (s.fields.length : Int)) = false := by rw [hl]; simp
  have hmr := run_make_row' (P := Tryz.prog) 28 9 (.string ⟨#[]⟩) 16 Tryz.underlying28 infoS rfl .i64 .i64 raws.length (by omega) (by omega)
  rw [show (Value.string ⟨#[]⟩) = strV [] from rfl, made_strs] at hmr
  have HC := Lib.hid hc; have HV := Lib.hid hv.any; have HS := Lib.hid h.any; have HSh := Lib.hid hs; have HN := Lib.hid hn
  clear h hv hc hl hn hs
  go_enter Tryz.func36, Tryz.ntmps36
  go_wp2_with fail
  refine wp_calls_world (fun W hW => ?_)
  have hb0 : Below w.heap.size w W := by rw [hW]; exact ((Below.refl w.heap.size w).alloc (Nat.le_refl _) _).alloc (by simp) _
  have hs0 : W.heap[w.heap.size]? = some (.cells #[.slice af s.fields.length cf, vt, vn, vs] 33 (0, 0)) := by rw [hW]; exact blk_old (blk_new rfl)
  have hz0 : W.heap[w.heap.size + 1]? = some (.cells #[.int .i64 0, .int .i64 0, .slice none 0 0] 48 (0, 0)) := by rw [hW]; exact blk_new (by simp)
  clear hW
  refine (scheck_any Any1 _ _ _ _ s W (HS.out.below hb0)).mono ?_
  rw [HC.out]
  rintro e w1 ⟨rfl, hb⟩
  have hs1 := blk_below hb (lt_of_blk hs0) hs0; have hz1 := blk_below hb (lt_of_blk hz0) hz0
  have HB1 := Lib.hid (hb0.trans (hb.mono hb0.size)); have HS1 := Lib.hid hs1; have HZ1 := Lib.hid hz1
  obtain ⟨s0, s1, s2, s3⟩ := cellsS hs1
  have dz : ((0 : Int) != 0) = false := rfl
  clear hb hb0 hs0 hz0 hs1 hz1
  go_wp2_with fail
  refine (numbered_any _ _ _).mono ?_
  rw [HN.out]
  rintro e w2 ⟨rfl, rfl⟩
  go_wp2_with fail
  refine wp_world (fun W2 hW2 => ?_)
  have hm0 : PkAt w w1.heap.size (.slice af s.fields.length cf) vt vn vs id ver raws.length (List.replicate raws.length []) W2 := by
    rw [hW2]
    exact ⟨blk_old (blk_old HS1.out), blk_old (blk_old HZ1.out), blk_old (blk_new rfl), blk_new (by simp), (HB1.out.alloc HB1.out.size _).alloc (by have := HB1.out.size; simp; omega) _, lt_of_blk HZ1.out⟩
  have HM0 := Lib.hid hm0
  clear hW2 hm0 s0 s1 s2 s3 hmr
  go_loopw [12, 13, 14, 15, 44] (fun _ _ _ _ i wr => ∃ (j : Nat) (C : List (List UInt8)), i = .int .i64 j ∧ j ≤ raws.length ∧ C.length = j ∧ Hid (makeA s j C (raws.drop j) = makeA s 0 [] raws) ∧ PkAt w w1.heap.size (.slice af s.fields.length cf) vt vn vs id ver raws.length (C ++ List.replicate (raws.length - j) []) wr) (fun _ _ _ _ i _ => raws.length - (intOf i).toNat)
  case atStart => exact ⟨0, [], rfl, by omega, rfl, Lib.hid rfl, HM0.out⟩
  case round =>
    obtain ⟨j, C, rfl, hj, hCl, HT, hm⟩ := hrel
    have HM := Lib.hid hm; have HCl := Lib.hid hCl; clear hm hCl HM0
    obtain ⟨s0, s1, s2, s3⟩ := cellsS HM.out.s
    by_cases hlt : j < raws.length
    · have hq : decide ((j : Int) < raws.length) = true := by simp; omega
      obtain ⟨x, hx⟩ : ∃ x, raws[j] = x := ⟨_, rfl⟩
      have hxl : x.length ≤ 1000000 := HSh.out x (by rw [← hx]; exact List.getElem_mem _)
      have hT := HT.out
      rw [List.drop_eq_getElem_cons hlt, hx, makeA] at hT
      obtain ⟨b, off, rfl, hb, hc⟩ := (HV.out.below HM.out.b).get j hlt
      have c0 := hc 0 _ rfl
      rw [Nat.mul_one, Nat.add_zero, hx] at c0
      obtain ⟨⟨y, er⟩, hp⟩ : ∃ p, valueN s j x = p := ⟨_, rfl⟩
      rw [hp] at hT
      dsimp only at hT
      have HT2 := Lib.hid hT; have HPv := Lib.hid hp
      clear hc hT hx HT hp
      go_wp2_with fail
      refine (value_any Any1 _ vt vn vs s j ⟨x.toArray⟩ _ (HS.out.below HM.out.b) (by rw [mk_size]; omega)).mono ?_
      rw [show (⟨x.toArray⟩ : ByteArray).data.toList = x by simp, HPv.out]
      unfold pairV
      rintro e w2 ⟨rfl, hb2⟩
      have HM2 := Lib.hid (HM.out.below hb2)
      clear hb2 s0 s1 s2 s3 c0 HM hb
      by_cases he : er = 0
      · subst he
        have HT3 := Lib.hid (show makeA s (j + 1) (C ++ [y]) (raws.drop (j + 1)) = makeA s 0 [] raws by rw [← HT2.out, if_pos rfl])
        clear HT2
        obtain ⟨r0, r1, r2⟩ := cells3 HM2.out.r
        have lr := lt_of_blk HM2.out.r; have lg := lt_of_blk HM2.out.row
        have cg := HM2.out.row
        have hlen : ((C ++ List.replicate (raws.length - j) []).flatMap encS).length = raws.length := by
          have e : ∀ L : List (List UInt8), (L.flatMap encS).length = L.length := by
            intro L; induction L with
            | nil => rfl
            | cons a L ih => rw [List.flatMap_cons, List.length_append, ih]; simp [encS]; omega
          rw [e, List.length_append, List.length_replicate, HCl.out]; omega
        obtain ⟨cz, hcz⟩ : ∃ cz, w2.cell? ⟨w1.heap.size, j, none⟩ = some cz := by
          rw [cell_of_row _ _ j _ _ _ cg]; rw [List.getElem?_toArray]; exact ⟨_, List.getElem?_eq_getElem (by rw [hlen]; exact hlt)⟩
        have fz := frozen_of_row _ _ j _ _ cg
        have hji : (j : Int) < (raws.length : Int) := by omega
        go_wp2_with fail
        go_roundw
        case rel =>
          refine ⟨j + 1, C ++ [y], by go_num, by omega, by rw [List.length_append, HCl.out]; rfl, HT3, ?_⟩
          have hlt2 := HM2.out.lt
          refine ⟨blk_far HM2.out.s (by show w.heap.size ≠ w1.heap.size; omega), blk_far HM2.out.z (by show w.heap.size + 1 ≠ w1.heap.size; omega), ?_, blk_far HM2.out.r (by show w1.heap.size + 1 ≠ w1.heap.size; omega), HM2.out.b.setCell (p := ⟨w1.heap.size, j, none⟩) (by show w.heap.size ≤ w1.heap.size; omega) _, hlt2⟩
          have h := blk_set (i := j) (v := strV y) HM2.out.row
          rw [row_put, fill_set HCl.out hlt] at h
          exact h
        case measure => simp [intOf]; omega
      · have hne2 : (er != 0) = true := by simpa using he
        have hR : R = (noRec, er) := by rw [HMK.out, ← HT2.out, if_neg he, if_neg he]
        have HRR := Lib.hid hR
        obtain ⟨z0, z1, z2⟩ := cells3 HM2.out.z
        have f0 := frozen_of_row _ _ 0 _ _ HM2.out.z; have f1 := frozen_of_row _ _ 1 _ _ HM2.out.z; have f2 := frozen_of_row _ _ 2 _ _ HM2.out.z
        have yz := lt_of_blk HM2.out.z
        clear hR he HT2
        go_wp2_with fail
        rw [HRR.out]
        exact bodyPost_row2 rfl rfl (blk_set (i := 2) (v := .slice none 0 0) (blk_set (i := 1) (v := .int .i64 0) (blk_set (i := 0) (v := .int .i64 0) HM2.out.z))) Tryz.underlying48 rfl (by kernel_rfl)
          ⟨_, rfl, ⟨_, rfl, Vec.nil _ _ _ _⟩, ((HM2.out.b.setCell (p := ⟨w.heap.size + 1, 0, none⟩) (Nat.le_succ _) _).setCell (p := ⟨w.heap.size + 1, 1, none⟩) (Nat.le_succ _) _).setCell (p := ⟨w.heap.size + 1, 2, none⟩) (Nat.le_succ _) _⟩
    · have hq : decide ((j : Int) < raws.length) = false := by simp; omega
      obtain rfl : j = raws.length := by omega
      have hT := HT.out
      rw [List.drop_length, makeA] at hT
      have hR : R = (⟨id, ver, C⟩, 0) := by rw [HMK.out, ← hT, if_pos rfl]
      have HRR := Lib.hid hR
      have hlt := HM.out.lt
      obtain ⟨z0, z1, z2⟩ := cells3 HM.out.z
      obtain ⟨r0, r1, r2⟩ := cells3 HM.out.r
      have f0 := frozen_of_row _ _ 0 _ _ HM.out.z; have f1 := frozen_of_row _ _ 1 _ _ HM.out.z; have f2 := frozen_of_row _ _ 2 _ _ HM.out.z
      have yz := lt_of_blk HM.out.z
      have hrow := HM.out.row
      rw [Nat.sub_self, List.replicate_zero, List.append_nil] at hrow
      have HRow := Lib.hid hrow
      clear hR hT HT s0 s1 s2 s3 hrow
      go_wp2_with fail
      rw [HRR.out]
      refine bodyPost_row2 rfl rfl (blk_set (i := 2) (v := .slice (some ⟨w1.heap.size, 0, none⟩) raws.length raws.length) (blk_set (i := 1) (v := .int .i64 ver) (blk_set (i := 0) (v := .int .i64 id) HM.out.z))) Tryz.underlying48 rfl (by kernel_rfl)
        ⟨_, rfl, ⟨_, rfl, ?_⟩, ((HM.out.b.setCell (p := ⟨w.heap.size + 1, 0, none⟩) (Nat.le_succ _) _).setCell (p := ⟨w.heap.size + 1, 1, none⟩) (Nat.le_succ _) _).setCell (p := ⟨w.heap.size + 1, 2, none⟩) (Nat.le_succ _) _⟩
      have h := blk_far (blk_far (blk_far (a := ⟨w.heap.size + 1, 0, none⟩) (v := .int .i64 id) HRow.out (by show w1.heap.size ≠ w.heap.size + 1; omega)) (a := ⟨w.heap.size + 1, 1, none⟩) (v := .int .i64 ver) (by show w1.heap.size ≠ w.heap.size + 1; omega)) (a := ⟨w.heap.size + 1, 2, none⟩) (v := .slice (some ⟨w1.heap.size, 0, none⟩) raws.length raws.length) (by show w1.heap.size ≠ w.heap.size + 1; omega)
      exact blockVec (k := 1) (enc := encS) (L := C) (S := fun b => w.heap.size ≤ b) (A := w1.heap.size) (fun _ => rfl) h (by show w.heap.size ≤ w1.heap.size; omega) raws.length HCl.out.symm
end
section
open Go.RowKit
theorem getD_at {α : Type} (l : List α) (d : α) {i : Nat} (h : i < l.length) : l.getD i d = l[i] := by rw [List.getD, List.getElem?_eq_getElem h]; rfl
end
section
set_option maxRecDepth 100000
open Go.RowKit
structure RV where
  id : Int
  ver : Int
  a : Option Addr
  n : Nat
  c : Nat
  vals : List (List UInt8)
abbrev encRV (x : RV) : List Value := [.int .i64 x.id, .int .i64 x.ver, .slice x.a x.n x.c]
def pR (x : RV) : RecL := ⟨x.id, x.ver, x.vals⟩
/-- records in memory -/
def RecsVec (w : World) (S : Nat → Prop) (v : Value) (R : List RecL) : Prop := ∃ C : List RV, Vec w S 3 encRV v C ∧ C.map pR = R ∧ ∀ x ∈ C, Vec w S 1 encS (.slice x.a x.n x.c) x.vals
theorem RecsVec.move {w w' : World} {S T : Nat → Prop} {v : Value} {R : List RecL} (h : RecsVec w S v R) (hz : w.heap.size ≤ w'.heap.size) (hS : ∀ x, x < w.heap.size → S x → w'.heap[x]? = w.heap[x]? ∧ T x) : RecsVec w' T v R := by
  obtain ⟨C, h1, h2, h3⟩ := h
  exact ⟨C, h1.move hz hS, h2, fun x hx => (h3 x hx).move hz hS⟩
theorem RecsVec.below {w w' : World} {S : Nat → Prop} {v : Value} {R : List RecL} (h : RecsVec w S v R) (hb : Below w.heap.size w w') : RecsVec w' S v R := h.move hb.size fun x hx hs => ⟨hb.block x hx, hs⟩
theorem RecsVec.any {w : World} {S : Nat → Prop} {v : Value} {R : List RecL} (h : RecsVec w S v R) : RecsVec w Any1 v R := h.move (Nat.le_refl _) fun x hx hs => ⟨rfl, trivial⟩
theorem RecsVec.slice {w : World} {S : Nat → Prop} {v : Value} {R : List RecL} (h : RecsVec w S v R) : ∃ a cap, v = .slice a R.length cap := by
  obtain ⟨C, h1, h2, _⟩ := h
  obtain ⟨a, cap, rfl⟩ := h1.slice
  exact ⟨a, cap, by rw [← h2, List.length_map]⟩
theorem RecsVec.at {w : World} {S : Nat → Prop} {a : Option Addr} {n cap : Nat} {R : List RecL} (h : RecsVec w S (.slice a n cap) R) (j : Nat) (hj : j < R.length) :
    ∃ (b off : Nat) (id ver : Int) (aa : Option Addr) (nn cc : Nat) (vals : List (List UInt8)), a = some ⟨b, off, none⟩ ∧ b < w.heap.size ∧ w.cell? ⟨b, off + j * 3, none⟩ = some (.int .i64 id) ∧ w.cell? ⟨b, off + j * 3 + 1, none⟩ = some (.int .i64 ver) ∧ w.cell? ⟨b, off + j * 3 + 2, none⟩ = some (.slice aa nn cc) ∧ R[j] = ⟨id, ver, vals⟩ ∧ Vec w S 1 encS (.slice aa nn cc) vals := by
  obtain ⟨C, h1, h2, h3⟩ := h
  have hj2 : j < C.length := by rw [← h2, List.length_map] at hj; exact hj
  obtain ⟨b, off, e, hb, hc⟩ := h1.get j hj2
  refine ⟨b, off, C[j].id, C[j].ver, C[j].a, C[j].n, C[j].c, C[j].vals, e, hb, hc 0 _ rfl, hc 1 _ rfl, hc 2 _ rfl, ?_, h3 _ (List.getElem_mem hj2)⟩
  subst h2
  rw [List.getElem_map]; rfl
/-- an ID that is not behind the one before -/
def notB : Option Int → Int → Bool
  | some q, x => decide (x ≤ q)
  | none, _ => false
/-- the first error of a list, behind a record with an ID -/
def allA (s : SchemaL) : Option Int → List RecL → Int
  | _, [] => 0
  | p, r :: R => if checkI s r = 0 then (if notB p r.id = true then 12 else allA s (some r.id) R) else checkI s r
theorem allA_cons (s : SchemaL) (p : Option Int) (r : RecL) (R : List RecL) : allA s p (r :: R) = if checkI s r = 0 then (if notB p r.id = true then 12 else allA s (some r.id) R) else checkI s r := rfl
def allN (s : SchemaL) (R : List RecL) : Int := if checkS s = 0 then (if R.length ≤ 64 then allA s none R else 1) else checkS s
def prevR (R : List RecL) (j : Nat) : Option Int := if j = 0 then none else some (R.getD (j - 1) noRec).id
theorem allA_yes {s : SchemaL} : ∀ (R : List RecL) (p : Option Int), (∀ r ∈ R, checkI s r = 0) → (∀ q r, p = some q → R.head? = some r → q < r.id) → (∀ j (h : j + 1 < R.length), (R[j]'(by omega)).id < R[j + 1].id) → allA s p R = 0
  | [], p, _, _, _ => rfl
  | r :: R, p, h1, h2, h3 => by
    unfold allA
    rw [if_pos (h1 r List.mem_cons_self), if_neg]
    · refine allA_yes R (some r.id) (fun x hx => h1 x (List.mem_cons_of_mem _ hx)) (fun q x hq hx => ?_) (fun j h => h3 (j + 1) (by simpa using h))
      cases hq
      cases R with
      | nil => cases hx
      | cons y R => cases hx; exact h3 0 (by simp)
    · cases p with
      | none => simp [notB]
      | some q =>
        have := h2 q r rfl rfl
        simp [notB]; omega
set_option maxHeartbeats 4000000 in
theorem rall_any (S T : Nat → Prop) (vf vt vn vs rv : Value) (s : SchemaL) (R : List RecL) (w : World) (h : SchemaAt w S vf vt vn vs s) (hr : RecsVec w T rv R) (hl : ∀ r ∈ R, ∀ x ∈ r.vals, x.length ≤ 1000000) (hn : ∀ r ∈ R, r.vals.length ≤ 1000000) (hR : R.length ≤ 1000000) :
    Calls Tryz.prog 38 #[.agg #[vf, vt, vn, vs], rv] w fun e w' => e = .returned (.int .i64 (allN s R)) ∧ Below w.heap.size w w' := by
  obtain ⟨ar, cr, rfl⟩ := hr.slice
  have HS := Lib.hid h; have HR := Lib.hid hr.any; have HL := Lib.hid hl; have HN := Lib.hid hn
  obtain ⟨E, hE⟩ : ∃ E, allN s R = E := ⟨_, rfl⟩
  rw [hE]
  have HE := Lib.hid hE
  clear h hr hl hn hE
  go_enter Tryz.func38, Tryz.ntmps38
  go_wp2_with fail
  refine wp_calls_world (fun W hW => ?_)
  have hb0 : Below w.heap.size w W := by rw [hW]; exact (Below.refl w.heap.size w).alloc (Nat.le_refl _) _
  have hs0 : W.heap[w.heap.size]? = some (.cells #[vf, vt, vn, vs] 33 (0, 0)) := by rw [hW]; exact blk_new rfl
  clear hW
  refine (scheck_any S _ _ _ _ s W (HS.out.below hb0)).mono ?_
  rintro e w1 ⟨rfl, hb⟩
  have hs1 := blk_below hb (lt_of_blk hs0) hs0
  have HB1 := Lib.hid (hb0.trans (hb.mono hb0.size)); have HS1 := Lib.hid hs1
  clear hb hb0 hs0 hs1
  obtain ⟨c, hc⟩ : ∃ c, checkS s = c := ⟨_, rfl⟩
  rw [hc]
  by_cases hc0 : c = 0
  · subst hc0
    have dz : ((0 : Int) != 0) = false := rfl
    by_cases h64 : R.length ≤ 64
    · have d64 : decide ((64 : Int) < (R.length : Int)) = false := by simp; omega
      have HE2 := Lib.hid (show allA s none R = E by rw [← HE.out]; unfold allN; rw [if_pos hc, if_pos h64])
      clear hc HE
      go_wp2_with fail
      go_loopw [19] (fun t wr => ∃ j : Nat, t = .int .i64 j ∧ j ≤ R.length ∧ Hid (allA s (prevR R j) (R.drop j) = E) ∧ Below w1.heap.size w1 wr) (fun t _ => R.length - (intOf t).toNat)
      case atStart => exact ⟨0, rfl, by omega, HE2, Below.refl _ _⟩
      case round =>
        obtain ⟨j, rfl, hj, HT, hbw⟩ := hrel
        have HBW := Lib.hid hbw
        by_cases hlt : j < R.length
        · have hq : decide ((j : Int) < (R.length : Int)) = true := by simp; omega
          have hji : (j : Int) < (R.length : Int) := by omega
          have hbw0 := HB1.out.trans (hbw.mono HB1.out.size)
          obtain ⟨b, off, id, ver, aa, nn, cc, vals, rfl, lb, c0, c1, c2, hRj, hvv⟩ := (HR.out.below hbw0).at j hlt
          obtain ⟨s0, s1, s2, s3⟩ := cellsS (blk_below hbw (lt_of_blk HS1.out) HS1.out)
          have lsr : w.heap.size < wr.heap.size := by have := lt_of_blk HS1.out; have := hbw.size; omega
          have hT := HT.out
          rw [List.drop_eq_getElem_cons hlt, allA_cons] at hT
          have hmem : R[j] ∈ R := List.getElem_mem hlt
          have HLv := Lib.hid (HL.out _ hmem); have HNv := HN.out _ hmem
          have HP := Lib.hid (show j ≠ 0 → ∃ pid : Int, prevR R j = some pid ∧ wr.cell? ⟨b, off + (j - 1) * 3, none⟩ = some (.int .i64 pid) from fun h0 => by
            obtain ⟨b', off', id', ver', aa', nn', cc', vals', he, _, d0, _, _, hR', _⟩ := (HR.out.below hbw0).at (j - 1) (by omega)
            cases he
            refine ⟨id', ?_, d0⟩
            unfold prevR
            rw [if_neg h0, getD_at _ _ (by omega), hR'])
          rw [hRj] at hT HLv HNv
          have HRJ := Lib.hid hRj; have HV := Lib.hid hvv; have HT2 := Lib.hid hT
          clear hT hmem hRj hvv HT hbw
          dsimp only at HLv HNv
          have hvl := HV.out.len.1
          subst hvl
          obtain ⟨ci, hci⟩ : ∃ ci, checkI s ⟨id, ver, vals⟩ = ci := ⟨_, rfl⟩
          go_wp2_with fail
          refine wp_calls_world (fun Wc hWc => ?_)
          have hbc : Below wr.heap.size wr Wc := by rw [hWc]; exact (Below.refl wr.heap.size wr).alloc (Nat.le_refl _) _
          have hy : Wc.heap[wr.heap.size]? = some (.cells #[.int .i64 id, .int .i64 ver, .slice aa vals.length cc] 48 (0, 0)) := by rw [hWc]; exact blk_new rfl
          clear hWc
          refine (rchk_any S _ _ _ _ s ⟨id, ver, vals⟩ _ Wc ((HS.out.below hbw0).below hbc) (HV.out.below hbc) HLv.out HNv).mono ?_
          rw [hci]
          rintro e w2 ⟨rfl, hb⟩
          have hbr := hbc.trans (hb.mono hbc.size)
          have hy2 := blk_below hb (lt_of_blk hy) hy
          have HB2 := Lib.hid (HBW.out.trans (hbr.mono HBW.out.size))
          obtain ⟨r0, r1, r2⟩ := cells3 hy2
          have ly := lt_of_blk hy2
          have HBR := Lib.hid hbr
          clear hb hbc hy hy2 hbr s0 s1 s2 s3 c0 c1 c2
          by_cases hci0 : ci = 0
          · subst hci0
            have hT3 := HT2.out
            rw [hci, if_pos rfl] at hT3
            have HT3 := Lib.hid hT3
            clear hT3 HT2 hci
            by_cases hj0 : j = 0
            · have dj : decide (0 < j) = false := by simp; omega
              have HT4 := Lib.hid (show allA s (prevR R (j + 1)) (R.drop (j + 1)) = E by
                have := HT3.out
                rw [show prevR R j = none by unfold prevR; rw [if_pos hj0]] at this
                rw [← this]
                unfold prevR
                rw [if_neg (by omega), show j + 1 - 1 = j by omega, getD_at _ _ hlt, HRJ.out]; rfl)
              clear HT3 HP
              go_upto_region 12 with fail
              refine wp_region_noPanic ?_
              refine wp_region_held_drew (S := (fun w' => True)) (by kernel_rfl) (trivial) (fun hHeld => ?_)
              refine tH 0 (h := ?_)
              try simp only [List.getElem_toArray, List.getElem_cons_zero, List.getElem_cons_succ, Act.put, List.setIfInBounds_toArray, List.set_cons_zero, List.set_cons_succ]
              refine tH 1 (h := ?_)
              try simp only [List.getElem_toArray, List.getElem_cons_zero, List.getElem_cons_succ, Act.put, List.setIfInBounds_toArray, List.set_cons_zero, List.set_cons_succ]
              refine tH 2 (h := ?_)
              try simp only [List.getElem_toArray, List.getElem_cons_zero, List.getElem_cons_succ, Act.put, List.setIfInBounds_toArray, List.set_cons_zero, List.set_cons_succ]
              refine sH 3 (h := ?_)
              try simp only [List.getElem_toArray, List.getElem_cons_zero, List.getElem_cons_succ, Act.put, List.setIfInBounds_toArray, List.set_cons_zero, List.set_cons_succ]
              refine sH 4 (h := ?_)
              try simp only [List.getElem_toArray, List.getElem_cons_zero, List.getElem_cons_succ, Act.put, List.setIfInBounds_toArray, List.set_cons_zero, List.set_cons_succ]
              refine sH 5 (h := ?_)
              try simp only [List.getElem_toArray, List.getElem_cons_zero, List.getElem_cons_succ, Act.put, List.setIfInBounds_toArray, List.set_cons_zero, List.set_cons_succ]
              refine sH 6 (h := ?_)
              try simp only [List.getElem_toArray, List.getElem_cons_zero, List.getElem_cons_succ, Act.put, List.setIfInBounds_toArray, List.set_cons_zero, List.set_cons_succ]
              refine sH 7 (h := ?_)
              try simp only [List.getElem_toArray, List.getElem_cons_zero, List.getElem_cons_succ, Act.put, List.setIfInBounds_toArray, List.set_cons_zero, List.set_cons_succ]
              refine sH 8 (h := ?_)
              try simp only [List.getElem_toArray, List.getElem_cons_zero, List.getElem_cons_succ, Act.put, List.setIfInBounds_toArray, List.set_cons_zero, List.set_cons_succ]
              refine sH 9 (h := ?_)
              try simp only [List.getElem_toArray, List.getElem_cons_zero, List.getElem_cons_succ, Act.put, List.setIfInBounds_toArray, List.set_cons_zero, List.set_cons_succ]
              refine sH 10 (h := ?_)
              try simp only [List.getElem_toArray, List.getElem_cons_zero, List.getElem_cons_succ, Act.put, List.setIfInBounds_toArray, List.set_cons_zero, List.set_cons_succ]
              refine sH 11 (h := ?_)
              try simp only [List.getElem_toArray, List.getElem_cons_zero, List.getElem_cons_succ, Act.put, List.setIfInBounds_toArray, List.set_cons_zero, List.set_cons_succ]
              refine tH 12 (h := ?_)
              try simp only [List.getElem_toArray, List.getElem_cons_zero, List.getElem_cons_succ, Act.put, List.setIfInBounds_toArray, List.set_cons_zero, List.set_cons_succ]
              refine wpAnyH_done (by kernel_rfl) ?_ _
              refine NoPanic.normal ?_
              go_wp2_with fail
              go_roundw
              case rel => exact ⟨j + 1, by go_num, by omega, HT4, HB2.out.drew⟩
              case measure => simp [intOf]; omega
            · have dj : decide (0 < j) = true := by simp; omega
              obtain ⟨pid, hpr, hpc⟩ := HP.out hj0
              have hpc2 := (HBR.out.cell (p := ⟨b, off + (j - 1) * 3, none⟩) lb).trans hpc
              have hj1 : (j : Int) - 1 < (R.length : Int) := by omega
              have hj2 : (1 : Int) ≤ (j : Int) := by omega
              have hj3 : ((j : Int) - 1).toNat = j - 1 := by omega
              have hwr : IntKind.i64.wrap ((j : Int) - 1) = (j : Int) - 1 := by rw [IntKind.wrap_i64]; omega
              have hT4 := HT3.out
              rw [hpr] at hT4
              clear HP hpc HT3
              by_cases hle : id ≤ pid
              · have dle : decide (id ≤ pid) = true := by simpa using hle
                have hE12 : E = 12 := by rw [← hT4]; unfold notB; dsimp only; rw [if_pos dle]
                subst hE12
                clear hT4
                go_upto_region 12 with fail
                refine wp_region_noPanic ?_
                refine wp_region_held_drew (S := (fun w' => w'.cell? ⟨b, off + (j - 1) * 3, none⟩ = some (.int .i64 pid) ∧ w'.cell? ⟨wr.heap.size, 0, none⟩ = some (.int .i64 id))) (by kernel_rfl) (⟨hpc2, r0⟩) (fun hHeld => ?_)
                refine tH 0 (h := ?_)
                try simp only [List.getElem_toArray, List.getElem_cons_zero, List.getElem_cons_succ, Act.put, List.setIfInBounds_toArray, List.set_cons_zero, List.set_cons_succ]
                refine tH 1 (h := ?_)
                try simp only [List.getElem_toArray, List.getElem_cons_zero, List.getElem_cons_succ, Act.put, List.setIfInBounds_toArray, List.set_cons_zero, List.set_cons_succ]
                refine tH 2 (h := ?_)
                try simp only [List.getElem_toArray, List.getElem_cons_zero, List.getElem_cons_succ, Act.put, List.setIfInBounds_toArray, List.set_cons_zero, List.set_cons_succ]
                refine tH 3 (h := ?_)
                try simp only [List.getElem_toArray, List.getElem_cons_zero, List.getElem_cons_succ, Act.put, List.setIfInBounds_toArray, List.set_cons_zero, List.set_cons_succ]
                refine tH 4 (h := ?_)
                try simp only [List.getElem_toArray, List.getElem_cons_zero, List.getElem_cons_succ, Act.put, List.setIfInBounds_toArray, List.set_cons_zero, List.set_cons_succ]
                refine tH 5 (h := ?_)
                try simp only [List.getElem_toArray, List.getElem_cons_zero, List.getElem_cons_succ, Act.put, List.setIfInBounds_toArray, List.set_cons_zero, List.set_cons_succ]
                refine tH 6 (h := ?_)
                try simp only [List.getElem_toArray, List.getElem_cons_zero, List.getElem_cons_succ, Act.put, List.setIfInBounds_toArray, List.set_cons_zero, List.set_cons_succ]
                refine tH 7 (h := ?_)
                try simp only [List.getElem_toArray, List.getElem_cons_zero, List.getElem_cons_succ, Act.put, List.setIfInBounds_toArray, List.set_cons_zero, List.set_cons_succ]
                refine tH 8 (h := ?_)
                try simp only [List.getElem_toArray, List.getElem_cons_zero, List.getElem_cons_succ, Act.put, List.setIfInBounds_toArray, List.set_cons_zero, List.set_cons_succ]
                refine tH 9 (h := ?_)
                try simp only [List.getElem_toArray, List.getElem_cons_zero, List.getElem_cons_succ, Act.put, List.setIfInBounds_toArray, List.set_cons_zero, List.set_cons_succ]
                refine tH 10 (h := ?_)
                try simp only [List.getElem_toArray, List.getElem_cons_zero, List.getElem_cons_succ, Act.put, List.setIfInBounds_toArray, List.set_cons_zero, List.set_cons_succ]
                refine tH 11 (h := ?_)
                try simp only [List.getElem_toArray, List.getElem_cons_zero, List.getElem_cons_succ, Act.put, List.setIfInBounds_toArray, List.set_cons_zero, List.set_cons_succ]
                refine tH 12 (h := ?_)
                try simp only [List.getElem_toArray, List.getElem_cons_zero, List.getElem_cons_succ, Act.put, List.setIfInBounds_toArray, List.set_cons_zero, List.set_cons_succ]
                refine wpAnyH_done (by kernel_rfl) ?_ _
                refine NoPanic.normal ?_
                go_wp2_with fail
                go_ret
                exact ⟨rfl, HB1.out.trans (HB2.out.drew.mono HB1.out.size)⟩
              · have dle : decide (id ≤ pid) = false := by simpa using hle
                have HT5 := Lib.hid (show allA s (prevR R (j + 1)) (R.drop (j + 1)) = E by
                  rw [← hT4]
                  unfold notB; dsimp only
                  rw [if_neg (by rw [dle]; decide)]
                  unfold prevR
                  rw [if_neg (by omega), show j + 1 - 1 = j by omega, getD_at _ _ hlt, HRJ.out])
                clear hT4
                go_upto_region 12 with fail
                refine wp_region_noPanic ?_
                refine wp_region_held_drew (S := (fun w' => w'.cell? ⟨b, off + (j - 1) * 3, none⟩ = some (.int .i64 pid) ∧ w'.cell? ⟨wr.heap.size, 0, none⟩ = some (.int .i64 id))) (by kernel_rfl) (⟨hpc2, r0⟩) (fun hHeld => ?_)
                refine tH 0 (h := ?_)
                try simp only [List.getElem_toArray, List.getElem_cons_zero, List.getElem_cons_succ, Act.put, List.setIfInBounds_toArray, List.set_cons_zero, List.set_cons_succ]
                refine tH 1 (h := ?_)
                try simp only [List.getElem_toArray, List.getElem_cons_zero, List.getElem_cons_succ, Act.put, List.setIfInBounds_toArray, List.set_cons_zero, List.set_cons_succ]
                refine tH 2 (h := ?_)
                try simp only [List.getElem_toArray, List.getElem_cons_zero, List.getElem_cons_succ, Act.put, List.setIfInBounds_toArray, List.set_cons_zero, List.set_cons_succ]
                refine tH 3 (h := ?_)
                try simp only [List.getElem_toArray, List.getElem_cons_zero, List.getElem_cons_succ, Act.put, List.setIfInBounds_toArray, List.set_cons_zero, List.set_cons_succ]
                refine tH 4 (h := ?_)
                try simp only [List.getElem_toArray, List.getElem_cons_zero, List.getElem_cons_succ, Act.put, List.setIfInBounds_toArray, List.set_cons_zero, List.set_cons_succ]
                refine tH 5 (h := ?_)
                try simp only [List.getElem_toArray, List.getElem_cons_zero, List.getElem_cons_succ, Act.put, List.setIfInBounds_toArray, List.set_cons_zero, List.set_cons_succ]
                refine tH 6 (h := ?_)
                try simp only [List.getElem_toArray, List.getElem_cons_zero, List.getElem_cons_succ, Act.put, List.setIfInBounds_toArray, List.set_cons_zero, List.set_cons_succ]
                refine tH 7 (h := ?_)
                try simp only [List.getElem_toArray, List.getElem_cons_zero, List.getElem_cons_succ, Act.put, List.setIfInBounds_toArray, List.set_cons_zero, List.set_cons_succ]
                refine tH 8 (h := ?_)
                try simp only [List.getElem_toArray, List.getElem_cons_zero, List.getElem_cons_succ, Act.put, List.setIfInBounds_toArray, List.set_cons_zero, List.set_cons_succ]
                refine tH 9 (h := ?_)
                try simp only [List.getElem_toArray, List.getElem_cons_zero, List.getElem_cons_succ, Act.put, List.setIfInBounds_toArray, List.set_cons_zero, List.set_cons_succ]
                refine tH 10 (h := ?_)
                try simp only [List.getElem_toArray, List.getElem_cons_zero, List.getElem_cons_succ, Act.put, List.setIfInBounds_toArray, List.set_cons_zero, List.set_cons_succ]
                refine tH 11 (h := ?_)
                try simp only [List.getElem_toArray, List.getElem_cons_zero, List.getElem_cons_succ, Act.put, List.setIfInBounds_toArray, List.set_cons_zero, List.set_cons_succ]
                refine tH 12 (h := ?_)
                try simp only [List.getElem_toArray, List.getElem_cons_zero, List.getElem_cons_succ, Act.put, List.setIfInBounds_toArray, List.set_cons_zero, List.set_cons_succ]
                refine wpAnyH_done (by kernel_rfl) ?_ _
                refine NoPanic.normal ?_
                go_wp2_with fail
                go_roundw
                case rel => exact ⟨j + 1, by go_num, by omega, HT5, HB2.out.drew⟩
                case measure => simp [intOf]; omega
          · have hE3 : E = ci := by rw [← HT2.out, hci, if_neg hci0]
            have dne : (ci != (0 : Int)) = true := by simpa using hci0
            subst hE3
            clear HT2 hci HE2 HP
            go_wp2_with fail
            go_ret
            exact ⟨rfl, HB1.out.trans (HB2.out.mono HB1.out.size)⟩
        · have hq : decide ((j : Int) < (R.length : Int)) = false := by simp; omega
          obtain rfl : j = R.length := by omega
          have hE0 : E = 0 := by rw [← HT.out, List.drop_length]; rfl
          subst hE0
          go_wp2_with fail
          go_ret
          exact ⟨rfl, HB1.out.trans (hbw.mono HB1.out.size)⟩
    · have d64 : decide ((64 : Int) < (R.length : Int)) = true := decide_eq_true (by omega)
      have hE1 : E = 1 := by rw [← HE.out]; unfold allN; rw [if_pos hc, if_neg h64]
      subst hE1
      clear hc HE
      go_wp2_with fail
      go_ret
      exact ⟨rfl, HB1.out⟩
  · have dne : (c != (0 : Int)) = true := by simpa using hc0
    have hE1 : E = c := by rw [← HE.out]; unfold allN; rw [hc, if_neg hc0]
    subst hE1
    clear HE
    go_wp2_with fail
    go_ret
    exact ⟨rfl, HB1.out⟩
end
section
set_option maxRecDepth 100000
open Go.RowKit
/-- the cells of one of some arrays -/
theorem BitsVec.at {w : World} {S : Nat → Prop} {a : Option Addr} {n cap : Nat} {L : List BitsL} (h : BitsVec w S (.slice a n cap) L) (j : Nat) (hj : j < L.length) :
    ∃ (b off : Nat) (c : BV), a = some ⟨b, off, none⟩ ∧ b < w.heap.size ∧ w.cell? ⟨b, off + j * 2, none⟩ = some (.int .i64 c.len) ∧ w.cell? ⟨b, off + j * 2 + 1, none⟩ = some (.slice c.a c.n c.c) ∧ BitsAt w S (.agg (encBV c).toArray) (L.getD j noBits) := by
  obtain ⟨C, hC, hA⟩ := h
  have hj2 : j < C.length := by rw [hA.1]; exact hj
  obtain ⟨b, off, e, hb, hc⟩ := hC.get j hj2
  refine ⟨b, off, C[j], e, hb, by have := hc 0 _ rfl; simpa using this, by have := hc 1 _ rfl; simpa using this, ?_⟩
  rw [getD_at _ _ hj]
  exact hA.2 j hj2 hj
theorem BitsVec.len {w : World} {S : Nat → Prop} {a : Option Addr} {n cap : Nat} {L : List BitsL} (h : BitsVec w S (.slice a n cap) L) : n = L.length ∧ n ≤ cap := by
  obtain ⟨C, hC, hA⟩ := h
  have := hC.len; have := hA.1; omega
end
section
set_option maxRecDepth 100000
open Go.RowKit
attribute [local go_sem] toList_mk mk_size str_append
theorem EncVal.below {w w' : World} {S : Nat → Prop} {v : Value} {e : EncL} (h : EncVal w S v e) (hb : Below w.heap.size w w') : EncVal w' S v e := by
  obtain ⟨s, rfl, h⟩ := h; exact ⟨s, rfl, h.below hb⟩
/-- a row that lies in a block of its own -/
theorem own_new {α : Type} {w0 w : World} {e : TypeId} {enc : α → List Value} {L : List α} {g size n : Nat} (hb : Below w0.heap.size w0 w) (hg : w0.heap.size ≤ g) (h : w.heap[g]? = some (.cells (L.flatMap enc).toArray e (0, 0))) (hl : (L.flatMap enc).length = L.length * size) (hm : L.length ≤ 1000000) (hn : n = L.length) :
    OwnV e size enc w0 (.slice (some ⟨g, 0, none⟩) n n) L w := by
  subst hn
  exact ⟨⟨hl, .inr ⟨g, L.length, _, rfl, hg, h, Nat.le_refl _, by unfold maxLen; omega, by simpa using hl, by rw [← hl]; show List.take _ (L.flatMap enc) = _; exact List.take_length⟩⟩, hb⟩
end
section
def joinC (c : UInt8) : List (List UInt8) → List UInt8
  | [] => []
  | [a] => a
  | a :: b :: r => a ++ c :: joinC c (b :: r)
theorem splC_join (c : UInt8) : ∀ (L : List (List UInt8)), L ≠ [] → (∀ x ∈ L, c ∉ x) → splC c [] (joinC c L) = L
  | [], h, _ => absurd rfl h
  | [a], _, h => by
    rw [joinC, splC_no c a (h a (by simp))]; simp
  | a :: b :: r, _, h => by
    rw [joinC, splC_at c a _ (h a (by simp)), splC_join c (b :: r) (by simp) (fun x hx => h x (List.mem_cons_of_mem _ hx))]; simp
end
section
set_option maxRecDepth 100000
open Go.RowKit
theorem join_sep (c : UInt8) (L : List (List UInt8)) : Lib.join L [c] = joinC c L := by
  induction L with
  | nil => rfl
  | cons a L ih =>
    cases L with
    | nil => rw [Lib.join_one]; rfl
    | cons b L =>
      rw [Lib.join_cons] at *
      simp only [Lib.joinTail, List.map_cons, List.flatten_cons, joinC] at *
      rw [← ih]
      simp
theorem joinc_any (c : UInt8) (S : Nat → Prop) (v : Value) (L : List (List UInt8)) (w : World) (h : Vec w S 1 encS v L) (hn : L.length ≤ 1000000) (hj : (joinC c L).length ≤ 1000000000) :
    Calls Tryz.prog 52 #[v, strV [c]] w fun e w' => e = .returned (strV (joinC c L)) ∧ Below w.heap.size w w' := by
  obtain ⟨a, cap, rfl, hcap, h0⟩ := h
  have hjj : Lib.join ((L.map mkS).map (·.data.toList)) [c] = joinC c L := by
    rw [List.map_map, ← join_sep]; congr 1; conv => rhs; rw [← List.map_id L]
    exact List.map_congr_left fun x _ => by simp [mkS]
  by_cases hz : L = []
  · subst hz
    exact (Tryz.strings_Join_none a cap ⟨#[c]⟩ w).mono fun e w' ⟨he, hw⟩ => ⟨he, by rw [hw]; exact Below.refl _ _⟩
  · obtain ⟨b, off, rfl, _, hb, hc⟩ := h0 (List.length_pos_iff.2 hz)
    have := Tryz.strings_Join b off cap (L.map mkS) ⟨#[c]⟩ w (fun j x hx => by
      rw [List.getElem?_map] at hx
      obtain ⟨y, hy, rfl⟩ := Option.map_eq_some_iff.1 hx
      have := hc j y hy 0 _ rfl
      simpa [mkS] using this) hb (by simp; omega) (by simpa using hcap) (by rw [show (⟨#[c]⟩ : ByteArray).data.toList = [c] from rfl, hjj]; omega)
    rw [show (⟨#[c]⟩ : ByteArray).data.toList = [c] from rfl, hjj, List.length_map] at this
    exact this
end
section
set_option maxRecDepth 100000
open Go.RowKit
attribute [local go_sem] toList_mk mk_size
theorem encS_one : ∀ x : List UInt8, ∀ u ∈ encS x, u.oneCell' = true := by intro x u hu; simp [encS] at hu; subst hu; rfl
end
section
set_option maxRecDepth 100000
open Go.RowKit Cal
attribute [local go_sem] toList_mk mk_size str_append
theorem joinC_len (c : UInt8) (m : Nat) : ∀ (L : List (List UInt8)), (∀ x ∈ L, x.length ≤ m) → (joinC c L).length ≤ L.length * (m + 1)
  | [], _ => by simp [joinC]
  | [a], h => by have := h a (by simp); simp [joinC]; omega
  | a :: b :: r, h => by
    have h1 := h a (by simp)
    have h2 := joinC_len c m (b :: r) (fun x hx => h x (List.mem_cons_of_mem _ hx))
    simp only [joinC, List.length_append, List.length_cons] at *
    rw [Nat.add_mul, Nat.one_mul]
    omega
/-- strconv.Itoa at a number spells these digits -/
def Spells (n : Int) (x : List UInt8) : Prop := x.length ≤ 20 ∧ ∀ w, Calls Tryz.prog 50 #[.int .i64 n] w fun e w' => e = .returned (strV x) ∧ Below w.heap.size w w'
theorem spells_small (i : Nat) (h : i < 100) : Spells i (Lib.decDigits i) := ⟨by have := digs_len i h; omega, fun w => (Tryz.strconv_Itoa_small i h w).mono (by rintro e w' ⟨rfl, rfl⟩; exact ⟨rfl, Below.refl _ _⟩)⟩
set_option maxHeartbeats 4000000 in
theorem rline_yes (S : Nat → Prop) (r : RecL) (sv : Value) (x y : List UInt8) (w : World) (hv : Vec w S 1 encS sv r.vals) (hx : Spells r.id x) (hy : Spells r.ver y) (hs : ∀ t ∈ r.vals, t.length ≤ 1000) (hn : r.vals.length ≤ 1000) :
    Calls Tryz.prog 71 #[.agg #[.int .i64 r.id, .int .i64 r.ver, sv]] w fun e w' => e = .returned (strV (joinC 9 (x :: y :: r.vals))) ∧ Below w.heap.size w w' := by
  obtain ⟨a, cap, rfl⟩ := hv.slice
  obtain ⟨id, ver, vals⟩ := r
  dsimp only at hv hx hy hs hn ⊢
  have hjl : (joinC 9 (x :: y :: vals)).length ≤ 1000000000 := by
    have := joinC_len 9 1000 (x :: y :: vals) (fun t ht => by
      rcases List.mem_cons.1 ht with rfl | h
      · have := hx.1; omega
      · rcases List.mem_cons.1 h with rfl | h
        · have := hy.1; omega
        · exact hs t h)
    simp only [List.length_cons] at this
    omega
  have HV := Lib.hid hv.any; have HX := Lib.hid hx; have HY := Lib.hid hy; have HJ := Lib.hid hjl; have HN := Lib.hid hn
  clear hv hx hy hs hjl hn
  go_enter Tryz.func71, Tryz.ntmps71
  go_wp2_with fail
  refine wp_world (fun W hW => ?_)
  have hb0 : Below w.heap.size w W := by rw [hW]; exact (Below.refl w.heap.size w).alloc (Nat.le_refl _) _
  have hr0 : W.heap[w.heap.size]? = some (.cells #[.int .i64 id, .int .i64 ver, .slice a vals.length cap] 48 (0, 0)) := by rw [hW]; exact blk_new rfl
  clear hW
  obtain ⟨c0, c1, c2⟩ := cells3 hr0
  have lr := lt_of_blk hr0
  have HB0 := Lib.hid hb0
  clear hb0 hr0
  have bD : Below W.heap.size W W.drew := (Below.refl _ _).drew
  refine wp_region_noPanic ?_
  refine wp_region_k (by kernel_rfl) (fun w' => w'.cell? ⟨w.heap.size, 0, none⟩ = some (.int .i64 id) ∧ w'.cell? ⟨w.heap.size, 1, none⟩ = some (.int .i64 ver) ∧ w'.cell? ⟨w.heap.size, 2, none⟩ = some (.slice a vals.length cap)) 9 (⟨c0, c1, c2⟩) (fun hHeld => ?_)
  refine tK 0 (h := ?_)
  try simp only [List.getElem_toArray, List.getElem_cons_zero, List.getElem_cons_succ, Act.put, List.setIfInBounds_toArray, List.set_cons_zero, List.set_cons_succ]
  refine tK 1 (h := ?_)
  try simp only [List.getElem_toArray, List.getElem_cons_zero, List.getElem_cons_succ, Act.put, List.setIfInBounds_toArray, List.set_cons_zero, List.set_cons_succ]
  refine tK 3 (h := ?_)
  try simp only [List.getElem_toArray, List.getElem_cons_zero, List.getElem_cons_succ, Act.put, List.setIfInBounds_toArray, List.set_cons_zero, List.set_cons_succ]
  refine tK 4 (h := ?_)
  try simp only [List.getElem_toArray, List.getElem_cons_zero, List.getElem_cons_succ, Act.put, List.setIfInBounds_toArray, List.set_cons_zero, List.set_cons_succ]
  refine tK 7 (h := ?_)
  try simp only [List.getElem_toArray, List.getElem_cons_zero, List.getElem_cons_succ, Act.put, List.setIfInBounds_toArray, List.set_cons_zero, List.set_cons_succ]
  refine tK 8 (h := ?_)
  try simp only [List.getElem_toArray, List.getElem_cons_zero, List.getElem_cons_succ, Act.put, List.setIfInBounds_toArray, List.set_cons_zero, List.set_cons_succ]
  refine wpAnyK_ready (rs := [2]) (by kernel_rfl) (by simp) ?_
  refine AllReadyK.cons rfl (fun K hK => ?_) AllReadyK.nil
  go_simp
  refine (HX.out.2 _).mono ?_; rintro e w1 ⟨rfl, hb⟩; have b1 := bD.trans (hb.mono bD.size); clear hb
  refine shutK hK (⟨(b1.cell (p := ⟨w.heap.size, 0, none⟩) lr).trans c0, (b1.cell (p := ⟨w.heap.size, 1, none⟩) lr).trans c1, (b1.cell (p := ⟨w.heap.size, 2, none⟩) lr).trans c2⟩) (fun hHeld => ?_)
  clear hK K
  try simp only [List.getElem_toArray, List.getElem_cons_zero, List.getElem_cons_succ, Act.put, List.setIfInBounds_toArray, List.set_cons_zero, List.set_cons_succ]
  refine wpAnyK_ready (rs := [5]) (by kernel_rfl) (by simp) ?_
  refine AllReadyK.cons rfl (fun K hK => ?_) AllReadyK.nil
  go_simp
  refine (HY.out.2 _).mono ?_; rintro e w2 ⟨rfl, hb⟩; have b2 := b1.trans (hb.mono b1.size); clear hb
  refine shutK hK (⟨(b2.cell (p := ⟨w.heap.size, 0, none⟩) lr).trans c0, (b2.cell (p := ⟨w.heap.size, 1, none⟩) lr).trans c1, (b2.cell (p := ⟨w.heap.size, 2, none⟩) lr).trans c2⟩) (fun hHeld => ?_)
  clear hK K
  try simp only [List.getElem_toArray, List.getElem_cons_zero, List.getElem_cons_succ, Act.put, List.setIfInBounds_toArray, List.set_cons_zero, List.set_cons_succ]
  have b3 := b2.alloc b2.size (.cells ([x, y].flatMap encS).toArray 9)
  refine wpAnyK_ready (rs := [6]) (by kernel_rfl) (by simp) ?_
  refine AllReadyK.cons rfl (fun K hK => ?_) AllReadyK.nil
  go_simp
  skip
  refine shutK hK (⟨(b3.cell (p := ⟨w.heap.size, 0, none⟩) lr).trans c0, (b3.cell (p := ⟨w.heap.size, 1, none⟩) lr).trans c1, (b3.cell (p := ⟨w.heap.size, 2, none⟩) lr).trans c2⟩) (fun hHeld => ?_)
  clear hK K
  try simp only [List.getElem_toArray, List.getElem_cons_zero, List.getElem_cons_succ, Act.put, List.setIfInBounds_toArray, List.set_cons_zero, List.set_cons_succ]
  have ho : OwnV 9 1 encS w (.slice (some ⟨w2.heap.size, 0, none⟩) 2 2) [x, y] (w2.alloc (.cells ([x, y].flatMap encS).toArray 9)) := own_new (HB0.out.trans (b3.mono HB0.out.size)) (Nat.le_trans HB0.out.size b2.size) (blk_new rfl) rfl (by simp) rfl
  have hrd := Vec.reads (k := 1) (enc := encS) (fun _ => rfl) (HV.out.below (HB0.out.trans (b3.mono HB0.out.size)))
  have HO := Lib.hid ho; have HRd := Lib.hid hrd
  have hbd : ([x, y] : List (List UInt8)).length + vals.length ≤ 1000000000 := by have := HN.out; simp; omega
  clear ho hrd b1 b2 b3 bD
  refine wpAnyK_ready (rs := [9]) (by kernel_rfl) (by simp) ?_
  refine AllReadyK.cons rfl (fun K hK => ?_) AllReadyK.nil
  refine wp_append_v (.tmp 9) (.tmp 11) 28 (by rfl) 9 (.string ⟨#[]⟩) 1 16 encS (fun _ => rfl) encS_one Tryz.underlying28 infoS rfl (by decide) (by decide) (w0 := w) (v := .slice (some ⟨w2.heap.size, 0, none⟩) 2 2) (A := [x, y]) (B := vals) (by rfl) HO.out (by rfl) HRd.out hbd ?_; intro v5 w5 ho5 hk5 hz5
  refine shutK_off hK (by decide) ?_
  clear hK K
  try simp only [List.getElem_toArray, List.getElem_cons_zero, List.getElem_cons_succ, Act.put, List.setIfInBounds_toArray, List.set_cons_zero, List.set_cons_succ]
  have HO5 := Lib.hid ho5
  clear ho5 hk5 hz5
  refine wpAnyK_ready (rs := [10]) (by kernel_rfl) (by simp) ?_
  refine AllReadyK.cons rfl (fun K hK => ?_) AllReadyK.nil
  go_simp
  refine (joinc_any 9 _ v5 ([x, y] ++ vals) w5 (OwnV.vec (enc := encS) (fun _ => rfl) HO5.out) (by have := HN.out; simp; omega) HJ.out).mono ?_; rintro e w6 ⟨rfl, hb⟩; have HB6 := Lib.hid (HO5.out.2.trans (hb.mono HO5.out.2.size)); clear hb
  refine shutK_off hK (by decide) ?_
  clear hK K
  try simp only [List.getElem_toArray, List.getElem_cons_zero, List.getElem_cons_succ, Act.put, List.setIfInBounds_toArray, List.set_cons_zero, List.set_cons_succ]
  refine wpAnyK_ready (rs := [11]) (by kernel_rfl) (by simp) ?_
  refine AllReadyK.cons rfl (fun K hK => ?_) AllReadyK.nil
  go_simp
  skip
  refine shutK_off hK (by decide) ?_
  clear hK K
  try simp only [List.getElem_toArray, List.getElem_cons_zero, List.getElem_cons_succ, Act.put, List.setIfInBounds_toArray, List.set_cons_zero, List.set_cons_succ]
  refine wpAnyK_done (by kernel_rfl) ?_ _
  refine NoPanic.normal ?_
  go_wp2_with fail
  go_ret
  exact ⟨rfl, HB6.out⟩
set_option maxHeartbeats 4000000 in
/-- Line of a valid record -/
theorem rLine_yes (S : Nat → Prop) (vf vt vn vs : Value) (s : SchemaL) (r : RecL) (sv : Value) (x y : List UInt8) (w : World) (h : SchemaAt w S vf vt vn vs s) (hv : Vec w Any1 1 encS sv r.vals) (hc : checkN s r = 0) (hx : Spells r.id x) (hy : Spells r.ver y) (hs : ∀ t ∈ r.vals, t.length ≤ 1000) (hn : r.vals.length ≤ 1000) :
    Calls Tryz.prog 28 #[.agg #[vf, vt, vn, vs], .agg #[.int .i64 r.id, .int .i64 r.ver, sv]] w fun e w' => e = .returned (.tuple #[strV (joinC 9 (x :: y :: r.vals)), .int .i64 0]) ∧ Below w.heap.size w w' := by
  obtain ⟨a, cap, rfl⟩ := hv.slice
  have HV := Lib.hid hv; have HS := Lib.hid h; have HC := Lib.hid hc; have HX := Lib.hid hx; have HY := Lib.hid hy; have HSh := Lib.hid hs
  have dz : ((0 : Int) != 0) = false := rfl
  obtain ⟨id, ver, vals⟩ := r
  dsimp only at HV HX HY HSh hn ⊢
  clear hv h hc hx hy hs
  go_enter Tryz.func28, Tryz.ntmps28
  go_wp2_with fail
  refine wp_calls_world (fun W hW => ?_)
  have hb0 : Below w.heap.size w W := by rw [hW]; exact ((Below.refl w.heap.size w).alloc (Nat.le_refl _) _).alloc (by simp) _
  have hr0 : W.heap[w.heap.size + 1]? = some (.cells #[.int .i64 id, .int .i64 ver, .slice a vals.length cap] 48 (0, 0)) := by rw [hW]; exact blk_new (by simp)
  clear hW
  refine (rcheck_all S _ _ _ _ s ⟨id, ver, vals⟩ _ W (HS.out.below hb0) (HV.out.below hb0) (fun t ht => by have := HSh.out t ht; omega) (by show vals.length ≤ 1000000; omega)).mono ?_
  rw [HC.out]
  rintro e w1 ⟨rfl, hb⟩
  have hr1 := blk_below hb (lt_of_blk hr0) hr0
  have HB1 := Lib.hid (hb0.trans (hb.mono hb0.size))
  obtain ⟨r0, r1, r2⟩ := cells3 hr1
  clear hb hb0 hr0 hr1
  go_wp2_with fail
  refine (rline_yes Any1 ⟨id, ver, vals⟩ _ x y w1 (HV.out.below HB1.out) HX.out HY.out HSh.out hn).mono ?_
  rintro e w2 ⟨rfl, hb⟩
  have HB2 := Lib.hid (HB1.out.trans (hb.mono HB1.out.size))
  clear hb
  go_wp2_with fail
  go_ret2
  exact ⟨rfl, HB2.out⟩
set_option maxHeartbeats 4000000 in
/-- the file of no records -/
theorem rfile_none (S : Nat → Prop) (vf vt vn vs : Value) (s : SchemaL) (w : World) (h : SchemaAt w S vf vt vn vs s) (hc : checkS s = 0) :
    Calls Tryz.prog 27 #[.agg #[vf, vt, vn, vs], .slice none 0 0] w fun e w' => e = .returned (.tuple #[strV [101, 110, 100, 32, 48, 10], .int .i64 0]) ∧ Below w.heap.size w w' := by
  have h0 : allN s [] = 0 := by unfold allN; rw [if_pos hc]; rfl
  have hit := (spells_small 0 (by decide)).2
  rw [show Lib.decDigits 0 = [48] from by decide +kernel] at hit
  have HS := Lib.hid h; have HC := Lib.hid hc; have H0 := Lib.hid h0; have HI := Lib.hid hit
  have dz : ((0 : Int) != 0) = false := rfl
  clear h hc h0 hit
  go_enter Tryz.func27, Tryz.ntmps27
  go_wp2_with fail
  refine wp_calls_world (fun W hW => ?_)
  have hb0 : Below w.heap.size w W := by rw [hW]; exact (Below.refl w.heap.size w).alloc (Nat.le_refl _) _
  clear hW
  refine (rall_any S Any1 _ _ _ _ (.slice none 0 0) s [] W (HS.out.below hb0) ⟨[], Vec.nil _ _ _ _, rfl, fun x hx => by simp at hx⟩ (fun r hr => by simp at hr) (fun r hr => by simp at hr) (by simp)).mono ?_
  rw [H0.out]
  rintro e w1 ⟨rfl, hb⟩
  have HB1 := Lib.hid (hb0.trans (hb.mono hb0.size))
  clear hb hb0
  go_wp2_with fail
  refine wp_world (fun W2 hW2 => ?_)
  have hb2 : Below w1.heap.size w1 W2 := by rw [hW2]; exact (Below.refl w1.heap.size w1).alloc (Nat.le_refl _) _
  have hh2 : HoldsB w1.heap.size w1.heap.size [] W2 := by rw [hW2]; exact ⟨.inl ⟨Nat.le_refl _, _, blk_new rfl, ⟨rfl, .inl ⟨rfl, rfl⟩⟩, by simp [Value.ownBlock]⟩, by simp⟩
  have HH2 := Lib.hid hh2; have HB2 := Lib.hid (HB1.out.trans (hb2.mono HB1.out.size)); have HB12 := Lib.hid hb2
  clear hW2 hb2 hh2
  go_loopw [18] (fun i wr => i = .int .i64 0 ∧ wr = W2) (fun i _ => 0)
  case atStart => exact ⟨rfl, rfl⟩
  case round =>
    obtain ⟨rfl, rfl⟩ := hrel
    go_wp2_with fail
    refine (HI.out _).mono ?_
    rintro e w3 ⟨rfl, hb⟩
    have HH3 := Lib.hid (HH2.out.below hb); have HB3 := Lib.hid (HB12.out.trans (hb.mono HB12.out.size))
    clear hb
    go_wp2_with fail
    refine (wstr_k w1.heap.size w1.heap.size (Lib.byteCells []) ⟨([101, 110, 100, 32, 48, 10] : List UInt8).toArray⟩ _ HH3.out.1 (by rw [Lib.byteCells_length, mk_size]; simp) HH3.out.2).mono ?_
    rintro e w4 ⟨rfl, h4, hb4, hk4⟩
    rw [show Lib.strCells ⟨([101, 110, 100, 32, 48, 10] : List UInt8).toArray⟩ = Lib.byteCells [101, 110, 100, 32, 48, 10] from rfl, ← Lib.byteCells_append, List.nil_append] at h4
    have HB4 := Lib.hid (HB3.out.trans hb4)
    have H4 := Lib.hid h4
    have hz4 := Nat.le_trans HH3.out.2 hb4.size
    clear h4 hb4 hk4
    go_wp2_with fail
    refine (bstr_k w1.heap.size w1.heap.size _ _ (.inr H4.out) hz4).mono ?_
    rintro e w5 ⟨rfl, hb5⟩
    have HB5 := Lib.hid (HB1.out.trans ((HB4.out.trans hb5).mono HB1.out.size))
    clear hb5
    go_wp2_with fail
    go_ret2
    exact ⟨rfl, HB5.out⟩
end
section
open Go.RowKit
theorem deck_law {w w1 : World} {a : Option Addr} {n cap : Nat} {zs : List Int} (hn : n ≤ 400) (hr : IsRow .i64 w a n cap zs) (hb : Below w.heap.size w w1) :
    DeckAt (w1.alloc (.cells #[.slice a n cap, .int .i64 0, .int .u64 11400714819323198485] 87)) w1.heap.size :=
  deck_new hn fun h0 => by
    obtain ⟨b, off, e1, e2, e3⟩ := hr.read h0
    exact ⟨b, off, e1, Nat.lt_of_lt_of_le e2 hb.size, fun i hi => by obtain ⟨x, hx⟩ := e3 i hi; exact ⟨x, (hb.cell (p := ⟨b, off + i, none⟩) e2).trans hx⟩⟩
end
section
set_option maxRecDepth 100000
open Go.RowKit Cal
attribute [local go_sem] toList_mk mk_size str_append
theorem SchemaAt.moved {D : Nat} {w w' : World} {S : Nat → Prop} {vf vt vn vs : Value} {s : SchemaL} (h : SchemaAt w S vf vt vn vs s) (hS : ∀ b, S b → b ≠ D) (m : Moved D w w') : SchemaAt w' S vf vt vn vs s :=
  have mv : ∀ b, b < w.heap.size → S b → w'.heap[b]? = w.heap[b]? ∧ S b := fun b hb hs => ⟨m.grown.block b hb (by have := hS b hs; simp; omega), hs⟩
  ⟨h.1.move m.size mv, h.2.1.move m.size mv, h.2.2.1.move m.size mv, h.2.2.2.move m.size mv⟩
theorem fields_cell {w : World} {S : Nat → Prop} {a : Option Addr} {n cap : Nat} {F : List F2} (h : Vec w S 2 encF (.slice a n cap) F) (h0 : 0 < F.length) : ∃ b off, a = some ⟨b, off, none⟩ ∧ S b ∧ b < w.heap.size ∧ ∀ j, j < F.length → w.cell? ⟨b, off + j * 2 + 1, none⟩ = some (.int .i64 (F.getD j default).2) := by
  obtain ⟨b, off, e, hS, hb, hc⟩ := vec_cell2 h h0
  exact ⟨b, off, e, hS, hb, fun j hj => hc j hj 1 _ rfl⟩
/-- where a law stands that has dealt a schema: the deck in block D, the schema in block y, the kind of a field in cell o of block b -/
structure Drawn (D : Nat) (w : World) (y : Nat) (S : Nat → Prop) (vf vt vn vs : Value) (s : SchemaL) (b o : Nat) (kf : Int) (wr : World) : Prop where
  m : Moved D w wr
  x : wr.heap[y]? = some (.cells #[vf, vt, vn, vs] 33 (0, 0))
  s : SchemaAt wr S vf vt vn vs s
  c : wr.cell? ⟨b, o, none⟩ = some (.int .i64 kf)
  ne : ∀ b, S b → b ≠ D
  yD : y ≠ D
  bD : b ≠ D
theorem Drawn.moved {D : Nat} {w : World} {y : Nat} {S : Nat → Prop} {vf vt vn vs : Value} {s : SchemaL} {b o : Nat} {kf : Int} {wr wd : World} (h : Drawn D w y S vf vt vn vs s b o kf wr) (m : Moved D wr wd) : Drawn D w y S vf vt vn vs s b o kf wd :=
  ⟨h.m.trans m, m.blk h.yD h.x, h.s.moved h.ne m, (World.cell?_of_block (w := wr) (a := ⟨b, o, none⟩) (m.grown.block b (World.block_lt_of_cell? _ ⟨b, o, none⟩ h.c) (by have := h.bD; simp; omega))).trans h.c, h.ne, h.yD, h.bD⟩
theorem Drawn.below {D : Nat} {w : World} {y : Nat} {S : Nat → Prop} {vf vt vn vs : Value} {s : SchemaL} {b o : Nat} {kf : Int} {wr wd : World} (h : Drawn D w y S vf vt vn vs s b o kf wr) (hb : Below wr.heap.size wr wd) : Drawn D w y S vf vt vn vs s b o kf wd :=
  h.moved ((Moved.start h.m.deck).below hb)
end
section
set_option maxRecDepth 100000
open Go.RowKit Cal
attribute [local go_sem] toList_mk mk_size str_append
theorem makeA_short (s : SchemaL) (raws : List (List UInt8)) : ∀ i C, (∀ x ∈ C, x.length ≤ 64) → ∀ x ∈ (makeA s i C raws).1, x.length ≤ 64 := by
  induction raws with
  | nil => intro i C h; simpa [makeA] using h
  | cons y l ih =>
    intro i C h
    unfold makeA
    split
    · refine ih _ _ fun x hx => ?_
      rcases List.mem_append.1 hx with h1 | h1
      · exact h x h1
      · simp at h1; subst h1; exact (valueN_form s i y).1
    · intro x hx; simp at hx
theorem Vec.far {α : Type} {w : World} {S : Nat → Prop} {k : Nat} {enc : α → List Value} {v : Value} {L : List α} (h : Vec w S k enc v L) {a : Addr} {u : Value} (hn : ∀ b, S b → b ≠ a.block) : Vec (w.setCell a u) S k enc v L :=
  h.move (by simp [World.setCell]) fun b _ hs => ⟨heap_setCell_other _ _ _ _ (hn b hs), hs⟩
theorem oneS : ∀ x : List UInt8, ∀ u ∈ encS x, u.oneCell' = true := by intro x u hu; simp [encS] at hu; subst hu; rfl
theorem rec_made {s : SchemaL} {id ver : Int} {raws : List (List UInt8)} {r : RecL} (h : makeN s id ver raws = (r, 0)) : r.id = id ∧ checkN s r = 0 ∧ ∀ x ∈ r.vals, x.length ≤ 64 := by
  obtain ⟨h1, h2, h3, h4, h5, _, h7, h8, _⟩ := makeN_ok h
  refine ⟨h2, checkN_of h1 (by rw [h2, h3]; exact h4) h5 h7, ?_⟩
  rw [h8]
  exact makeA_short s raws 0 [] (by simp)
theorem rec_none {s : SchemaL} {id : Int} (h : checkS s = 0) (h1 : 1 ≤ id) (h2 : id ≤ 1048576) : checkN s ⟨id, 1, List.replicate s.fields.length []⟩ = 0 :=
  checkN_of h (by simp [numberedB, h1, h2]) (by simp) (none_norm h)
theorem made_strings (m : Nat) : madeCells #[.string ⟨#[]⟩] m = ((List.replicate m ([] : List UInt8)).flatMap encS).toArray := by
  apply Array.ext'
  have : ∀ k, (List.replicate k ([] : List UInt8)).flatMap encS = List.replicate k (.string ⟨#[]⟩) := by
    intro k; induction k with
    | zero => rfl
    | succ k ih => rw [List.replicate_succ, List.flatMap_cons, ih]; rfl
  rw [this]
  unfold madeCells
  rw [Array.toList_map, Array.toList_range]
  refine List.ext_getElem (by simp) fun i h1 h2 => ?_
  simp [Nat.mod_one]
def RecordPost (D : Nat) (s : SchemaL) (id : Int) (w : World) (e : Ending) (w' : World) : Prop := ∃ v r, e = .returned v ∧ RecVal w' (fun b => w.heap.size ≤ b) v r ∧ r.id = id ∧ checkN s r = 0 ∧ (∀ x ∈ r.vals, x.length ≤ 64) ∧ Moved D w w'
set_option maxHeartbeats 8000000 in
theorem record_deal (D : Nat) (S : Nat → Prop) (vf vt vn vs : Value) (s : SchemaL) (id : Int) (w : World) (h : DeckAt w D) (hs : SchemaAt w S vf vt vn vs s) (hS : ∀ b, S b → b ≠ D) (hd : SchemaD s) (h1 : 1 ≤ id) (h2 : id ≤ 1048576) :
    Calls Tryz.prog 15 #[.pointer (some ⟨D, 0, none⟩), .agg #[vf, vt, vn, vs], .int .i64 id] w (RecordPost D s id w) := by
  have zD := h.lt
  have M0 := Lib.hid (Moved.start h); clear h
  obtain ⟨af, cf, rfl⟩ := hs.1.slice
  have h5 := hd.fields.len
  have HS := Lib.hid hs; have HSD := Lib.hid hd; have HSne := Lib.hid hS
  clear hs hd hS
  go_enter Tryz.func15, Tryz.ntmps15
  go_wp2_with fail
  refine wp_world (fun W hW => ?_)
  have hm : Moved D w W := by rw [hW]; exact (M0.out.alloc _).alloc _
  have hb0 : Below w.heap.size w W := by rw [hW]; exact ((Below.refl w.heap.size w).alloc (Nat.le_refl _) _).alloc (by simp) _
  have hs0 : W.heap[w.heap.size]? = some (.cells #[.slice af s.fields.length cf, vt, vn, vs] 33 (0, 0)) := by rw [hW]; exact blk_old (blk_new rfl)
  have hz0 : W.heap[w.heap.size + 1]? = some (.cells #[.int .i64 0, .int .i64 0, .slice none 0 0] 48 (0, 0)) := by rw [hW]; exact blk_new (by simp)
  have hzW : W.heap.size = w.heap.size + 2 := by rw [hW]; simp
  clear hW
  have HM := Lib.hid hm; have HS0 := Lib.hid hs0; have HZ0 := Lib.hid hz0; have HSW := Lib.hid (HS.out.below hb0); have HZW := Lib.hid hzW
  clear hm hs0 hz0 hb0 hzW
  obtain ⟨n, hn⟩ : ∃ n, s.fields.length = n := ⟨_, rfl⟩
  rw [hn] at HS0 HSW h5 ⊢
  have HN := Lib.hid hn; clear hn
  go_loopw [7, 8] (fun v i wr => ∃ (j : Nat) (L : List (List UInt8)), i = .int .i64 j ∧ j ≤ n ∧ L.length = j ∧ (∀ x ∈ L, x.length ≤ 64) ∧ OwnM D 9 1 encS W v L wr) (fun _ i _ => n - (intOf i).toNat)
  case atStart => exact ⟨0, [], rfl, by omega, rfl, by simp, ⟨by simp, .inl ⟨rfl, rfl⟩⟩, Moved.start HM.out.deck⟩
  case round =>
    obtain ⟨j, L, rfl, hj, hL, hsh, ho⟩ := hrel
    have HO := Lib.hid ho; have HL := Lib.hid hL; have HSh := Lib.hid hsh
    have hsr := ho.2.blk (k := w.heap.size) (by omega) HS0.out
    have HSR := Lib.hid hsr
    obtain ⟨s0, s1, s2, s3⟩ := cellsS hsr
    have hzs := lt_of_blk hsr
    clear ho hL hsh hsr
    by_cases hlt : j < n
    · have hq : decide ((j : Int) < n) = true := by simp; omega
      have hjs : j < s.fields.length := by rw [HN.out]; exact hlt
      obtain ⟨b, off, eaf, hSb, hb, hc⟩ := fields_cell HSW.out.1 (by omega)
      cases eaf
      have hbD := HSne.out b hSb
      have kc := (World.cell?_of_block (w := W) (a := ⟨b, off + j * 2 + 1, none⟩) (HO.out.2.grown.block b hb (by simp; omega))).trans (hc j hjs)
      obtain ⟨kf, hkf⟩ : ∃ kf, (s.fields.getD j default).2 = kf := ⟨_, rfl⟩
      rw [hkf] at kc
      have hjn : (j : Int) < (n : Int) := by omega
      clear hc hkf hjs hSb
      go_wp2_with fail
      refine (raw_deal D kf _ HO.out.2.deck).mono ?_
      rintro e w1 ⟨x, rfl, hx, mv⟩
      have HX := Lib.hid hx
      have HO1 := Lib.hid (HO.out.moved (mv.alloc (.cells #[strV x] 9)))
      have HR1 := Lib.hid (show Reads (w1.alloc (.cells #[strV x] 9)) 1 (.slice (some ⟨w1.heap.size, 0, none⟩) 1 1) [x].length ([x].flatMap encS) from reads_block (t := 9) (fr := (0, 0)) (blk_new rfl) rfl)
      have hsh2 : ∀ y ∈ L ++ [x], y.length ≤ 64 := by
        intro y hy
        rcases List.mem_append.1 hy with h | h
        · exact HSh.out y h
        · simp at h; subst h; exact hx
      have HSh2 := Lib.hid hsh2
      have hcn : L.length + [x].length ≤ 1000000000 := by rw [HL.out]; simp only [List.length_cons, List.length_nil]; omega
      clear hx mv hsh2
      go_wp2_with (at_builtin; refine wpList_append_m rfl (.tmp 18) (.tmp 27) 28 rfl D 9 (.string ⟨#[]⟩) 1 16 encS (fun _ => rfl) oneS Tryz.underlying28 infoS rfl (by decide) (by decide) (wA := W) (v := u7) (A := L) (B := [x]) rfl HO1.out rfl HR1.out hcn ?_; intro v4 w4 ho4 hk4)
      go_roundw
      case rel => exact ⟨j + 1, L ++ [x], by go_num, by omega, by rw [List.length_append, HL.out]; rfl, HSh2.out, ho4⟩
      case measure => simp [intOf]; omega
    · have hq : decide ((j : Int) < n) = false := by simp; omega
      obtain rfl : j = n := by omega
      have HV := Lib.hid (Vec.owns (k := 1) (enc := encS) (S := fun b => W.heap.size ≤ b) (fun _ => rfl) HO.out.1 (fun b hb _ => hb))
      obtain ⟨aL, cL, hvL⟩ := own_slice HO.out.1
      subst hvL
      have HSr := Lib.hid (HSW.out.moved HSne.out HO.out.2)
      have hneD : w.heap.size ≠ D := by omega
      have mD : Moved D wr wr.drew := (Moved.start HO.out.2.deck).drew
      go_wp2_with fail
      go_cut [9, 10] (fun s9 s10 wx => ∃ (rb : Nat) (er y : Int) (sv : Value) (r : RecL), s9 = .pointer (some ⟨rb, 0, none⟩) ∧ s10 = .int .i64 er ∧ wx.heap[rb]? = some (.cells #[.int .i64 r.id, .int .i64 r.ver, sv] 48 (0, 0)) ∧ Vec wx (fun b => w.heap.size + 2 ≤ b) 1 encS sv r.vals ∧ Hid (makeN s id (1 + y) L = (r, er)) ∧ 0 ≤ y ∧ y < 3 ∧ Moved D wr wx ∧ wr.heap.size ≤ rb)
      case first =>
        refine wp_region_noPanic ?_
        refine wp_region_k (by kernel_rfl) (fun w' => w'.cell? ⟨w.heap.size, 0, none⟩ = some (.slice af j cf) ∧ w'.cell? ⟨w.heap.size, 1, none⟩ = some vt ∧ w'.cell? ⟨w.heap.size, 2, none⟩ = some vn ∧ w'.cell? ⟨w.heap.size, 3, none⟩ = some vs) 12 (⟨s0, s1, s2, s3⟩) (fun hHeld => ?_)
        refine tK 0 (h := ?_)
        try simp only [List.getElem_toArray, List.getElem_cons_zero, List.getElem_cons_succ, Act.put, List.setIfInBounds_toArray, List.set_cons_zero, List.set_cons_succ]
        refine tK 1 (h := ?_)
        try simp only [List.getElem_toArray, List.getElem_cons_zero, List.getElem_cons_succ, Act.put, List.setIfInBounds_toArray, List.set_cons_zero, List.set_cons_succ]
        refine tK 2 (h := ?_)
        try simp only [List.getElem_toArray, List.getElem_cons_zero, List.getElem_cons_succ, Act.put, List.setIfInBounds_toArray, List.set_cons_zero, List.set_cons_succ]
        refine tK 5 (h := ?_)
        try simp only [List.getElem_toArray, List.getElem_cons_zero, List.getElem_cons_succ, Act.put, List.setIfInBounds_toArray, List.set_cons_zero, List.set_cons_succ]
        refine wpAnyK_ready (rs := [3, 10]) (by kernel_rfl) (by simp) ?_
        refine AllReadyK.cons rfl (fun K hK => ?_) (AllReadyK.cons rfl (fun K hK => ?_) AllReadyK.nil)
        focus
          go_simp
          refine (next_any D _ 3 mD.deck (by omega) (by omega)).mono ?_
          rintro e W1 ⟨y, rfl, y0, y1, mv⟩
          have m1 := mD.trans mv
          clear mv
          have hwy : IntKind.i64.wrap (1 + y) = 1 + y := by rw [IntKind.wrap_i64]; omega
          refine shutK hK (⟨(cellsS (m1.blk (k := w.heap.size) hneD HSR.out)).1, (cellsS (m1.blk (k := w.heap.size) hneD HSR.out)).2.1, (cellsS (m1.blk (k := w.heap.size) hneD HSR.out)).2.2.1, (cellsS (m1.blk (k := w.heap.size) hneD HSR.out)).2.2.2⟩) (fun hHeld => ?_)
          clear hK K
          try simp only [List.getElem_toArray, List.getElem_cons_zero, List.getElem_cons_succ, Act.put, List.setIfInBounds_toArray, List.set_cons_zero, List.set_cons_succ]
          refine tK 4 (h := ?_)
          try simp only [List.getElem_toArray, List.getElem_cons_zero, List.getElem_cons_succ, Act.put, List.setIfInBounds_toArray, List.set_cons_zero, List.set_cons_succ]
          refine wpAnyK_ready (rs := [6, 10]) (by kernel_rfl) (by simp) ?_
          refine AllReadyK.cons rfl (fun K hK => ?_) (AllReadyK.cons rfl (fun K hK => ?_) AllReadyK.nil)
          focus
            go_simp
            have hnum : numberedB id (1 + y) = true := by simp [numberedB]; omega
            obtain ⟨⟨r, er⟩, hR⟩ : ∃ R, makeN s id (1 + y) L = R := ⟨_, rfl⟩
            have hmk := rmake_yes S _ (.slice af j cf) vt vn vs s id (1 + y) L (.slice aL L.length cL) _ (HSr.out.moved HSne.out m1) (HV.out.move (S' := fun b => W.heap.size ≤ b) m1.size fun b hb hs => ⟨m1.grown.block b hb (by have hs' : W.heap.size ≤ b := hs; have h3 := HZW.out; have h4 := zD; simp; omega), hs⟩) HSD.out.check (HL.out.trans HN.out.symm) hnum (fun x hx => by have := HSh.out x hx; omega)
            rw [hR] at hmk
            refine hmk.mono ?_
            rintro e W2 ⟨_, rfl, ⟨sv, rfl, hvv⟩, hb⟩
            have m2 := m1.below hb
            have hvv2 := hvv.move (w' := W2) (S' := fun b => w.heap.size + 2 ≤ b) (Nat.le_refl _) fun b hb' hs => ⟨rfl, by have h1 := m1.size; have h2 := HO.out.2.size; have h3 := HZW.out; have hs' := hs; omega⟩
            obtain ⟨asv, csv, esv⟩ := hvv2.slice; subst esv
            have HRR := Lib.hid hR
            clear hb hvv hmk hR
            refine shutK hK (⟨(cellsS (m2.blk (k := w.heap.size) hneD HSR.out)).1, (cellsS (m2.blk (k := w.heap.size) hneD HSR.out)).2.1, (cellsS (m2.blk (k := w.heap.size) hneD HSR.out)).2.2.1, (cellsS (m2.blk (k := w.heap.size) hneD HSR.out)).2.2.2⟩) (fun hHeld => ?_)
            clear hK K
            try simp only [List.getElem_toArray, List.getElem_cons_zero, List.getElem_cons_succ, Act.put, List.setIfInBounds_toArray, List.set_cons_zero, List.set_cons_succ]
            refine tK 7 (h := ?_)
            try simp only [List.getElem_toArray, List.getElem_cons_zero, List.getElem_cons_succ, Act.put, List.setIfInBounds_toArray, List.set_cons_zero, List.set_cons_succ]
            refine tK 8 (h := ?_)
            try simp only [List.getElem_toArray, List.getElem_cons_zero, List.getElem_cons_succ, Act.put, List.setIfInBounds_toArray, List.set_cons_zero, List.set_cons_succ]
            refine tK 9 (h := ?_)
            try simp only [List.getElem_toArray, List.getElem_cons_zero, List.getElem_cons_succ, Act.put, List.setIfInBounds_toArray, List.set_cons_zero, List.set_cons_succ]
            refine wpAnyK_ready (rs := [10]) (by kernel_rfl) (by simp) ?_
            refine AllReadyK.cons rfl (fun K hK => ?_) AllReadyK.nil
            go_simp
            refine shutK hK (⟨(cellsS ((m2.alloc _).blk (k := w.heap.size) hneD HSR.out)).1, (cellsS ((m2.alloc _).blk (k := w.heap.size) hneD HSR.out)).2.1, (cellsS ((m2.alloc _).blk (k := w.heap.size) hneD HSR.out)).2.2.1, (cellsS ((m2.alloc _).blk (k := w.heap.size) hneD HSR.out)).2.2.2⟩) (fun hHeld => ?_)
            clear hK K
            try simp only [List.getElem_toArray, List.getElem_cons_zero, List.getElem_cons_succ, Act.put, List.setIfInBounds_toArray, List.set_cons_zero, List.set_cons_succ]
            refine wpk_name (fun W3 hW3 => ?_)
            have m3 : Moved D wr W3 := by rw [hW3]; exact m2.alloc (.cells #[.int .i64 0, .int .i64 0, .slice none 0 0] 48)
            have gb : W3.heap[W2.heap.size]? = some (.cells #[.int .i64 0, .int .i64 0, .slice none 0 0] 48 (0, 0)) := by rw [hW3]; exact blk_new rfl
            have hrb : wr.heap.size ≤ W2.heap.size := m2.size
            have HX3 : ∀ b, b < W2.heap.size → W3.heap[b]? = W2.heap[b]? := by rw [hW3]; exact fun b hb => heap_alloc_old _ _ hb
            have hnrb : w.heap.size ≠ W2.heap.size := by have := hzs; omega
            clear hW3 hHeld
            have hHeld : W3.cell? ⟨w.heap.size, 0, none⟩ = some (.slice af j cf) ∧ W3.cell? ⟨w.heap.size, 1, none⟩ = some vt ∧ W3.cell? ⟨w.heap.size, 2, none⟩ = some vn ∧ W3.cell? ⟨w.heap.size, 3, none⟩ = some vs := ⟨(cellsS (m3.blk (k := w.heap.size) hneD HSR.out)).1, (cellsS (m3.blk (k := w.heap.size) hneD HSR.out)).2.1, (cellsS (m3.blk (k := w.heap.size) hneD HSR.out)).2.2.1, (cellsS (m3.blk (k := w.heap.size) hneD HSR.out)).2.2.2⟩
            have hvv3 := hvv2.move (w' := W3) (S' := fun b => w.heap.size + 2 ≤ b ∧ b ≠ W2.heap.size) (by have h9 := lt_of_blk gb; omega) fun b hb' hs => ⟨HX3 b hb', hs, by omega⟩
          rotate_left 1
          focus
            go_simp
            refine shutK hK (⟨(cellsS ((m1.alloc _).blk (k := w.heap.size) hneD HSR.out)).1, (cellsS ((m1.alloc _).blk (k := w.heap.size) hneD HSR.out)).2.1, (cellsS ((m1.alloc _).blk (k := w.heap.size) hneD HSR.out)).2.2.1, (cellsS ((m1.alloc _).blk (k := w.heap.size) hneD HSR.out)).2.2.2⟩) (fun hHeld => ?_)
            clear hK K
            try simp only [List.getElem_toArray, List.getElem_cons_zero, List.getElem_cons_succ, Act.put, List.setIfInBounds_toArray, List.set_cons_zero, List.set_cons_succ]
            refine wpk_name (fun W2 hW2 => ?_)
            have m2 : Moved D wr W2 := by rw [hW2]; exact m1.alloc (.cells #[.int .i64 0, .int .i64 0, .slice none 0 0] 48)
            have gb : W2.heap[W1.heap.size]? = some (.cells #[.int .i64 0, .int .i64 0, .slice none 0 0] 48 (0, 0)) := by rw [hW2]; exact blk_new rfl
            have hrb : wr.heap.size ≤ W1.heap.size := m1.size
            have HX2 : ∀ b, b < W1.heap.size → W2.heap[b]? = W1.heap[b]? := by rw [hW2]; exact fun b hb => heap_alloc_old _ _ hb
            have hnrb : w.heap.size ≠ W1.heap.size := by have := hzs; omega
            clear hW2 hHeld
            have hHeld : W2.cell? ⟨w.heap.size, 0, none⟩ = some (.slice af j cf) ∧ W2.cell? ⟨w.heap.size, 1, none⟩ = some vt ∧ W2.cell? ⟨w.heap.size, 2, none⟩ = some vn ∧ W2.cell? ⟨w.heap.size, 3, none⟩ = some vs := ⟨(cellsS (m2.blk (k := w.heap.size) hneD HSR.out)).1, (cellsS (m2.blk (k := w.heap.size) hneD HSR.out)).2.1, (cellsS (m2.blk (k := w.heap.size) hneD HSR.out)).2.2.1, (cellsS (m2.blk (k := w.heap.size) hneD HSR.out)).2.2.2⟩
            refine wpAnyK_ready (rs := [6]) (by kernel_rfl) (by simp) ?_
            refine AllReadyK.cons rfl (fun K hK => ?_) AllReadyK.nil
            go_simp
            have hlt0 : W1.heap.size < _ := lt_of_blk gb
            have hnum : numberedB id (1 + y) = true := by simp [numberedB]; omega
            obtain ⟨⟨r, er⟩, hR⟩ : ∃ R, makeN s id (1 + y) L = R := ⟨_, rfl⟩
            have hmk := rmake_yes S _ (.slice af j cf) vt vn vs s id (1 + y) L (.slice aL L.length cL) _ (HSr.out.moved HSne.out m2) (HV.out.move (S' := fun b => W.heap.size ≤ b) m2.size fun b hb hs => ⟨m2.grown.block b hb (by have hs' : W.heap.size ≤ b := hs; have h3 := HZW.out; have h4 := zD; simp; omega), hs⟩) HSD.out.check (HL.out.trans HN.out.symm) hnum (fun x hx => by have := HSh.out x hx; omega)
            rw [hR] at hmk
            refine hmk.mono ?_
            rintro e W3 ⟨_, rfl, ⟨sv, rfl, hvv⟩, hb⟩
            have m3 := m2.below hb
            have gb := blk_below hb (lt_of_blk gb) gb
            have hvv2 := hvv.move (w' := W3) (S' := fun b => w.heap.size + 2 ≤ b ∧ b ≠ W1.heap.size) (Nat.le_refl _) fun b hb' hs => ⟨rfl, by have h1 := m2.size; have h2 := HO.out.2.size; have h3 := HZW.out; have hs' := hs; exact ⟨by omega, by omega⟩⟩
            obtain ⟨asv, csv, esv⟩ := hvv2.slice; subst esv
            have HRR := Lib.hid hR
            clear hb hvv hmk hR
            refine shutK hK (⟨(cellsS (m3.blk (k := w.heap.size) hneD HSR.out)).1, (cellsS (m3.blk (k := w.heap.size) hneD HSR.out)).2.1, (cellsS (m3.blk (k := w.heap.size) hneD HSR.out)).2.2.1, (cellsS (m3.blk (k := w.heap.size) hneD HSR.out)).2.2.2⟩) (fun hHeld => ?_)
            clear hK K
            try simp only [List.getElem_toArray, List.getElem_cons_zero, List.getElem_cons_succ, Act.put, List.setIfInBounds_toArray, List.set_cons_zero, List.set_cons_succ]
            refine tK 7 (h := ?_)
            try simp only [List.getElem_toArray, List.getElem_cons_zero, List.getElem_cons_succ, Act.put, List.setIfInBounds_toArray, List.set_cons_zero, List.set_cons_succ]
            refine tK 8 (h := ?_)
            try simp only [List.getElem_toArray, List.getElem_cons_zero, List.getElem_cons_succ, Act.put, List.setIfInBounds_toArray, List.set_cons_zero, List.set_cons_succ]
            refine tK 9 (h := ?_)
            try simp only [List.getElem_toArray, List.getElem_cons_zero, List.getElem_cons_succ, Act.put, List.setIfInBounds_toArray, List.set_cons_zero, List.set_cons_succ]
            have hvv3 := hvv2
        rotate_left 2
        focus
          go_simp
          refine shutK hK (⟨(cellsS ((mD.alloc _).blk (k := w.heap.size) hneD HSR.out)).1, (cellsS ((mD.alloc _).blk (k := w.heap.size) hneD HSR.out)).2.1, (cellsS ((mD.alloc _).blk (k := w.heap.size) hneD HSR.out)).2.2.1, (cellsS ((mD.alloc _).blk (k := w.heap.size) hneD HSR.out)).2.2.2⟩) (fun hHeld => ?_)
          clear hK K
          try simp only [List.getElem_toArray, List.getElem_cons_zero, List.getElem_cons_succ, Act.put, List.setIfInBounds_toArray, List.set_cons_zero, List.set_cons_succ]
          refine wpk_name (fun W1 hW1 => ?_)
          have m1 : Moved D wr W1 := by rw [hW1]; exact mD.alloc (.cells #[.int .i64 0, .int .i64 0, .slice none 0 0] 48)
          have gb : W1.heap[wr.heap.size]? = some (.cells #[.int .i64 0, .int .i64 0, .slice none 0 0] 48 (0, 0)) := by rw [hW1]; exact blk_new rfl
          have hrb : wr.heap.size ≤ wr.heap.size := mD.size
          have HX1 : ∀ b, b < wr.heap.size → W1.heap[b]? = wr.heap[b]? := by rw [hW1]; exact fun b hb => heap_alloc_old _ _ hb
          have hnrb : w.heap.size ≠ wr.heap.size := by have := hzs; omega
          clear hW1 hHeld
          have hHeld : W1.cell? ⟨w.heap.size, 0, none⟩ = some (.slice af j cf) ∧ W1.cell? ⟨w.heap.size, 1, none⟩ = some vt ∧ W1.cell? ⟨w.heap.size, 2, none⟩ = some vn ∧ W1.cell? ⟨w.heap.size, 3, none⟩ = some vs := ⟨(cellsS (m1.blk (k := w.heap.size) hneD HSR.out)).1, (cellsS (m1.blk (k := w.heap.size) hneD HSR.out)).2.1, (cellsS (m1.blk (k := w.heap.size) hneD HSR.out)).2.2.1, (cellsS (m1.blk (k := w.heap.size) hneD HSR.out)).2.2.2⟩
          refine wpAnyK_ready (rs := [3]) (by kernel_rfl) (by simp) ?_
          refine AllReadyK.cons rfl (fun K hK => ?_) AllReadyK.nil
          go_simp
          refine (next_any D _ 3 m1.deck (by omega) (by omega)).mono ?_
          rintro e W2 ⟨y, rfl, y0, y1, mv⟩
          have m2 := m1.trans mv
          have gb := mv.blk (by have := zD; omega) gb
          clear mv
          have hwy : IntKind.i64.wrap (1 + y) = 1 + y := by rw [IntKind.wrap_i64]; omega
          refine shutK hK (⟨(cellsS (m2.blk (k := w.heap.size) hneD HSR.out)).1, (cellsS (m2.blk (k := w.heap.size) hneD HSR.out)).2.1, (cellsS (m2.blk (k := w.heap.size) hneD HSR.out)).2.2.1, (cellsS (m2.blk (k := w.heap.size) hneD HSR.out)).2.2.2⟩) (fun hHeld => ?_)
          clear hK K
          try simp only [List.getElem_toArray, List.getElem_cons_zero, List.getElem_cons_succ, Act.put, List.setIfInBounds_toArray, List.set_cons_zero, List.set_cons_succ]
          refine tK 4 (h := ?_)
          try simp only [List.getElem_toArray, List.getElem_cons_zero, List.getElem_cons_succ, Act.put, List.setIfInBounds_toArray, List.set_cons_zero, List.set_cons_succ]
          refine wpAnyK_ready (rs := [6]) (by kernel_rfl) (by simp) ?_
          refine AllReadyK.cons rfl (fun K hK => ?_) AllReadyK.nil
          go_simp
          have hlt0 : wr.heap.size < _ := lt_of_blk gb
          have hnum : numberedB id (1 + y) = true := by simp [numberedB]; omega
          obtain ⟨⟨r, er⟩, hR⟩ : ∃ R, makeN s id (1 + y) L = R := ⟨_, rfl⟩
          have hmk := rmake_yes S _ (.slice af j cf) vt vn vs s id (1 + y) L (.slice aL L.length cL) _ (HSr.out.moved HSne.out m2) (HV.out.move (S' := fun b => W.heap.size ≤ b) m2.size fun b hb hs => ⟨m2.grown.block b hb (by have hs' : W.heap.size ≤ b := hs; have h3 := HZW.out; have h4 := zD; simp; omega), hs⟩) HSD.out.check (HL.out.trans HN.out.symm) hnum (fun x hx => by have := HSh.out x hx; omega)
          rw [hR] at hmk
          refine hmk.mono ?_
          rintro e W3 ⟨_, rfl, ⟨sv, rfl, hvv⟩, hb⟩
          have m3 := m2.below hb
          have gb := blk_below hb (lt_of_blk gb) gb
          have hvv2 := hvv.move (w' := W3) (S' := fun b => w.heap.size + 2 ≤ b ∧ b ≠ wr.heap.size) (Nat.le_refl _) fun b hb' hs => ⟨rfl, by have h1 := m2.size; have h2 := HO.out.2.size; have h3 := HZW.out; have hs' := hs; exact ⟨by omega, by omega⟩⟩
          obtain ⟨asv, csv, esv⟩ := hvv2.slice; subst esv
          have HRR := Lib.hid hR
          clear hb hvv hmk hR
          refine shutK hK (⟨(cellsS (m3.blk (k := w.heap.size) hneD HSR.out)).1, (cellsS (m3.blk (k := w.heap.size) hneD HSR.out)).2.1, (cellsS (m3.blk (k := w.heap.size) hneD HSR.out)).2.2.1, (cellsS (m3.blk (k := w.heap.size) hneD HSR.out)).2.2.2⟩) (fun hHeld => ?_)
          clear hK K
          try simp only [List.getElem_toArray, List.getElem_cons_zero, List.getElem_cons_succ, Act.put, List.setIfInBounds_toArray, List.set_cons_zero, List.set_cons_succ]
          refine tK 7 (h := ?_)
          try simp only [List.getElem_toArray, List.getElem_cons_zero, List.getElem_cons_succ, Act.put, List.setIfInBounds_toArray, List.set_cons_zero, List.set_cons_succ]
          refine tK 8 (h := ?_)
          try simp only [List.getElem_toArray, List.getElem_cons_zero, List.getElem_cons_succ, Act.put, List.setIfInBounds_toArray, List.set_cons_zero, List.set_cons_succ]
          refine tK 9 (h := ?_)
          try simp only [List.getElem_toArray, List.getElem_cons_zero, List.getElem_cons_succ, Act.put, List.setIfInBounds_toArray, List.set_cons_zero, List.set_cons_succ]
          have hvv3 := hvv2
        all_goals
          obtain ⟨c0, c1, c2⟩ := cells3 gb; have f0 := frozen_of_row _ _ 0 _ _ gb; have f1 := frozen_of_row _ _ 1 _ _ gb; have f2 := frozen_of_row _ _ 2 _ _ gb; have za := lt_of_blk gb
          have hsx := blk_far (a := ⟨_, 2, none⟩) (v := .slice asv r.vals.length csv) (blk_far (a := ⟨_, 1, none⟩) (v := .int .i64 r.ver) (blk_far (a := ⟨_, 0, none⟩) (v := .int .i64 r.id) (m3.blk (k := w.heap.size) hneD HSR.out) hnrb) hnrb) hnrb
          refine wpAnyK_ready (rs := [11]) (by kernel_rfl) (by simp) ?_
          refine AllReadyK.cons rfl (fun K hK => ?_) AllReadyK.nil
          go_simp
          refine shutK hK (⟨(cellsS hsx).1, (cellsS hsx).2.1, (cellsS hsx).2.2.1, (cellsS hsx).2.2.2⟩) (fun hHeld => ?_)
          clear hK K
          try simp only [List.getElem_toArray, List.getElem_cons_zero, List.getElem_cons_succ, Act.put, List.setIfInBounds_toArray, List.set_cons_zero, List.set_cons_succ]
          refine wpAnyK_ready (rs := [12]) (by kernel_rfl) (by simp) ?_
          refine AllReadyK.cons rfl (fun K hK => ?_) AllReadyK.nil
          go_simp
          refine shutK_off hK (by decide) ?_
          clear hK K
          try simp only [List.getElem_toArray, List.getElem_cons_zero, List.getElem_cons_succ, Act.put, List.setIfInBounds_toArray, List.set_cons_zero, List.set_cons_succ]
          refine wpAnyK_done (by kernel_rfl) ?_ _
          refine NoPanic.normal ?_
          go_wp2_with fail
          go_meet
          exact ⟨_, er, y, _, r, rfl, rfl, blk_set (blk_set (blk_set gb)), (((hvv3.far (fun b hb => hb.2)).far (fun b hb => hb.2)).far (fun b hb => hb.2)).weaken (fun b hb => hb.1), HRR, y0, y1, ((m3.set hrb _).set hrb _).set hrb _, hrb⟩
      case rest =>
        obtain ⟨rb, er, y, sv, r, rfl, rfl, grb, hvr, HRR, y0, y1, mw, hrb⟩ := hcut
        obtain ⟨asv, csv, rfl⟩ := hvr.slice
        have hsz := mw.blk (k := w.heap.size) hneD HSR.out
        have hres := mw.blk (k := w.heap.size + 1) (by omega) (HO.out.2.blk (k := w.heap.size + 1) (by omega) HZ0.out)
        have hn1 : rb ≠ w.heap.size + 1 := by have h1 := HO.out.2.size; have h2 := HZW.out; omega
        have lr := lt_of_blk hres; have lb := lt_of_blk grb; have lz := lt_of_blk hsz
        have HRES := Lib.hid hres; have HMW := Lib.hid (HM.out.trans (HO.out.2.trans mw)); have HVR := Lib.hid hvr; have HGRB := Lib.hid grb
        obtain ⟨z0, z1, z2⟩ := cells3 hres; have f0 := frozen_of_row _ _ 0 _ _ hres; have f1 := frozen_of_row _ _ 1 _ _ hres; have f2 := frozen_of_row _ _ 2 _ _ hres
        obtain ⟨c0, c1, c2⟩ := cells3 grb; have g0 := frozen_of_row _ _ 0 _ _ grb; have g1 := frozen_of_row _ _ 1 _ _ grb; have g2 := frozen_of_row _ _ 2 _ _ grb
        clear s0 s1 s2 s3
        obtain ⟨s0, s1, s2, s3⟩ := cellsS hsz
        clear hsz hres grb hvr mw mD
        by_cases he : er = 0
        · subst he
          have d0 : ((0 : Int) != 0) = false := rfl
          have HMd := Lib.hid (rec_made HRR.out)
          clear g0 g1 g2
          go_wp2_with fail
          exact bodyPost_row1 rfl rfl (blk_set (i := 2) (blk_set (i := 1) (blk_set (i := 0) HRES.out))) Tryz.underlying48 rfl (by kernel_rfl)
            ⟨_, r, rfl, ⟨_, rfl, (((HVR.out.far (fun b hb => by show b ≠ w.heap.size + 1; have hb' : w.heap.size + 2 ≤ b := hb; omega)).far (fun b hb => by show b ≠ w.heap.size + 1; have hb' : w.heap.size + 2 ≤ b := hb; omega)).far (fun b hb => by show b ≠ w.heap.size + 1; have hb' : w.heap.size + 2 ≤ b := hb; omega)).weaken (fun b hb => by have hb' : w.heap.size + 2 ≤ b := hb; show w.heap.size ≤ b; omega)⟩, HMd.out.1, HMd.out.2.1, HMd.out.2.2,
              ((HMW.out.set (a := ⟨w.heap.size + 1, 0, none⟩) (Nat.le_succ _) _).set (a := ⟨w.heap.size + 1, 1, none⟩) (Nat.le_succ _) _).set (a := ⟨w.heap.size + 1, 2, none⟩) (Nat.le_succ _) _⟩
        · have d0 : (er != (0 : Int)) = true := by simpa using he
          have hmk := run_make_row' (P := Tryz.prog) 28 9 (.string ⟨#[]⟩) 16 Tryz.underlying28 infoS rfl .i64 .i64 j (by omega) (by omega)
          rw [made_strings] at hmk
          clear HVR HRR he
          go_upto_region 9 with fail
          refine wp_world (fun W9 hW9 => ?_)
          have hrw : w.heap.size ≤ rb := by have h1 := HO.out.2.size; have h2 := HZW.out; omega
          have hgb : W9.heap[rb]? = some (.cells #[.int .i64 id, .int .i64 1, .slice (some ⟨wc.heap.size, 0, none⟩) j j] 48 (0, 0)) := by rw [hW9]; exact blk_old (blk_set (i := 2) (blk_set (i := 1) (blk_set (i := 0) HGRB.out)))
          have hg9 : W9.heap[wc.heap.size]? = some (.cells ((List.replicate j ([] : List UInt8)).flatMap encS).toArray 9 (0, 0)) := by rw [hW9]; exact blk_new (by simp [World.setCell])
          have hr9 : W9.heap[w.heap.size + 1]? = some (.cells #[.int .i64 0, .int .i64 0, .slice none 0 0] 48 (0, 0)) := by rw [hW9]; exact blk_old (blk_far (blk_far (blk_far HRES.out hn1.symm) hn1.symm) hn1.symm)
          have m9 : Moved D w W9 := by rw [hW9]; exact (((HMW.out.set (a := ⟨rb, 0, none⟩) hrw _).set (a := ⟨rb, 1, none⟩) hrw _).set (a := ⟨rb, 2, none⟩) hrw _).alloc _
          have HG9 := Lib.hid hg9; have HR9 := Lib.hid hr9; have HM9 := Lib.hid m9
          clear hW9 c0 c1 c2 z0 z1 z2 f0 f1 f2 g0 g1 g2 s0 s1 s2 s3 m9 hmk
          obtain ⟨z0, z1, z2⟩ := cells3 hr9; have f0 := frozen_of_row _ _ 0 _ _ hr9; have f1 := frozen_of_row _ _ 1 _ _ hr9; have f2 := frozen_of_row _ _ 2 _ _ hr9
          obtain ⟨c0, c1, c2⟩ := cells3 hgb
          have l1 := lt_of_blk hr9; have l2 := lt_of_blk hgb
          have HCk := Lib.hid (show checkN s ⟨id, 1, List.replicate j []⟩ = 0 by rw [← HN.out]; exact rec_none HSD.out.check h1 h2)
          clear hr9 hgb hg9
          go_wp2_with fail
          exact bodyPost_row1 rfl rfl (blk_set (i := 2) (blk_set (i := 1) (blk_set (i := 0) HR9.out))) Tryz.underlying48 rfl (by kernel_rfl)
            ⟨_, ⟨id, 1, List.replicate j []⟩, rfl, ⟨_, rfl, (((blockVec (k := 1) (enc := encS) (L := List.replicate j ([] : List UInt8)) (S := fun b => w.heap.size ≤ b ∧ b ≠ w.heap.size + 1) (A := wc.heap.size) (fun _ => rfl) HG9.out ⟨by omega, by omega⟩ j (by simp)).far (fun b hb => hb.2)).far (fun b hb => hb.2)).far (fun b hb => hb.2) |>.weaken (fun b hb => hb.1)⟩, rfl, HCk.out, (by intro x hx; have := List.eq_of_mem_replicate hx; subst this; simp),
              ((HM9.out.set (a := ⟨w.heap.size + 1, 0, none⟩) (Nat.le_succ _) _).set (a := ⟨w.heap.size + 1, 1, none⟩) (Nat.le_succ _) _).set (a := ⟨w.heap.size + 1, 2, none⟩) (Nat.le_succ _) _⟩
end
section
open Go.RowKit
section
variable {α : Type} {P : Program} {w : World} {ops : Array Oper} {rest : List Oper} {o : Oper} {a : Act} {Q : Exit → Act → World → Prop}
/-- append while the deck moves on; where the row lies afterwards -/
theorem wpList_append_mat (hgd : o.guard = none) (s x : Operand) (t : TypeId) (ho : o.op = .call { callee := .builtin .append, args := #[s, x], argTypes := #[t, t] })
    (D e : Nat) (z : Value) (size bytes : Nat) (enc : α → List Value) (hk : ∀ x, (enc x).length = size) (h1 : ∀ x, ∀ u ∈ enc x, u.oneCell' = true) (ht : P.underlying t = some (.slice e)) (hinfo : (P.info? e).map (fun i => (i.zero, i.size, i.bytes)) = some (some z, size, bytes))
    (hzs : z.cells.size = size) (hsz : 0 < size) (hby : bytes ≤ 128) {wA : World} {v u : Value} {A B : List α} (hs : a.eval s = v) (hown : OwnM D e size enc wA v A w) (hx : a.eval x = u) (hr : Reads w size u B.length (B.flatMap enc)) (hn : A.length + B.length ≤ 1000000000)
    (h : ∀ v' w', OwnM D e size enc wA v' (A ++ B) w' → (∀ k o, some k ≠ v.ownBlock → w.heap[k]? = some o → w'.heap[k]? = some o) → w.heap.size ≤ w'.heap.size → (v'.ownBlock = none ∨ v.ownBlock = v'.ownBlock ∨ v'.ownBlock = some w.heap.size) → wpList P ops Q rest (a.put o.dst v') w') : wpList P ops Q (o :: rest) a w := by
  refine wpList_plain hgd fun K hK => ?_
  refine wp_append_reads s x t ho wA.heap.size e z size bytes ht hinfo hzs hsz v A.length (A.flatMap enc) hs hown.1 u B.length (B.flatMap enc) hx hr (fun u hu => ?_) (by unfold maxLen; omega) ?_ hown.2.size ?_
  · obtain ⟨y, _, hy⟩ := List.mem_flatMap.1 hu
    exact h1 y u hy
  · exact Nat.le_trans (Nat.mul_le_mul hn hby) (by decide)
  · intro v' w' ho' hg hat
    refine hK _ _ (h v' w' ⟨by rw [List.length_append, List.flatMap_append]; exact ho', hown.2.grown' hg fun k hk => ?_⟩ (fun k o hk hko => (hg.block k (lt_of_blk hko) hk).trans hko) hg.size hat)
    rcases hown.1.2 with ⟨rfl, _⟩ | ⟨g, cap, cur, rfl, hg1, _⟩
    · simp [Value.ownBlock] at hk
    · have : g = k := by simpa [Value.ownBlock] using hk
      omega
end
end
section
set_option maxRecDepth 100000
open Go.RowKit Cal
attribute [local go_sem] toList_mk mk_size bytes_append
theorem allA_ok {s : SchemaL} : ∀ (R : List RecL) (p : Option Int), allA s p R = 0 → ∀ r ∈ R, checkI s r = 0
  | [], _, _, r, hr => by simp at hr
  | x :: R, p, h, r, hr => by
    unfold allA at h
    split at h
    · next h1 =>
      split at h
      · cases h
      · rcases List.mem_cons.1 hr with rfl | h2
        · exact h1
        · exact allA_ok R _ h r h2
    · next h1 => exact absurd h h1
theorem allN_ok {s : SchemaL} {R : List RecL} (h : allN s R = 0) : checkS s = 0 ∧ R.length ≤ 64 ∧ ∀ r ∈ R, checkN s r = 0 := by
  unfold allN at h
  split at h
  · next h0 =>
    split at h
    · next h1 => exact ⟨h0, h1, fun r hr => by unfold checkN; rw [if_pos h0]; exact allA_ok R none h r hr⟩
    · cases h
  · next h0 => exact absurd h h0
/-- records for blocks: valid, their values short -/
structure RecsOk (s : SchemaL) (R : List RecL) : Prop where
  all : allN s R = 0
  short : ∀ r ∈ R, ∀ x ∈ r.vals, x.length ≤ 64
theorem RecsOk.vals {s : SchemaL} {R : List RecL} (h : RecsOk s R) (hn : s.fields.length ≤ 1000) : ∀ r ∈ R, r.vals.length ≤ 1000000 := by
  intro r hr
  have := (checkN_ok ((allN_ok h.all).2.2 r hr)).2.2.1
  omega
/-- the values of a valid record are short -/
theorem check_short {s : SchemaL} {r : RecL} (h : checkN s r = 0) : ∀ x ∈ r.vals, x.length ≤ 64 := by
  obtain ⟨hc, _, hl, hno⟩ := checkN_ok h
  intro x hx
  obtain ⟨j, hj, rfl⟩ := List.mem_iff_getElem.1 hx
  by_cases h0 : r.vals[j] = []
  · rw [h0]; simp
  · have hnj := normA_get s r.vals 0 hno j hj
    rw [Nat.zero_add, getD_at _ _ hj] at hnj
    have hfi : findN s (j : Int) = ((s.fields.getD j default).2, 0) := findN_in hc (by omega)
    have hown : ownK (s.fields.getD j default).2 s.rules r.vals[j] = true := by
      unfold normalB at hnj
      rw [hfi, if_pos rfl, if_neg h0] at hnj
      exact hnj
    have hkk := findN_kind (s := s) (f := (j : Int)) (by rw [hfi])
    rw [hfi] at hkk
    exact (own_facts hown hkk).1
theorem recs_of_all {s : SchemaL} {R : List RecL} (h : allN s R = 0) : RecsOk s R := ⟨h, fun r hr => check_short ((allN_ok h).2.2 r hr)⟩
theorem infoR : (Tryz.prog.info? 48).map (fun i => (i.zero, i.size, i.bytes)) = some (some (.agg #[.int .i64 0, .int .i64 0, .slice none 0 0]), 3, 40) := by kernel_rfl
theorem one_encRV : ∀ x : RV, ∀ u ∈ encRV x, u.oneCell' = true := by intro x u hu; simp at hu; rcases hu with rfl | rfl | rfl <;> rfl
/-- records that are being dealt -/
structure ROut (D : Nat) (W : World) (s : SchemaL) (v : Value) (C : List RV) (id : Int) (wr : World) : Prop where
  own : OwnM D 48 3 encRV W v C wr
  vals : ∀ x ∈ C, Vec wr (OffRow W.heap.size v) 1 encS (.slice x.a x.n x.c) x.vals
  ok : ∀ x ∈ C, checkN s (pR x) = 0 ∧ ∀ y ∈ x.vals, y.length ≤ 64
  asc : C.Pairwise fun x y => x.id < y.id
  le : ∀ x ∈ C, x.id ≤ id
  id0 : 0 ≤ id
  id3 : id ≤ 3 * C.length
theorem ROut.nil {D : Nat} {W wr : World} {s : SchemaL} (m : Moved D W wr) : ROut D W s (.slice none 0 0) [] 0 wr := ⟨OwnM.nil m, fun x h => by simp at h, fun x h => by simp at h, List.Pairwise.nil, fun x h => by simp at h, by omega, by simp⟩
theorem ROut.moved {D : Nat} {W wr wx : World} {s : SchemaL} {v : Value} {C : List RV} {id : Int} (h : ROut D W s v C id wr) (m : Moved D wr wx) : ROut D W s v C id wx :=
  ⟨h.own.moved m, fun x hx => (h.vals x hx).move m.size fun b hb hs => ⟨m.grown.block b hb (by have := h.own.2.lt; have := hs.1; simp; omega), hs⟩, h.ok, h.asc, h.le, h.id0, h.id3⟩
theorem recs_ok {s : SchemaL} {C : List RV} (h0 : checkS s = 0) (ok : ∀ x ∈ C, checkN s (pR x) = 0 ∧ ∀ y ∈ x.vals, y.length ≤ 64) (asc : C.Pairwise fun x y => x.id < y.id) (hl : C.length ≤ 64) : RecsOk s (C.map pR) := by
  refine ⟨?_, fun r hr => ?_⟩
  · unfold allN
    rw [if_pos h0, if_pos (by simpa using hl)]
    refine allA_yes _ none (fun r hr => ?_) (fun q r hq => by cases hq) (fun j hj => ?_)
    · obtain ⟨x, hx, rfl⟩ := List.mem_map.1 hr
      have := (ok x hx).1
      unfold checkN at this
      rwa [if_pos h0] at this
    · rw [List.getElem_map, List.getElem_map]
      exact List.pairwise_iff_getElem.1 asc j (j + 1) _ _ (by omega)
  · obtain ⟨x, hx, rfl⟩ := List.mem_map.1 hr
    exact (ok x hx).2
def RecordsPost (D : Nat) (s : SchemaL) (most : Nat) (w : World) (e : Ending) (w' : World) : Prop := ∃ v R, e = .returned v ∧ RecsVec w' (fun b => w.heap.size ≤ b) v R ∧ RecsOk s R ∧ R.length ≤ most ∧ (R.Pairwise fun x y => x.id < y.id) ∧ Moved D w w'
/-- the dealt records, with the row that they lie in -/
def RecordsOwn (D : Nat) (s : SchemaL) (most : Nat) (w : World) (e : Ending) (w' : World) : Prop := ∃ (v : Value) (C : List RV) (W : World) (id : Int), e = .returned v ∧ ROut D W s v C id w' ∧ Moved D w W ∧ C.length ≤ most ∧ checkS s = 0
theorem RecordsOwn.post {D : Nat} {s : SchemaL} {most : Nat} {w w' : World} {e : Ending} (hm : most ≤ 64) (h : RecordsOwn D s most w e w') : RecordsPost D s most w e w' := by
  obtain ⟨v, C, W, id, rfl, ho, mv, hl, hc⟩ := h
  have hz := mv.size
  refine ⟨_, C.map pR, rfl, ⟨C, (OwnM.vec (size := 3) (enc := encRV) (fun _ => rfl) ho.own).move (Nat.le_refl _) (fun x _ hx => ⟨rfl, by have hx' : W.heap.size ≤ x := hx; show w.heap.size ≤ x; omega⟩), rfl, fun y hy => (ho.vals y hy).move (Nat.le_refl _) (fun x _ hx => ⟨rfl, by have hx' := hx.1; show w.heap.size ≤ x; omega⟩)⟩, recs_ok hc ho.ok ho.asc (by omega), by rw [List.length_map]; omega, ?_, mv.trans ho.own.2⟩
  exact List.pairwise_map.2 ho.asc
set_option maxHeartbeats 8000000 in
theorem records_dealO (D : Nat) (S : Nat → Prop) (vf vt vn vs : Value) (s : SchemaL) (most : Nat) (w : World) (h : DeckAt w D) (hs : SchemaAt w S vf vt vn vs s) (hS : ∀ b, S b → b ≠ D) (hd : SchemaD s) (hm : most ≤ 64) :
    Calls Tryz.prog 22 #[.pointer (some ⟨D, 0, none⟩), .agg #[vf, vt, vn, vs], .int .i64 most] w (RecordsOwn D s most w) := by
  have zD := h.lt
  have M0 := Lib.hid (Moved.start h); clear h
  have HS := Lib.hid hs; have HSD := Lib.hid hd; have HSne := Lib.hid hS
  clear hs hd hS
  go_enter Tryz.func22, Tryz.ntmps22
  go_wp2_with fail
  refine wp_calls_world (fun W hW => ?_)
  have hm0 : Moved D w W := by rw [hW]; exact M0.out.alloc _
  have hb0 : Below w.heap.size w W := by rw [hW]; exact (Below.refl w.heap.size w).alloc (Nat.le_refl _) _
  have hs0 : W.heap[w.heap.size]? = some (.cells #[vf, vt, vn, vs] 33 (0, 0)) := by rw [hW]; exact blk_new rfl
  have hzW : W.heap.size = w.heap.size + 1 := by rw [hW]; simp
  clear hW
  have HM := Lib.hid hm0; have HS0 := Lib.hid hs0; have HSW := Lib.hid (HS.out.below hb0); have HZW := Lib.hid hzW
  clear hm0 hs0 hb0 hzW
  refine (next_any D _ (most + 1) HM.out.deck (by omega) (by omega)).mono ?_
  rintro e w1 ⟨q, rfl, q0, q1, mv⟩
  obtain ⟨q, rfl⟩ := Int.eq_ofNat_of_zero_le q0
  have MW := Lib.hid mv
  clear mv
  go_wp2_with fail
  go_loopw [7, 8, 9] (fun v t i wr => ∃ (j : Nat) (id : Int) (C : List RV), t = .int .i64 id ∧ i = .int .i64 j ∧ C.length + j = q ∧ ROut D W s v C id wr) (fun _ _ i _ => (intOf i).toNat)
  case atStart => exact ⟨q, 0, [], rfl, rfl, by simp, ROut.nil MW.out⟩
  case round =>
    obtain ⟨j, id, C, rfl, rfl, hj, ho⟩ := hrel
    have HO := Lib.hid ho; have HJ := Lib.hid hj; clear ho hj
    have hzr := HO.out.own.2.size
    by_cases hlt : 0 < j
    · have hq : decide ((0 : Int) < (j : Int)) = true := by simp; omega
      have hCl : C.length ≤ 63 := by have := HJ.out; omega
      have hjq : j ≤ 65 := by have := HJ.out; omega
      have hi0 := HO.out.id0; have hi3 := HO.out.id3
      go_wp2_with fail
      refine (next_any D _ 3 HO.out.own.2.deck (by omega) (by omega)).mono ?_
      rintro e w2 ⟨x, rfl, x0, x1, mv⟩
      have HO2 := Lib.hid (HO.out.moved mv)
      have hsx := HO2.out.own.2.blk (k := w.heap.size) (by omega) HS0.out
      have HSX := Lib.hid hsx
      obtain ⟨s0, s1, s2, s3⟩ := cellsS hsx
      have hzs := lt_of_blk hsx
      clear mv HO hsx
      go_wp2_with fail
      refine (record_deal D S _ _ _ _ s (id + (1 + x)) w2 HO2.out.own.2.deck (HSW.out.moved HSne.out HO2.out.own.2) HSne.out HSD.out (by omega) (by omega)).mono ?_
      rintro e w3 ⟨_, r, rfl, ⟨sv, rfl, hv⟩, hid, hck, hsh, mv⟩
      obtain ⟨av, cv, rfl⟩ := hv.slice
      have hzw2 := HO2.out.own.2.size
      have hown6 : ∀ x, w2.heap.size ≤ x → some x ≠ u7.ownBlock := by
        intro x hx'
        rcases HO2.out.own.1.2 with ⟨h0, _⟩ | ⟨g, cap, cur, h0, hg, hh, _⟩
        · rw [h0]; simp [Value.ownBlock]
        · rw [h0]; have := lt_of_blk hh; simp [Value.ownBlock]; omega
      have HO3 := Lib.hid (HO2.out.moved mv)
      have HO4 := Lib.hid (HO3.out.own.moved ((Moved.start HO3.out.own.2.deck).alloc (.cells #[.int .i64 r.id, .int .i64 r.ver, .slice av r.vals.length cv] 48)))
      have HR4 := Lib.hid (show Reads (w3.alloc (.cells #[.int .i64 r.id, .int .i64 r.ver, .slice av r.vals.length cv] 48)) 3 (.slice (some ⟨w3.heap.size, 0, none⟩) 1 1) [(⟨r.id, r.ver, av, r.vals.length, cv, r.vals⟩ : RV)].length ([(⟨r.id, r.ver, av, r.vals.length, cv, r.vals⟩ : RV)].flatMap encRV) from reads_block (xs := [(⟨r.id, r.ver, av, r.vals.length, cv, r.vals⟩ : RV)].flatMap encRV) (fr := (0, 0)) (t := 48) (blk_new rfl) rfl)
      have HVN := Lib.hid (hv.move (w' := w3) (S' := fun x => some x ≠ u7.ownBlock ∧ W.heap.size ≤ x) (Nat.le_refl _) (fun x _ hx' => ⟨rfl, hown6 x hx', by have h' : w2.heap.size ≤ x := hx'; omega⟩))
      have HVO := Lib.hid (fun y (hy : y ∈ C) => (HO3.out.vals y hy).move (w' := w3) (S' := fun x => some x ≠ u7.ownBlock ∧ W.heap.size ≤ x) (Nat.le_refl _) (fun x hx' hs => ⟨rfl, hs.2, hs.1⟩))
      have hcn : C.length + [(⟨r.id, r.ver, av, r.vals.length, cv, r.vals⟩ : RV)].length ≤ 1000000000 := by simp only [List.length_cons, List.length_nil]; omega
      have HCk := Lib.hid (show checkN s r = 0 ∧ ∀ y ∈ r.vals, y.length ≤ 64 from ⟨hck, hsh⟩)
      have HId := Lib.hid hid
      have HAsc := Lib.hid HO3.out.asc; have HLe := Lib.hid HO3.out.le; have HOk3 := Lib.hid HO3.out.ok
      obtain ⟨rid, rver, rvals⟩ := r
      dsimp only at HO4 HR4 HVN hcn HCk HId
      clear hv hid hck hsh mv s0 s1 s2 s3 hzs HSX HO2 HO3
      go_wp2_with (at_builtin; refine wpList_append_mat rfl (.tmp 23) (.tmp 28) 58 rfl D 48 (.agg #[.int .i64 0, .int .i64 0, .slice none 0 0]) 3 40 encRV (fun _ => rfl) one_encRV Tryz.underlying58 infoR rfl (by decide) (by decide) (wA := W) (v := u7) (A := C) (B := [⟨rid, rver, av, rvals.length, cv, rvals⟩]) rfl HO4.out rfl HR4.out hcn ?_; intro v4 w4 ho4 hk4 hz4 hat4)
      go_roundw
      case rel =>
        have hmv : ∀ b, b < w3.heap.size → (some b ≠ u7.ownBlock ∧ W.heap.size ≤ b) → w4.heap[b]? = w3.heap[b]? ∧ OffRow W.heap.size v4 b := by
          intro b hb hS
          obtain ⟨q1, q2⟩ := hS
          refine ⟨?_, q2, ?_⟩
          · obtain ⟨ob, hob⟩ : ∃ ob, w3.heap[b]? = some ob := ⟨_, Array.getElem?_eq_getElem hb⟩
            rw [hob]
            exact hk4 b ob q1 (blk_old hob)
          · rcases hat4 with h1 | h1 | h1
            · rw [h1]; simp
            · rw [← h1]; exact q1
            · rw [h1]; simp; omega
        have hz34 : w3.heap.size ≤ w4.heap.size := by simp at hz4; omega
        have hidr := HId.out
        refine ⟨j - 1, id + (1 + x), C ++ [⟨rid, rver, av, rvals.length, cv, rvals⟩], rfl, by go_num, by rw [List.length_append]; have := HJ.out; show C.length + 1 + (j - 1) = q; omega, ho4, fun y hy => ?_, fun y hy => ?_, ?_, fun y hy => ?_, by omega, by rw [List.length_append]; simp; omega⟩
        · rcases List.mem_append.1 hy with h1 | h1
          · exact (HVO.out y h1).move hz34 hmv
          · simp at h1; subst h1; exact HVN.out.move hz34 hmv
        · rcases List.mem_append.1 hy with h1 | h1
          · exact HOk3.out y h1
          · simp at h1; subst h1; exact HCk.out
        · refine List.pairwise_append.2 ⟨HAsc.out, List.pairwise_singleton _ _, fun y hy z hz => ?_⟩
          simp at hz; subst hz
          have := HLe.out y hy
          show y.id < rid; omega
        · rcases List.mem_append.1 hy with h1 | h1
          · have := HLe.out y h1; omega
          · simp at h1; subst h1; show rid ≤ _; omega
      case measure => simp [intOf]; omega
    · have hq : decide ((0 : Int) < (j : Int)) = false := by simp; omega
      obtain rfl : j = 0 := by omega
      go_wp2_with fail
      go_ret
      exact ⟨_, C, W, id, rfl, HO.out, HM.out, by have := HJ.out; omega, HSD.out.check⟩
theorem records_deal (D : Nat) (S : Nat → Prop) (vf vt vn vs : Value) (s : SchemaL) (most : Nat) (w : World) (h : DeckAt w D) (hs : SchemaAt w S vf vt vn vs s) (hS : ∀ b, S b → b ≠ D) (hd : SchemaD s) (hm : most ≤ 64) :
    Calls Tryz.prog 22 #[.pointer (some ⟨D, 0, none⟩), .agg #[vf, vt, vn, vs], .int .i64 most] w (RecordsPost D s most w) :=
  (records_dealO D S vf vt vn vs s most w h hs hS hd hm).mono fun _ _ h => h.post hm
end
section
set_option maxRecDepth 100000
open Go.RowKit Cal
attribute [local go_sem] toList_mk mk_size str_append
def sameR (a b : RecL) : Bool := decide (a.id = b.id) && (decide (a.ver = b.ver) && decide (a.vals = b.vals))
theorem sameR_self (a b : RecL) (h1 : a.id = b.id) (h2 : a.ver = b.ver) (h3 : a.vals = b.vals) : sameR a b = true := by simp [sameR, h1, h2, h3]
end
section
open Go.RowKit
theorem digs_one (i : Nat) (h : i < 10) : Lib.decDigits i = [UInt8.ofNat (48 + i)] := by
  have : ∀ j : Fin 10, Lib.decDigits j = [UInt8.ofNat (48 + j.val)] := by decide +kernel
  exact this ⟨i, h⟩
end
section
set_option maxRecDepth 100000
open Go.RowKit Cal
attribute [local go_sem] toList_mk mk_size
def awG : SchemaL := ⟨[([103, 105, 118, 101, 110], 1)], [], [], []⟩
theorem awG_check : checkS awG = 0 := by kernel_rfl
end
section
set_option maxRecDepth 100000
open Go.RowKit Cal
attribute [local go_sem] toList_mk mk_size
theorem awR_made : makeN awG 7 1 [[65, 110, 110]] = (⟨7, 1, [[97, 110, 110]]⟩, 0) := by kernel_rfl
theorem awR_check : checkN awG ⟨7, 1, [[97, 110, 110]]⟩ = 0 := by kernel_rfl
theorem awR_line : joinC 9 (Lib.decDigits 7 :: Lib.decDigits 1 :: [[97, 110, 110]]) = [55, 9, 49, 9, 97, 110, 110] := by decide +kernel
set_option maxHeartbeats 8000000 in
theorem awake_r (w : World) (hm : MaxAt w) : Calls Tryz.prog 21 #[] w fun e w' => e = .returned (.bool true) ∧ Below w.heap.size w w' := by
  have HM := Lib.hid hm
  clear hm
  go_enter Tryz.func21, Tryz.ntmps21
  go_wp2_with fail
  refine wp_calls_world (fun W hW => ?_)
  have hb0 : Below w.heap.size w W := by rw [hW]; exact (((Below.refl w.heap.size w).alloc (Nat.le_refl _) _).alloc (by simp) _).alloc (by simp; omega) _
  have hf0 : W.heap[w.heap.size]? = some (.cells #[strV [103, 105, 118, 101, 110], .int .i64 1] 79 (0, 0)) := by rw [hW]; exact blk_old (blk_old (blk_new rfl))
  have hs0 : W.heap[w.heap.size + 1]? = some (.cells #[.slice (some ⟨w.heap.size, 0, none⟩) 1 1, .slice none 0 0, .slice none 0 0, .slice none 0 0] 33 (0, 0)) := by rw [hW]; exact blk_old (blk_new (by simp))
  have hv0 : W.heap[w.heap.size + 2]? = some (.cells (([[65, 110, 110]] : List (List UInt8)).flatMap encS).toArray 9 (0, 0)) := by rw [hW]; exact blk_new (by simp)
  have hSA : SchemaAt W Any1 (.slice (some ⟨w.heap.size, 0, none⟩) 1 1) (.slice none 0 0) (.slice none 0 0) (.slice none 0 0) awG := ⟨vecF_one hf0, Vec.nil _ _ _ _, Vec.nil _ _ _ _, Vec.nil _ _ _ _⟩
  have hVA : Vec W Any1 1 encS (.slice (some ⟨w.heap.size + 2, 0, none⟩) 1 1) [[65, 110, 110]] := blockVec (k := 1) (enc := encS) (L := [[65, 110, 110]]) (S := Any1) (fun _ => rfl) hv0 trivial 1 rfl
  clear hW hf0 hv0
  have hmk := pmake_yes Any1 Any1 _ _ _ _ awG 7 1 [[65, 110, 110]] _ W hSA hVA awG_check rfl (by decide) (by intro x hx; simp at hx; subst hx; decide)
  rw [awR_made] at hmk
  refine hmk.mono ?_
  rintro e w1 ⟨_, rfl, ⟨sv, rfl, hvv⟩, hb⟩
  dsimp only at hvv ⊢
  obtain ⟨av, cv, rfl⟩ := hvv.slice
  have hs1 := blk_below hb (lt_of_blk hs0) hs0
  have HB1 := Lib.hid (hb0.trans (hb.mono hb0.size)); have HSA := Lib.hid (hSA.below hb); have HVV := Lib.hid hvv.any
  have HS1 := Lib.hid hs1
  obtain ⟨s0, s1, s2, s3⟩ := cellsS hs1
  have ls := lt_of_blk hs1
  have e1 : ([[97, 110, 110]] : List (List UInt8)).length = 1 := rfl
  rw [e1] at HVV ⊢
  clear hb hb0 hs0 hSA hVA hmk hvv hs1
  go_wp2_with fail
  refine wp_calls_world (fun W2 hW2 => ?_)
  have hb2 : Below w1.heap.size w1 W2 := by rw [hW2]; exact (Below.refl w1.heap.size w1).alloc (Nat.le_refl _) _
  have hs2 := blk_below hb2 (lt_of_blk HS1.out) HS1.out
  clear hW2 s0 s1 s2 s3 ls
  have hln := rLine_yes Any1 _ _ _ _ awG ⟨7, 1, [[97, 110, 110]]⟩ (.slice av 1 cv) (Lib.decDigits 7) (Lib.decDigits 1) W2 (HSA.out.below hb2) (HVV.out.below hb2) awR_check (spells_small 7 (by decide)) (spells_small 1 (by decide)) (by intro t ht; simp at ht; subst ht; decide) (by simp)
  rw [awR_line] at hln
  refine hln.mono ?_
  rintro e w3 ⟨rfl, hb⟩
  have HS3 := Lib.hid (blk_below hb (lt_of_blk hs2) hs2); have HSA3 := Lib.hid ((HSA.out.below hb2).below hb)
  have HB3 := Lib.hid (HB1.out.trans ((hb2.trans (hb.mono hb2.size)).mono HB1.out.size))
  obtain ⟨s0, s1, s2, s3⟩ := cellsS HS3.out
  clear hb hb2 hs2 hln HVV HS1 HSA
  go_wp2_with fail
  refine (rfile_none Any1 _ _ _ _ awG _ HSA3.out awG_check).mono ?_
  rintro e w4 ⟨rfl, hb⟩
  have HS4 := Lib.hid (blk_below hb (lt_of_blk HS3.out) HS3.out); have HSA4 := Lib.hid (HSA3.out.below hb)
  have HB4 := Lib.hid (HB3.out.trans (hb.mono HB3.out.size))
  clear s0 s1 s2 s3 hb
  obtain ⟨s0, s1, s2, s3⟩ := cellsS HS4.out
  clear HS3 HSA3
  go_wp2_with fail
  refine (rread_none Any1 _ _ _ _ awG _ (HM.out.old HB4.out) HSA4.out awG_check).mono ?_
  rintro e w5 ⟨rfl, hb⟩
  have HB5 := Lib.hid (HB4.out.trans (hb.mono HB4.out.size))
  clear s0 s1 s2 s3 hb
  go_wp2_with fail
  go_ret
  exact ⟨rfl, HB5.out⟩
end
section
set_option maxRecDepth 100000
open Go.RowKit Cal
attribute [local go_sem] toList_mk mk_size bytes_append
/-- where the law stands: the deck in block D, the schema in block y -/
structure OsAt (D : Nat) (w : World) (y : Nat) (S : Nat → Prop) (vf vt vn vs : Value) (s : SchemaL) (wr : World) : Prop where
  m : Moved D w wr
  b : wr.heap[y]? = some (.cells #[vf, vt, vn, vs] 33 (0, 0))
  s : SchemaAt wr S vf vt vn vs s
  ne : ∀ b, S b → b ≠ D
  yD : y ≠ D
theorem OsAt.moved {D : Nat} {w : World} {y : Nat} {S : Nat → Prop} {vf vt vn vs : Value} {s : SchemaL} {wr wd : World} (h : OsAt D w y S vf vt vn vs s wr) (m : Moved D wr wd) : OsAt D w y S vf vt vn vs s wd :=
  ⟨h.m.trans m, m.blk h.yD h.b, h.s.moved h.ne m, h.ne, h.yD⟩
theorem OsAt.below {D : Nat} {w : World} {y : Nat} {S : Nat → Prop} {vf vt vn vs : Value} {s : SchemaL} {wr wd : World} (h : OsAt D w y S vf vt vn vs s wr) (hb : Below wr.heap.size wr wd) : OsAt D w y S vf vt vn vs s wd :=
  h.moved ((Moved.start h.m.deck).below hb)
theorem recs_small {s : SchemaL} {R : List RecL} (h : RecsOk s R) (hn : s.fields.length ≤ 1000) : (∀ r ∈ R, ∀ x ∈ r.vals, x.length ≤ 1000000) ∧ ∀ r ∈ R, r.vals.length ≤ 1000000 :=
  ⟨fun r hr x hx => by have := h.2 r hr x hx; omega, fun r hr => by have := (checkN_ok ((allN_ok h.1).2.2 r hr)).2.2.1; omega⟩
/-- the three cells of an element laid anew -/
theorem Vec.set3 {w : World} {S : Nat → Prop} {g n cap : Nat} {L : List RV} (h : Vec w S 3 encRV (.slice (some ⟨g, 0, none⟩) n cap) L) (j : Nat) (x : RV) :
    Vec (((w.setCell ⟨g, j * 3, none⟩ (.int .i64 x.id)).setCell ⟨g, j * 3 + 1, none⟩ (.int .i64 x.ver)).setCell ⟨g, j * 3 + 2, none⟩ (.slice x.a x.n x.c)) S 3 encRV (.slice (some ⟨g, 0, none⟩) n cap) (L.set j x) := by
  obtain ⟨a, cp, e, hc, h0⟩ := h
  cases e
  refine ⟨some ⟨g, 0, none⟩, _, by rw [List.length_set], by rw [List.length_set]; exact hc, fun hl => ?_⟩
  rw [List.length_set] at hl
  obtain ⟨b, off, e, hS, hb, hcell⟩ := h0 hl
  cases e
  refine ⟨g, 0, rfl, hS, by simpa [World.setCell] using hb, fun t y hy i u hu => ?_⟩
  have hi : i < 3 := by
    have := (List.getElem?_eq_some_iff.1 hu).1
    simpa [encRV] using this
  by_cases ht : t = j
  · subst ht
    have htl : t < L.length := by have := (List.getElem?_eq_some_iff.1 hy).1; simpa using this
    have hy2 : y = x := by
      rw [List.getElem?_set_self (by exact htl)] at hy
      exact (Option.some.inj hy).symm
    subst hy2
    have q : ∀ i, i < 3 → ∃ v, w.cell? ⟨g, t * 3 + i, none⟩ = some v := fun i hi => by
      have := hcell t L[t] (List.getElem?_eq_getElem htl) i _ (List.getElem?_eq_getElem (by simpa [encRV] using hi))
      rw [Nat.zero_add] at this
      exact ⟨_, this⟩
    obtain ⟨q0, e0⟩ := q 0 (by omega); obtain ⟨q1, e1⟩ := q 1 (by omega); obtain ⟨q2, e2⟩ := q 2 (by omega)
    have n01 : (⟨g, t * 3, none⟩ : Addr) ≠ ⟨g, t * 3 + 1, none⟩ := by simp
    have n02 : (⟨g, t * 3, none⟩ : Addr) ≠ ⟨g, t * 3 + 2, none⟩ := by simp
    have n12 : (⟨g, t * 3 + 1, none⟩ : Addr) ≠ ⟨g, t * 3 + 2, none⟩ := by simp
    rw [Nat.zero_add]
    match i, hu with
    | 0, hu =>
      cases hu
      show World.cell? _ ⟨g, t * 3, none⟩ = _
      rw [World.cell?_setCell_other _ _ _ _ n02.symm, World.cell?_setCell_other _ _ _ _ n01.symm]
      exact World.cell?_setCell_same _ _ _ e0
    | 1, hu =>
      cases hu
      rw [World.cell?_setCell_other _ _ _ _ n12.symm]
      exact World.cell?_setCell_same _ _ _ ((World.cell?_setCell_other _ _ _ _ n01).trans e1)
    | 2, hu =>
      cases hu
      exact World.cell?_setCell_same _ _ _ ((World.cell?_setCell_other _ _ _ _ n12).trans ((World.cell?_setCell_other _ _ _ _ n02).trans e2))
    | i + 3, hu => simp [encRV] at hu
  · rw [List.getElem?_set_ne (by omega)] at hy
    have h1 := hcell t y hy i u hu
    rw [Nat.zero_add] at h1 ⊢
    have n0 : (⟨g, j * 3, none⟩ : Addr) ≠ ⟨g, t * 3 + i, none⟩ := by intro e; injection e; omega
    have n1 : (⟨g, j * 3 + 1, none⟩ : Addr) ≠ ⟨g, t * 3 + i, none⟩ := by intro e; injection e; omega
    have n2 : (⟨g, j * 3 + 2, none⟩ : Addr) ≠ ⟨g, t * 3 + i, none⟩ := by intro e; injection e; omega
    rw [World.cell?_setCell_other _ _ _ _ n2, World.cell?_setCell_other _ _ _ _ n1, World.cell?_setCell_other _ _ _ _ n0]
    exact h1
theorem RecsVec.take {w : World} {S : Nat → Prop} {a : Option Addr} {n cap : Nat} {R : List RecL} (h : RecsVec w S (.slice a n cap) R) (i : Nat) (hi : i ≤ R.length) : RecsVec w S (.slice a i cap) (R.take i) := by
  obtain ⟨C, h1, h2, h3⟩ := h
  have hCl : C.length = R.length := by rw [← h2, List.length_map]
  refine ⟨C.take i, ?_, by rw [List.map_take, h2], fun x hx => h3 x (List.mem_of_mem_take hx)⟩
  obtain ⟨a', cp, e, hc, h0⟩ := h1
  cases e
  have hl : (C.take i).length = i := by rw [List.length_take]; omega
  refine ⟨_, _, by rw [hl], by rw [hl]; omega, fun hp => ?_⟩
  obtain ⟨b, off, e, hS, hb, hcell⟩ := h0 (by omega)
  refine ⟨b, off, e, hS, hb, fun j x hj => hcell j x ?_⟩
  rw [List.getElem?_take] at hj
  split at hj
  · exact hj
  · cases hj
end
section
def hexD : List UInt8 := [48, 49, 50, 51, 52, 53, 54, 55, 56, 57, 97, 98, 99, 100, 101, 102]
def digH (n : Nat) : UInt8 := hexD.getD n 48
/-- the value of a digit -/
def valH (c : UInt8) : Option Nat := if 48 ≤ c.toNat ∧ c.toNat ≤ 57 then some (c.toNat - 48) else if 97 ≤ c.toNat ∧ c.toNat ≤ 102 then some (c.toNat - 87) else none
theorem valH_dig (n : Nat) (h : n < 16) : valH (digH n) = some n := by
  have : ∀ k : Fin 16, valH (digH k) = some k.val := by decide
  exact this ⟨n, h⟩
/-- the last k digits, the highest first -/
def hexN : Nat → Nat → List UInt8
  | 0, _ => []
  | k + 1, n => hexN k (n / 16) ++ [digH (n % 16)]
theorem hexN_len (k : Nat) : ∀ n, (hexN k n).length = k := by
  induction k with
  | zero => intro n; rfl
  | succ k ih => intro n; rw [hexN, List.length_append, ih]; rfl
theorem hexN_get (k : Nat) : ∀ n i, i < k → (hexN k n)[i]? = some (digH (n / 16 ^ (k - 1 - i) % 16)) := by
  induction k with
  | zero => intro n i h; omega
  | succ k ih =>
    intro n i h
    rw [hexN]
    by_cases hi : i < k
    · rw [List.getElem?_append_left (by rw [hexN_len]; exact hi), ih _ _ hi, Nat.div_div_eq_div_mul, ← Nat.pow_succ']
      rw [show (k - 1 - i).succ = k + 1 - 1 - i by omega]
    · have : i = k := by omega
      subst this
      rw [List.getElem?_append_right (by rw [hexN_len]; exact Nat.le_refl _), hexN_len, Nat.sub_self, show i + 1 - 1 - i = 0 by omega, Nat.pow_zero, Nat.div_one]
      rfl
end
end Go.Proofs.YtoeplomdcannlaaGreatDoor
section
namespace Go.Proofs
open Go.Shelf
def Tryz.laysM171_ren : Go.Shelf.Ren := ⟨fun | 171 => 50 | 243 => 97 | 246 => 142 | 283 => 189 | 284 => 190 | 285 => 191 | 286 => 192 | 129 => 241 | 317 => 240 | 318 => 242 | 319 => 243 | 320 => 244 | 337 => 272 | 338 => 273 | n => n, fun | 3 => 3 | 9 => 9 | 2 => 2 | 4 => 4 | 171 => 214 | 0 => 0 | 53 => 43 | 37 => 55 | 5 => 5 | 173 => 217 | 212 => 253 | 51 => 245 | 20 => 20 | 213 => 254 | 46 => 92 | 232 => 287 | 233 => 288 | n => n, fun | 17 => 3 | 18 => 6 | 19 => 7 | n => n⟩
theorem Tryz.laysM171 : Go.Proofs.LaysM.n171 Tryz.prog Tryz.laysM171_ren := {
  mixed := by kernel_rfl
  f129 := Tryz.func241.trans (congrArg some (by kernel_rfl))
  f171 := Tryz.func50.trans (congrArg some (by kernel_rfl))
  f243 := Tryz.func97.trans (congrArg some (by kernel_rfl))
  f246 := Tryz.func142.trans (congrArg some (by kernel_rfl))
  f283 := Tryz.func189.trans (congrArg some (by kernel_rfl))
  f284 := Tryz.func190.trans (congrArg some (by kernel_rfl))
  f285 := Tryz.func191.trans (congrArg some (by kernel_rfl))
  f286 := Tryz.func192.trans (congrArg some (by kernel_rfl))
  f317 := Tryz.func240.trans (congrArg some (by kernel_rfl))
  f318 := Tryz.func242.trans (congrArg some (by kernel_rfl))
  f319 := Tryz.func243.trans (congrArg some (by kernel_rfl))
  f320 := Tryz.func244.trans (congrArg some (by kernel_rfl))
  f337 := Tryz.func272.trans (congrArg some (by kernel_rfl))
  f338 := Tryz.func273.trans (congrArg some (by kernel_rfl))
  t0 := Tryz.underlying0
  a0 := Tryz.isAgg0
  z0 := Tryz.sizeOf0
  v0 := Tryz.zeroValue0
  t2 := Tryz.underlying2
  a2 := Tryz.isAgg2
  z2 := Tryz.sizeOf2
  v2 := Tryz.zeroValue2
  t3 := Tryz.underlying3
  a3 := Tryz.isAgg3
  z3 := Tryz.sizeOf3
  v3 := Tryz.zeroValue3
  t4 := Tryz.underlying4
  a4 := Tryz.isAgg4
  z4 := Tryz.sizeOf4
  v4 := Tryz.zeroValue4
  t5 := Tryz.underlying5
  a5 := Tryz.isAgg5
  z5 := Tryz.sizeOf5
  v5 := Tryz.zeroValue5
  t9 := Tryz.underlying9
  a9 := Tryz.isAgg9
  z9 := Tryz.sizeOf9
  v9 := Tryz.zeroValue9
  t20 := Tryz.underlying20
  a20 := Tryz.isAgg20
  z20 := Tryz.sizeOf20
  v20 := Tryz.zeroValue20
  t37 := Tryz.underlying55
  a37 := Tryz.isAgg55
  z37 := Tryz.sizeOf55
  v37 := Tryz.zeroValue55
  t46 := Tryz.underlying92
  a46 := Tryz.isAgg92
  z46 := Tryz.sizeOf92
  v46 := Tryz.zeroValue92
  t51 := Tryz.underlying245
  a51 := Tryz.isAgg245
  z51 := Tryz.sizeOf245
  v51 := Tryz.zeroValue245
  t53 := Tryz.underlying43
  a53 := Tryz.isAgg43
  z53 := Tryz.sizeOf43
  v53 := Tryz.zeroValue43
  t171 := Tryz.underlying214
  a171 := Tryz.isAgg214
  z171 := Tryz.sizeOf214
  v171 := Tryz.zeroValue214
  t173 := Tryz.underlying217
  a173 := Tryz.isAgg217
  z173 := Tryz.sizeOf217
  v173 := Tryz.zeroValue217
  t212 := Tryz.underlying253
  a212 := Tryz.isAgg253
  z212 := Tryz.sizeOf253
  v212 := Tryz.zeroValue253
  t213 := Tryz.underlying254
  a213 := Tryz.isAgg254
  z213 := Tryz.sizeOf254
  t232 := Tryz.underlying287
  a232 := Tryz.isAgg287
  z232 := Tryz.sizeOf287
  v232 := Tryz.zeroValue287
  t233 := Tryz.underlying288
  a233 := Tryz.isAgg288
  z233 := Tryz.sizeOf288
  v233 := Tryz.zeroValue288
  g17 := by kernel_rfl
  g18 := by kernel_rfl
  g19 := by kernel_rfl
  i0 := by kernel_rfl
  i2 := by kernel_rfl
  i3 := by kernel_rfl
  i4 := by kernel_rfl
  i5 := by kernel_rfl
  i9 := by kernel_rfl
  i20 := by kernel_rfl
  i37 := by kernel_rfl
  i46 := by kernel_rfl
  i51 := by kernel_rfl
  i53 := by kernel_rfl
  i171 := by kernel_rfl
  i173 := by kernel_rfl
  i212 := by kernel_rfl
  i232 := by kernel_rfl
  i233 := by kernel_rfl
  m17 := by kernel_rfl
  m18 := by kernel_rfl
  m19 := by kernel_rfl }
open Go.RowKit Go.Sort Go.Lib in
/-- strconv.Itoa: "Itoa is equivalent to FormatInt(int64(i), 10).": i's DECIMAL NUMERAL ('Lib.itoa': a '-' where i is negative, then the digits), FOR EVERY int. The world behind the call: the world before it, new blocks behind the heap (the library's 'var a [24]byte'), draws. (LAID: no walk: one application.) -/
theorem Tryz.strconv_Itoa (n : Int) (h0 : -9223372036854775808 ≤ n) (h1 : n ≤ 9223372036854775807) (w : World) (htab : Lib.TabIs Tryz.prog w "internal/strconv.uint64pow10" .u64 Lib.pow10Tab) :
    Calls Tryz.prog 50 #[.int .i64 n] w fun e w' => e = .returned (.string ⟨(Lib.itoa n).toArray⟩) ∧ ∃ k os, w' = grow (w.drewN k) os := Any.strconv_Itoa Tryz.laysM171 n h0 h1 w htab
def Tryz.laysC172_ren : Go.Shelf.Ren := ⟨fun | 172 => 54 | 244 => 100 | 245 => 101 | 247 => 147 | 279 => 148 | 280 => 149 | 281 => 150 | 282 => 151 | 287 => 198 | 316 => 199 | 171 => 50 | 205 => 200 | 321 => 250 | 322 => 251 | 243 => 97 | 246 => 142 | 283 => 189 | 284 => 190 | 285 => 191 | 286 => 192 | 129 => 241 | 317 => 240 | 318 => 242 | 319 => 243 | 320 => 244 | 337 => 272 | 338 => 273 | n => n, fun | 9 => 9 | 3 => 3 | 75 => 97 | 76 => 98 | 4 => 4 | 5 => 5 | 167 => 182 | 37 => 55 | 0 => 0 | 85 => 183 | 2 => 2 | 168 => 185 | 53 => 43 | 175 => 223 | 46 => 92 | 210 => 226 | 127 => 161 | 145 => 259 | 143 => 257 | 21 => 21 | 171 => 214 | 173 => 217 | 212 => 253 | 51 => 245 | 20 => 20 | 213 => 254 | 232 => 287 | 233 => 288 | 80 => 121 | n => n, fun | 15 => 0 | 16 => 1 | 17 => 3 | 18 => 6 | 19 => 7 | n => n⟩
theorem Tryz.laysC172 : Go.Proofs.LaysC.n172 Tryz.prog Tryz.laysC172_ren := {
  mixed := by kernel_rfl
  f129 := Tryz.func241.trans (congrArg some (by kernel_rfl))
  f171 := Tryz.func50.trans (congrArg some (by kernel_rfl))
  f172 := Tryz.func54.trans (congrArg some (by kernel_rfl))
  f205 := Tryz.func200.trans (congrArg some (by kernel_rfl))
  f243 := Tryz.func97.trans (congrArg some (by kernel_rfl))
  f244 := Tryz.func100.trans (congrArg some (by kernel_rfl))
  f245 := Tryz.func101.trans (congrArg some (by kernel_rfl))
  f246 := Tryz.func142.trans (congrArg some (by kernel_rfl))
  f247 := Tryz.func147.trans (congrArg some (by kernel_rfl))
  f279 := Tryz.func148.trans (congrArg some (by kernel_rfl))
  f280 := Tryz.func149.trans (congrArg some (by kernel_rfl))
  f281 := Tryz.func150.trans (congrArg some (by kernel_rfl))
  f282 := Tryz.func151.trans (congrArg some (by kernel_rfl))
  f283 := Tryz.func189.trans (congrArg some (by kernel_rfl))
  f284 := Tryz.func190.trans (congrArg some (by kernel_rfl))
  f285 := Tryz.func191.trans (congrArg some (by kernel_rfl))
  f286 := Tryz.func192.trans (congrArg some (by kernel_rfl))
  f287 := Tryz.func198.trans (congrArg some (by kernel_rfl))
  f316 := Tryz.func199.trans (congrArg some (by kernel_rfl))
  f317 := Tryz.func240.trans (congrArg some (by kernel_rfl))
  f318 := Tryz.func242.trans (congrArg some (by kernel_rfl))
  f319 := Tryz.func243.trans (congrArg some (by kernel_rfl))
  f320 := Tryz.func244.trans (congrArg some (by kernel_rfl))
  f321 := Tryz.func250.trans (congrArg some (by kernel_rfl))
  f322 := Tryz.func251.trans (congrArg some (by kernel_rfl))
  f337 := Tryz.func272.trans (congrArg some (by kernel_rfl))
  f338 := Tryz.func273.trans (congrArg some (by kernel_rfl))
  t0 := Tryz.underlying0
  a0 := Tryz.isAgg0
  z0 := Tryz.sizeOf0
  v0 := Tryz.zeroValue0
  t2 := Tryz.underlying2
  a2 := Tryz.isAgg2
  z2 := Tryz.sizeOf2
  v2 := Tryz.zeroValue2
  t3 := Tryz.underlying3
  a3 := Tryz.isAgg3
  z3 := Tryz.sizeOf3
  v3 := Tryz.zeroValue3
  t4 := Tryz.underlying4
  a4 := Tryz.isAgg4
  z4 := Tryz.sizeOf4
  v4 := Tryz.zeroValue4
  t5 := Tryz.underlying5
  a5 := Tryz.isAgg5
  z5 := Tryz.sizeOf5
  v5 := Tryz.zeroValue5
  t9 := Tryz.underlying9
  a9 := Tryz.isAgg9
  z9 := Tryz.sizeOf9
  v9 := Tryz.zeroValue9
  t20 := Tryz.underlying20
  a20 := Tryz.isAgg20
  z20 := Tryz.sizeOf20
  v20 := Tryz.zeroValue20
  t21 := Tryz.underlying21
  a21 := Tryz.isAgg21
  z21 := Tryz.sizeOf21
  v21 := Tryz.zeroValue21
  t37 := Tryz.underlying55
  a37 := Tryz.isAgg55
  z37 := Tryz.sizeOf55
  v37 := Tryz.zeroValue55
  t46 := Tryz.underlying92
  a46 := Tryz.isAgg92
  z46 := Tryz.sizeOf92
  v46 := Tryz.zeroValue92
  t51 := Tryz.underlying245
  a51 := Tryz.isAgg245
  z51 := Tryz.sizeOf245
  v51 := Tryz.zeroValue245
  t53 := Tryz.underlying43
  a53 := Tryz.isAgg43
  z53 := Tryz.sizeOf43
  v53 := Tryz.zeroValue43
  t75 := Tryz.underlying97
  a75 := Tryz.isAgg97
  z75 := Tryz.sizeOf97
  v75 := Tryz.zeroValue97
  t76 := Tryz.underlying98
  a76 := Tryz.isAgg98
  z76 := Tryz.sizeOf98
  v76 := Tryz.zeroValue98
  t85 := Tryz.underlying183
  a85 := Tryz.isAgg183
  z85 := Tryz.sizeOf183
  v85 := Tryz.zeroValue183
  t127 := Tryz.underlying161
  a127 := Tryz.isAgg161
  z127 := Tryz.sizeOf161
  v127 := Tryz.zeroValue161
  t143 := Tryz.underlying257
  a143 := Tryz.isAgg257
  z143 := Tryz.sizeOf257
  v143 := Tryz.zeroValue257
  t145 := Tryz.underlying259
  a145 := Tryz.isAgg259
  z145 := Tryz.sizeOf259
  v145 := Tryz.zeroValue259
  t167 := Tryz.underlying182
  a167 := Tryz.isAgg182
  z167 := Tryz.sizeOf182
  v167 := Tryz.zeroValue182
  t168 := Tryz.underlying185
  a168 := Tryz.isAgg185
  z168 := Tryz.sizeOf185
  v168 := Tryz.zeroValue185
  t171 := Tryz.underlying214
  a171 := Tryz.isAgg214
  z171 := Tryz.sizeOf214
  v171 := Tryz.zeroValue214
  t173 := Tryz.underlying217
  a173 := Tryz.isAgg217
  z173 := Tryz.sizeOf217
  v173 := Tryz.zeroValue217
  t175 := Tryz.underlying223
  a175 := Tryz.isAgg223
  z175 := Tryz.sizeOf223
  v175 := Tryz.zeroValue223
  t210 := Tryz.underlying226
  a210 := Tryz.isAgg226
  z210 := Tryz.sizeOf226
  v210 := Tryz.zeroValue226
  t212 := Tryz.underlying253
  a212 := Tryz.isAgg253
  z212 := Tryz.sizeOf253
  v212 := Tryz.zeroValue253
  t213 := Tryz.underlying254
  a213 := Tryz.isAgg254
  z213 := Tryz.sizeOf254
  t232 := Tryz.underlying287
  a232 := Tryz.isAgg287
  z232 := Tryz.sizeOf287
  v232 := Tryz.zeroValue287
  t233 := Tryz.underlying288
  a233 := Tryz.isAgg288
  z233 := Tryz.sizeOf288
  v233 := Tryz.zeroValue288
  g15 := by kernel_rfl
  g16 := by kernel_rfl
  g17 := by kernel_rfl
  g18 := by kernel_rfl
  g19 := by kernel_rfl
  t80 := Tryz.underlying121
  a80 := Tryz.isAgg121
  z80 := Tryz.sizeOf121
  v80 := Tryz.zeroValue121
  i0 := by kernel_rfl
  i2 := by kernel_rfl
  i3 := by kernel_rfl
  i4 := by kernel_rfl
  i5 := by kernel_rfl
  i9 := by kernel_rfl
  i20 := by kernel_rfl
  i21 := by kernel_rfl
  i37 := by kernel_rfl
  i46 := by kernel_rfl
  i51 := by kernel_rfl
  i53 := by kernel_rfl
  i75 := by kernel_rfl
  i76 := by kernel_rfl
  i80 := by kernel_rfl
  i85 := by kernel_rfl
  i127 := by kernel_rfl
  i143 := by kernel_rfl
  i145 := by kernel_rfl
  i167 := by kernel_rfl
  i168 := by kernel_rfl
  i171 := by kernel_rfl
  i173 := by kernel_rfl
  i175 := by kernel_rfl
  i210 := by kernel_rfl
  i212 := by kernel_rfl
  i232 := by kernel_rfl
  i233 := by kernel_rfl
  m15 := by kernel_rfl
  m16 := by kernel_rfl
  m17 := by kernel_rfl
  m18 := by kernel_rfl
  m19 := by kernel_rfl
  c0 := by kernel_rfl
  c2 := by kernel_rfl
  c3 := by kernel_rfl
  c4 := by kernel_rfl
  c5 := by kernel_rfl
  c9 := by kernel_rfl
  c20 := by kernel_rfl
  c21 := by kernel_rfl
  c37 := by kernel_rfl
  c46 := by kernel_rfl
  c51 := by kernel_rfl
  c53 := by kernel_rfl
  c75 := by kernel_rfl
  c76 := by kernel_rfl
  c80 := by kernel_rfl
  c85 := by kernel_rfl
  c127 := by kernel_rfl
  c143 := by kernel_rfl
  c145 := by kernel_rfl
  c167 := by kernel_rfl
  c168 := by kernel_rfl
  c171 := by kernel_rfl
  c173 := by kernel_rfl
  c175 := by kernel_rfl
  c210 := by kernel_rfl
  c212 := by kernel_rfl
  c213 := by kernel_rfl
  c232 := by kernel_rfl
  c233 := by kernel_rfl }
open Go.RowKit in
/-- strconv.Atoi, AT EVERY STRING THAT SPELLS AN int ('Lib.atoiAll .. = .ok v'; of whatever length: leading zeros count): v, AND NO ERROR. The world: as it was, or with the one new row that '[]byte(..)' lays. (LAID: no walk: one application.) -/
theorem Tryz.strconv_Atoi_ok (s : ByteArray) (hmax : s.size ≤ 9223372036854775806) (v : Int) (h : Lib.atoiAll s.data.toList = .ok v) (w : World) :
    Calls Tryz.prog 54 #[.string s] w fun e w' => e = .returned (.tuple #[.int .i64 v, .nilIface]) ∧ (w' = w ∨ ∃ t, w' = Lib.bytesWorld w 5 t) := Any.strconv_Atoi_ok Tryz.laysC172 s hmax v h w
open Go.RowKit in
/-- strconv.Atoi, AT EVERY STRING THAT IS NO DECIMAL NUMERAL ('.syntax'): 0, AND AN ERROR THAT IS NOT nil: a *NumError in a new block N: {Func: "Atoi", Num: s's bytes, Err: what the variable ErrSyntax holds}. Of what was there nothing has turned. (LAID: no walk: one application.) -/
theorem Tryz.strconv_Atoi_syntax (s : ByteArray) (hlim : s.size ≤ 281474976710656) (h : Lib.atoiAll s.data.toList = .«syntax») (ev : Value) (w : World) (hv : w.cell? ⟨0, 0, none⟩ = some ev) (hev : ev = .nilIface ∨ ∃ te pe, ev = .iface te pe) :
    Calls Tryz.prog 54 #[.string s] w fun e w' => ∃ N, e = .returned (.tuple #[.int .i64 (0), .iface 185 (.pointer (some ⟨N, 0, none⟩))]) ∧ w.heap.size ≤ N ∧ w'.heap[N]? = some (.cells #[.string ⟨#[65, 116, 111, 105]⟩, .string s, ev] 226 (0, 0)) ∧ Below w.heap.size w w' := Any.strconv_Atoi_syntax Tryz.laysC172 s hlim h ev w hv hev
open Go.RowKit in
/-- strconv.Atoi, AT EVERY NUMERAL THAT NO int HOLDS ('.range'): THE GREATEST OR THE LEAST int, BY THE SIGN ('Lib.atoiSat'), AND AN ERROR THAT IS NOT nil: a *NumError in a new block N: {Func: "Atoi", Num: s's bytes, Err: what the variable ErrRange holds}. Of what was there nothing has turned. (LAID: no walk: one application.) -/
theorem Tryz.strconv_Atoi_range (s : ByteArray) (hlim : s.size ≤ 281474976710656) (h : Lib.atoiAll s.data.toList = .range) (ev : Value) (w : World) (hv : w.cell? ⟨1, 0, none⟩ = some ev) (hev : ev = .nilIface ∨ ∃ te pe, ev = .iface te pe) :
    Calls Tryz.prog 54 #[.string s] w fun e w' => ∃ N, e = .returned (.tuple #[.int .i64 (Lib.atoiSat s.data.toList), .iface 185 (.pointer (some ⟨N, 0, none⟩))]) ∧ w.heap.size ≤ N ∧ w'.heap[N]? = some (.cells #[.string ⟨#[65, 116, 111, 105]⟩, .string s, ev] 226 (0, 0)) ∧ Below w.heap.size w w' := Any.strconv_Atoi_range Tryz.laysC172 s hlim h ev w hv hev
end Go.Proofs
end
namespace Go.Proofs.YtoeplomdcannlaaGreatDoor
section
theorem dec_digit {c : UInt8} {n : Nat} (h : c ∈ Lib.decDigits n) : 48 ≤ c.toNat ∧ c.toNat ≤ 57 := by
  induction n using Nat.strongRecOn with
  | _ n ih =>
    rw [Lib.decDigits] at h
    split at h
    · next hlt =>
      simp only [List.mem_singleton] at h
      subst h
      rw [UInt8.toNat_ofNat']; omega
    · next hge =>
      rcases List.mem_append.1 h with h1 | h1
      · exact ih (n / 10) (by omega) h1
      · simp only [List.mem_singleton] at h1
        subst h1
        rw [UInt8.toNat_ofNat']; omega
theorem dec_ne (n : Nat) : Lib.decDigits n ≠ [] := by
  intro h
  have := Lib.decDigits_length n
  rw [h] at this
  have h1 := Lib.nDigits_pos n
  simp at this; omega
theorem decFrom_append (l m : List UInt8) : ∀ acc, Lib.decFrom acc (l ++ m) = match Lib.decFrom acc l with | some a => Lib.decFrom a m | none => none := by
  induction l with
  | nil => intro acc; rfl
  | cons c l ih =>
    intro acc
    rw [List.cons_append, Lib.decFrom, Lib.decFrom]
    cases Lib.digitVal c with
    | none => rfl
    | some d => exact ih _
theorem dval (d : Nat) (h : d < 10) : Lib.digitVal (UInt8.ofNat (48 + d)) = some d := by
  have : ∀ k : Fin 10, Lib.digitVal (UInt8.ofNat (48 + k.val)) = some k.val := by decide
  exact this ⟨d, h⟩
/-- a numeral's value -/
theorem decFrom_digits (n : Nat) : Lib.decFrom 0 (Lib.decDigits n) = some n := by
  induction n using Nat.strongRecOn with
  | _ n ih =>
    rw [Lib.decDigits]
    split
    · next hlt =>
      rw [Lib.decFrom, dval n hlt]
      show Lib.decFrom (0 * 10 + n) [] = _
      rw [Lib.decFrom]; simp
    · next hge =>
      rw [decFrom_append, ih (n / 10) (by omega)]
      show Lib.decFrom (n / 10) [UInt8.ofNat (48 + n % 10)] = _
      rw [Lib.decFrom, dval (n % 10) (Nat.mod_lt _ (by decide))]
      show Lib.decFrom (n / 10 * 10 + n % 10) [] = _
      rw [Lib.decFrom]
      congr 1; omega
theorem atoi_digits (n : Nat) : Lib.atoi (Lib.decDigits n) = some (n : Int) := by
  cases h : Lib.decDigits n with
  | nil => exact absurd h (dec_ne n)
  | cons b r =>
    have hb := dec_digit (c := b) (n := n) (by rw [h]; exact List.mem_cons_self)
    have h1 : (b == 45) = false := by
      rw [beq_eq_false_iff_ne]
      intro e; rw [e] at hb; simp at hb
    have h2 : (b == 43) = false := by
      rw [beq_eq_false_iff_ne]
      intro e; rw [e] at hb; simp at hb
    unfold Lib.atoi
    dsimp only
    rw [h1, h2, if_neg (by decide), if_neg (by decide)]
    unfold Lib.decNat
    rw [← h, decFrom_digits]
    simp [h]
/-- a numeral of a number below 10^k has at most k digits -/
theorem dec_most {n k : Nat} (hk : 1 ≤ k) (h : n < 10 ^ k) : (Lib.decDigits n).length ≤ k := by
  rw [Lib.decDigits_length]
  induction k generalizing n with
  | zero => omega
  | succ k ih =>
    by_cases hn : n < 10
    · rw [Lib.nDigits_small hn]; omega
    · rw [Lib.nDigits_big hn]
      have hk1 : 1 ≤ k := by
        rcases Nat.eq_zero_or_pos k with h0 | h0
        · subst h0; simp at h; omega
        · exact h0
      have := ih (n := n / 10) hk1 (by rw [Nat.pow_succ] at h; omega)
      omega
end
end Go.Proofs.YtoeplomdcannlaaGreatDoor
