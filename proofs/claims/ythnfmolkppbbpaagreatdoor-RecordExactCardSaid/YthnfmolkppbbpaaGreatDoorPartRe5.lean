/- Parts of one proof: DeckRec, RecMake, CmpPlain, RecAll, EncF, EncG, Split, JoinC, JoinT, RefGramA, RecLine, CutAny, RangeBox, RecRows, HexPlain, Shelf3, NumPlain, EbVars, FilePlain, HexNum, Shelf4, Extract, RecRead, PhonB, HexA, RecSum, MakeB, Drawn. -/
import Derived.Test.YthnfmolkppbbpaaGreatDoorPartRe4
import Derived.Lib.Split
import Derived.RangeFuncFrom
import Derived.RangeFuncBox
import Derived.RangeFuncNested
import Derived.RangeFuncBound
import Derived.RangeFuncCalls
import Derived.RangeFuncLeaves
import Derived.Shelf.Abstract
import Derived.Shelf.RegionOpen
import Derived.OwnWalkIn
import Derived.TacticsInMore
import Derived.LoopNIn
import Derived.LoopIn
import Derived.Lib.Atoi
import Derived.Lib.AtoiTie
import Derived.Lib.LaidTab
import Derived.Lib.AtoiErrMem
import Derived.WalkArith
import Derived.Laws.IdiomStrings
import Derived.MapKept
import Derived.WideMake
import Derived.Shelf.Strings.SlTrimAscii
set_option linter.unusedSimpArgs false
set_option linter.unusedVariables false
namespace Go.Proofs.YthnfmolkppbbpaaGreatDoor
section
set_option maxRecDepth 100000
open Go.RowKit Cal
attribute [local go_sem] toList_mk mk_size str_append
/-- a record in memory: its three cells -/
def RecVal (w : World) (S : Nat → Prop) (v : Value) (r : RecL) : Prop := ∃ s, v = .agg #[.int .i64 r.id, .int .i64 r.ver, s] ∧ Vec w S 1 encS s r.vals
def MakePost (p : RecL × Int) (w : World) (e : Ending) (w' : World) : Prop := ∃ v, e = .returned (.tuple #[v, .int .i64 p.2]) ∧ RecVal w' (fun b => w.heap.size ≤ b) v p.1 ∧ Below w.heap.size w w'
/-- .. of raw values as many as fields, right numbers, a valid schema -/
theorem makeN_in {s : SchemaL} {id ver : Int} {raws : List (List UInt8)} (h0 : checkS s = 0) (h1 : raws.length = s.fields.length) (h2 : numberedB id ver = true) : makeN s id ver raws = if (makeA s 0 [] raws).2 = 0 then (⟨id, ver, (makeA s 0 [] raws).1⟩, 0) else (noRec, (makeA s 0 [] raws).2) := by
 unfold makeN; rw [if_pos h0, if_pos h1, if_pos h2]
/-- where ref13.Make stands: the schema's box, the result's, the record's, its values -/
structure MkAt (w : World) (rb : Nat) (vf vt vn vs : Value) (id ver : Int) (v : Value) (C : List (List UInt8)) (wr : World) : Prop where
 s : wr.heap[w.heap.size]? = some (.cells #[vf, vt, vn, vs] 33 (0, 0))
 z : wr.heap[w.heap.size + 1]? = some (.cells #[.int .i64 0, .int .i64 0, .slice none 0 0] 44 (0, 0))
 r : wr.heap[rb]? = some (.cells #[.int .i64 id, .int .i64 ver, v] 44 (0, 0))
 own : wr.ownsRow (rb + 1) 9 1 v C.length (C.flatMap encS)
 b : Below w.heap.size w wr
 lt : w.heap.size + 1 < rb
 lt2 : rb < wr.heap.size
theorem MkAt.below {w : World} {rb : Nat} {vf vt vn vs : Value} {id ver : Int} {v : Value} {C : List (List UInt8)} {wr wx : World} (h : MkAt w rb vf vt vn vs id ver v C wr) (hb : Below wr.heap.size wr wx) : MkAt w rb vf vt vn vs id ver v C wx :=
 ⟨blk_below hb (lt_of_blk h.s) h.s, blk_below hb (lt_of_blk h.z) h.z, blk_below hb (lt_of_blk h.r) h.r, own_below' h.own hb, h.b.trans (hb.mono h.b.size), h.lt, Nat.lt_of_lt_of_le h.lt2 hb.size⟩
set_option maxHeartbeats 8000000 in
theorem rmake_yes (S T : Nat → Prop) (vf vt vn vs : Value) (s : SchemaL) (id ver : Int) (raws : List (List UInt8)) (rv : Value) (w : World) (h : SchemaAt w S vf vt vn vs s) (hv : Vec w T 1 encS rv raws) (hc : checkS s = 0) (hl : raws.length = s.fields.length) (hn : numberedB id ver = true) (hs : ∀ x ∈ raws, x.length ≤ 1000000) :
  Calls Tryz.prog 24 #[.agg #[vf, vt, vn, vs], .int .i64 id, .int .i64 ver, rv] w (MakePost (makeN s id ver raws) w) := by
 have hmk := makeN_in hc hl hn
 obtain ⟨R, hR⟩ : ∃ R, makeN s id ver raws = R := ⟨_, rfl⟩
 rw [hR] at hmk ⊢
 have HMK := Lib.hid hmk
 clear hmk hR
 obtain ⟨a, cap, rfl⟩ := hv.slice
 obtain ⟨af, cf, rfl⟩ := h.1.slice
 have h5 : raws.length ≤ 5 := by have := (check_fields hc).1.2; omega
 have hne : ((raws.length : Int) != (s.fields.length : Int)) = false := by rw [hl]; simp
 have hn0 := hn
 simp only [numberedB, Bool.and_eq_true, decide_eq_true_iff] at hn0
 obtain ⟨⟨⟨n1, n2⟩, n3⟩, n4⟩ := hn0
 have e1 : decide (id < (1 : Int)) = false := by simp; omega
 have e2 : decide ((1048576 : Int) < id) = false := by simp; omega
 have e3 : decide (ver < (1 : Int)) = false := by simp; omega
 have e4 : decide ((1048576 : Int) < ver) = false := by simp; omega
 have HC := Lib.hid hc; have HV := Lib.hid hv.any; have HS := Lib.hid h.any; have HSh := Lib.hid hs
 clear h hv hc hl hn hs n1 n2 n3 n4
 go_enter Tryz.func24, Tryz.ntmps24
 go_wp2_with fail
 refine wp_calls_world (fun W hW => ?_)
 have hb0 : Below w.heap.size w W := by rw [hW]; exact ((Below.refl w.heap.size w).alloc (Nat.le_refl _) _).alloc (by simp) _
 have hs0 : W.heap[w.heap.size]? = some (.cells #[.slice af s.fields.length cf, vt, vn, vs] 33 (0, 0)) := by rw [hW]; exact blk_old (blk_new rfl)
 have hz0 : W.heap[w.heap.size + 1]? = some (.cells #[.int .i64 0, .int .i64 0, .slice none 0 0] 44 (0, 0)) := by rw [hW]; exact blk_new (by simp)
 clear hW
 refine (rscheck_any Any1 _ _ _ _ s _ (HS.out.below hb0)).mono ?_
 rw [HC.out]
 rintro e w1 ⟨rfl, hb⟩
 have hs1 := blk_below hb (lt_of_blk hs0) hs0; have hz1 := blk_below hb (lt_of_blk hz0) hz0
 have HB1 := Lib.hid (hb0.trans (hb.mono hb0.size)); have HS1 := Lib.hid hs1; have HZ1 := Lib.hid hz1
 obtain ⟨s0, s1, s2, s3⟩ := cellsS hs1
 clear hb hb0 hs0 hz0 hs1 hz1
 go_wp2_with fail
 refine wp_world (fun W2 hW2 => ?_)
 have hm0 : MkAt w w1.heap.size (.slice af s.fields.length cf) vt vn vs id ver (.slice none 0 0) [] W2 := by
  rw [hW2]
  exact ⟨blk_old HS1.out, blk_old HZ1.out, blk_new rfl, ⟨by simp, .inl ⟨rfl, rfl⟩⟩, HB1.out.alloc HB1.out.size _, lt_of_blk HZ1.out, by simp⟩
 have HM0 := Lib.hid hm0
 clear hW2 hm0 s0 s1 s2 s3
 go_loopw [12, 13, 14] (fun i _ _ wr => ∃ (j : Nat) (v : Value) (C : List (List UInt8)), i = .int .i64 j ∧ j ≤ raws.length ∧ C.length = j ∧ Hid (makeA s j C (raws.drop j) = makeA s 0 [] raws) ∧ MkAt w w1.heap.size (.slice af s.fields.length cf) vt vn vs id ver v C wr) (fun i _ _ _ => raws.length - (intOf i).toNat)
 case atStart => exact ⟨0, _, [], rfl, by omega, rfl, Lib.hid rfl, HM0.out⟩
 case round =>
  obtain ⟨j, vC, C, rfl, hj, hCl, HT, hm⟩ := hrel
  have HM := Lib.hid hm; have HCl := Lib.hid hCl; clear hm hCl HM0
  obtain ⟨s0, s1, s2, s3⟩ := cellsS HM.out.s
  by_cases hlt : j < raws.length
  ·have hq : decide ((j : Int) < raws.length) = true := by simp; omega
   obtain ⟨x, hx⟩ : ∃ x, raws[j] = x := ⟨_, rfl⟩
   have hxl : x.length ≤ 1000000 := HSh.out x (by rw [← hx]; exact List.getElem_mem _)
   have hT := HT.out
   rw [List.drop_eq_getElem_cons hlt, hx, makeA] at hT
   obtain ⟨b, off, rfl, hb, hc⟩ := (HV.out.below HM.out.b).get j hlt
   have c0 := hc 0 _ rfl
   rw [Nat.mul_one, Nat.add_zero, hx] at c0
   obtain ⟨⟨y, er⟩, hp⟩ : ∃ p, valueN s j x = p := ⟨_, rfl⟩
   rw [hp] at hT
   dsimp only at hT
   have HT2 := Lib.hid hT; have HPv := Lib.hid hp
   clear hc hT hx HT hp
   go_wp2_with fail
   have hbw : b < wr.heap.size := hb
   have hzs := lt_of_blk HM.out.s
   refine wp_region_noPanic ?_
   refine wp_region_held_drew (S := (fun w' => w'.cell? ⟨w.heap.size, 0, none⟩ = some (.slice af s.fields.length cf) ∧ w'.cell? ⟨w.heap.size, 1, none⟩ = some vt ∧ w'.cell? ⟨w.heap.size, 2, none⟩ = some vn ∧ w'.cell? ⟨w.heap.size, 3, none⟩ = some vs ∧ w'.cell? ⟨b, off + j, none⟩ = some (strV x))) (by kernel_rfl) (⟨s0, s1, s2, s3, c0⟩) (fun hHeld => ?_)
   refine tH 0 (h := ?_)
   refine tH 1 (h := ?_)
   refine tH 2 (h := ?_)
   refine tH 3 (h := ?_)
   refine tH 4 (h := ?_)
   refine tH 5 (h := ?_)
   refine wpAnyH_ready (rs := [6]) (by kernel_rfl) (by simp) ?_
   refine AllReadyH.cons rfl (fun K hK => ?_) AllReadyH.nil
   go_simp
   refine (rvalue_any Any1 _ vt vn vs s j ⟨x.toArray⟩ _ ((HS.out.below HM.out.b).below (Below.refl _ _).drew) (by rw [mk_size]; omega)).mono ?_; rw [show (⟨x.toArray⟩ : ByteArray).data.toList = x by simp, HPv.out]; unfold pairV; rintro e w2 ⟨rfl, hb2⟩; have b2 := ((Below.refl wr.heap.size wr).drew).trans hb2; clear hb2
   refine hK.out _ _ (⟨(b2.cell (p := ⟨w.heap.size, 0, none⟩) hzs).trans s0, (b2.cell (p := ⟨w.heap.size, 1, none⟩) hzs).trans s1, (b2.cell (p := ⟨w.heap.size, 2, none⟩) hzs).trans s2, (b2.cell (p := ⟨w.heap.size, 3, none⟩) hzs).trans s3, (b2.cell (p := ⟨b, off + j, none⟩) hbw).trans c0⟩) (fun hHeld => ?_)
   clear hK K
   try simp only [List.getElem_toArray, List.getElem_cons_zero, List.getElem_cons_succ, Act.put, List.setIfInBounds_toArray, List.set_cons_zero, List.set_cons_succ]
   refine tH 7 (h := ?_)
   refine tH 8 (h := ?_)
   refine tH 9 (h := ?_)
   refine tH 10 (h := ?_)
   refine tH 11 (h := ?_)
   refine wpAnyH_done (by kernel_rfl) ?_ _
   refine NoPanic.normal ?_
   have HM2 := Lib.hid (HM.out.below b2)
   clear hHeld s0 s1 s2 s3 c0 b2 HM hbw hzs hb
   by_cases he : er = 0
   ·subst he
    have HT3 := Lib.hid (show makeA s (j + 1) (C ++ [y]) (raws.drop (j + 1)) = makeA s 0 [] raws by rw [← HT2.out, if_pos rfl])
    clear HT2
    obtain ⟨r0, r1, r2⟩ := cells3 HM2.out.r
    have f2 := frozen_of_row _ _ 2 _ _ HM2.out.r
    have hrz := HM2.out.lt2
    have hone : ∀ u ∈ (#[strV y] : Array Value).toList, u.oneCell' = true := by intro u hu; simp at hu; subst hu; rfl
    have hbase : w1.heap.size + 1 ≤ w2.heap.size := hrz
    have hown := HM2.out.own
    have HOwn := Lib.hid hown
    clear hown
    have hcl : C.length < 1099511627776 := by rw [HCl.out]; omega
    go_wp2_with (at_builtin; refine wpList_append_new rfl _ _ 28 rfl (w1.heap.size + 1) 9 1 16 (.string ⟨#[]⟩) Tryz.underlying28 infoS rfl (by decide) (by decide) _ _ _ rfl HOwn.out #[strV y] 1 rfl rfl hone hcl hbase ?_; intro v2 w8 ho8 hw8; obtain ⟨av2, cv2, rfl⟩ := own_slice ho8; have hr8 := (hw8 w2 (Below.refl _ _)).block w1.heap.size (Nat.lt_succ_self _) |>.trans HM2.out.r; obtain ⟨q0, q1, q2⟩ := cells3 hr8; have g2 := frozen_of_row _ _ 2 _ _ hr8; have y8 := lt_of_blk hr8)
    have HW8 := Lib.hid (hw8 w2 (Below.refl _ _)); have HO8 := Lib.hid ho8; have HR8 := Lib.hid hr8
    clear hw8 ho8 hr8
    have hlt := HM2.out.lt
    go_roundw
    case rel =>
     refine ⟨j + 1, .slice av2 (C.length + 1) cv2, C ++ [y], by go_num, by omega, by rw [List.length_append, HCl.out]; rfl, HT3, ?_⟩
     refine ⟨blk_far ((HW8.out.block w.heap.size (by omega)).trans HM2.out.s) (by show w.heap.size ≠ w1.heap.size; omega), blk_far ((HW8.out.block (w.heap.size + 1) (by omega)).trans HM2.out.z) (by show w.heap.size + 1 ≠ w1.heap.size; omega), blk_set (i := 2) HR8.out, ?_, ?_, hlt, by simpa [World.setCell] using y8⟩
     ·rw [List.length_append, List.flatMap_append]
      exact own_same HO8.out fun g h1 h2 => heap_setCell_other _ _ _ _ (by show g ≠ w1.heap.size; omega)
     ·exact (HM2.out.b.trans (HW8.out.mono (by omega))).setCell (p := ⟨w1.heap.size, 2, none⟩) (by show w.heap.size ≤ w1.heap.size; omega) _
    case measure => simp [intOf]; omega
   ·have hne2 : (er != 0) = true := by simpa using he
    have hR : R = (noRec, er) := by rw [HMK.out, ← HT2.out, if_neg he, if_neg he]
    have HRR := Lib.hid hR
    obtain ⟨z0, z1, z2⟩ := cells3 HM2.out.z
    have f0 := frozen_of_row _ _ 0 _ _ HM2.out.z; have f1 := frozen_of_row _ _ 1 _ _ HM2.out.z; have f2 := frozen_of_row _ _ 2 _ _ HM2.out.z
    have yz := lt_of_blk HM2.out.z
    clear hR he HT2
    go_wp2_with fail
    rw [HRR.out]
    exact bodyPost_row2 rfl rfl (blk_set (i := 2) (v := .slice none 0 0) (blk_set (i := 1) (v := .int .i64 0) (blk_set (i := 0) (v := .int .i64 0) HM2.out.z))) Tryz.underlying44 rfl (by kernel_rfl)
     ⟨_, rfl, ⟨_, rfl, Vec.nil _ _ _ _⟩, ((HM2.out.b.setCell (p := ⟨w.heap.size + 1, 0, none⟩) (Nat.le_succ _) _).setCell (p := ⟨w.heap.size + 1, 1, none⟩) (Nat.le_succ _) _).setCell (p := ⟨w.heap.size + 1, 2, none⟩) (Nat.le_succ _) _⟩
  ·have hq : decide ((j : Int) < raws.length) = false := by simp; omega
   obtain rfl : j = raws.length := by omega
   have hT := HT.out
   rw [List.drop_length, makeA] at hT
   have hR : R = (⟨id, ver, C⟩, 0) := by rw [HMK.out, ← hT, if_pos rfl]
   have HRR := Lib.hid hR
   have hlt := HM.out.lt
   obtain ⟨z0, z1, z2⟩ := cells3 HM.out.z
   obtain ⟨r0, r1, r2⟩ := cells3 HM.out.r
   have f0 := frozen_of_row _ _ 0 _ _ HM.out.z; have f1 := frozen_of_row _ _ 1 _ _ HM.out.z; have f2 := frozen_of_row _ _ 2 _ _ HM.out.z
   have yz := lt_of_blk HM.out.z
   obtain ⟨aC, cC, hvC⟩ := own_slice HM.out.own
   subst hvC
   clear hR hT HT s0 s1 s2 s3
   go_wp2_with fail
   rw [HRR.out]
   refine bodyPost_row2 rfl rfl (blk_set (i := 2) (v := .slice aC C.length cC) (blk_set (i := 1) (v := .int .i64 ver) (blk_set (i := 0) (v := .int .i64 id) HM.out.z))) Tryz.underlying44 rfl (by kernel_rfl)
    ⟨_, rfl, ⟨_, rfl, ?_⟩, ((HM.out.b.setCell (p := ⟨w.heap.size + 1, 0, none⟩) (Nat.le_succ _) _).setCell (p := ⟨w.heap.size + 1, 1, none⟩) (Nat.le_succ _) _).setCell (p := ⟨w.heap.size + 1, 2, none⟩) (Nat.le_succ _) _⟩
   have hown := own_same (w' := ((wr.setCell ⟨w.heap.size + 1, 0, none⟩ (.int .i64 id)).setCell ⟨w.heap.size + 1, 1, none⟩ (.int .i64 ver)).setCell ⟨w.heap.size + 1, 2, none⟩ (.slice aC C.length cC)) HM.out.own fun g h1 h2 => ((heap_setCell_other _ _ _ _ (by show g ≠ w.heap.size + 1; omega)).trans (heap_setCell_other _ _ _ _ (by show g ≠ w.heap.size + 1; omega))).trans (heap_setCell_other _ _ _ _ (by show g ≠ w.heap.size + 1; omega))
   exact Vec.owns (k := 1) (enc := encS) (fun _ => rfl) hown (fun b h1 _ => by show w.heap.size ≤ b; omega)
end
section
set_option maxRecDepth 100000
open Go.RowKit Cal
attribute [local go_sem] toList_mk mk_size str_append
theorem made_strs (m : Nat) : madeCells #[strV []] m = ((List.replicate m ([] : List UInt8)).flatMap encS).toArray := by
 have e : ((List.replicate m ([] : List UInt8)).flatMap encS) = List.replicate m (strV []) := by
  induction m with
  | zero => rfl
  | succ m ih => rw [List.replicate_succ, List.flatMap_cons, ih]; rfl
 rw [e]
 unfold madeCells
 apply Array.toList_inj.1
 rw [Array.toList_map, Array.toList_range]
 refine List.ext_getElem (by simp) fun i h1 h2 => ?_
 simp [Nat.mod_one]
theorem row_put (L : List (List UInt8)) (j : Nat) (y : List UInt8) : ((L.flatMap encS).toArray).setIfInBounds j (strV y) = ((L.set j y).flatMap encS).toArray := by
 rw [flat_set]; simp
/-- where Make stands: the schema's box, the result's, the record's, its values -/
structure PkAt (w : World) (g : Nat) (vf vt vn vs : Value) (id ver : Int) (n : Nat) (L : List (List UInt8)) (wr : World) : Prop where
 s : wr.heap[w.heap.size]? = some (.cells #[vf, vt, vn, vs] 33 (0, 0))
 z : wr.heap[w.heap.size + 1]? = some (.cells #[.int .i64 0, .int .i64 0, .slice none 0 0] 44 (0, 0))
 row : wr.heap[g]? = some (.cells (L.flatMap encS).toArray 9 (0, 0))
 r : wr.heap[g + 1]? = some (.cells #[.int .i64 id, .int .i64 ver, .slice (some ⟨g, 0, none⟩) n n] 44 (0, 0))
 b : Below w.heap.size w wr
 lt : w.heap.size + 1 < g
theorem PkAt.below {w : World} {g : Nat} {vf vt vn vs : Value} {id ver : Int} {n : Nat} {L : List (List UInt8)} {wr wx : World} (h : PkAt w g vf vt vn vs id ver n L wr) (hb : Below wr.heap.size wr wx) : PkAt w g vf vt vn vs id ver n L wx :=
 ⟨blk_below hb (lt_of_blk h.s) h.s, blk_below hb (lt_of_blk h.z) h.z, blk_below hb (lt_of_blk h.row) h.row, blk_below hb (lt_of_blk h.r) h.r, h.b.trans (hb.mono h.b.size), h.lt⟩
theorem fill_set {C : List (List UInt8)} {j n : Nat} (hC : C.length = j) (hj : j < n) (y : List UInt8) : (C ++ List.replicate (n - j) []).set j y = (C ++ [y]) ++ List.replicate (n - (j + 1)) [] := by
 subst hC
 rw [List.set_append_right _ _ (Nat.le_refl _), Nat.sub_self, show n - C.length = (n - (C.length + 1)) + 1 by omega, List.replicate_succ, List.set_cons_zero]
 simp
set_option maxHeartbeats 8000000 in
theorem pmake_yes (S T : Nat → Prop) (vf vt vn vs : Value) (s : SchemaL) (id ver : Int) (raws : List (List UInt8)) (rv : Value) (w : World) (h : SchemaAt w S vf vt vn vs s) (hv : Vec w T 1 encS rv raws) (hc : checkS s = 0) (hl : raws.length = s.fields.length) (hn : numberedB id ver = true) (hs : ∀ x ∈ raws, x.length ≤ 1000000) :
  Calls Tryz.prog 23 #[.agg #[vf, vt, vn, vs], .int .i64 id, .int .i64 ver, rv] w (MakePost (makeN s id ver raws) w) := by
 have hmk := makeN_in hc hl hn
 obtain ⟨R, hR⟩ : ∃ R, makeN s id ver raws = R := ⟨_, rfl⟩
 rw [hR] at hmk ⊢
 have HMK := Lib.hid hmk
 clear hmk hR
 obtain ⟨a, cap, rfl⟩ := hv.slice
 obtain ⟨af, cf, rfl⟩ := h.1.slice
 have h5 : raws.length ≤ 5 := by have := (check_fields hc).1.2; omega
 have hne : ((raws.length : Int) != (s.fields.length : Int)) = false := by rw [hl]; simp
 have hmr := run_make_row' (P := Tryz.prog) 28 9 (.string ⟨#[]⟩) 16 Tryz.underlying28 infoS rfl .i64 .i64 raws.length (by omega) (by omega)
 rw [show (Value.string ⟨#[]⟩) = strV [] from rfl, made_strs] at hmr
 have HC := Lib.hid hc; have HV := Lib.hid hv.any; have HS := Lib.hid h.any; have HSh := Lib.hid hs; have HN := Lib.hid hn
 clear h hv hc hl hn hs
 go_enter Tryz.func23, Tryz.ntmps23
 go_wp2_with fail
 refine wp_calls_world (fun W hW => ?_)
 have hb0 : Below w.heap.size w W := by rw [hW]; exact ((Below.refl w.heap.size w).alloc (Nat.le_refl _) _).alloc (by simp) _
 have hs0 : W.heap[w.heap.size]? = some (.cells #[.slice af s.fields.length cf, vt, vn, vs] 33 (0, 0)) := by rw [hW]; exact blk_old (blk_new rfl)
 have hz0 : W.heap[w.heap.size + 1]? = some (.cells #[.int .i64 0, .int .i64 0, .slice none 0 0] 44 (0, 0)) := by rw [hW]; exact blk_new (by simp)
 clear hW
 refine (scheck_any Any1 _ _ _ _ s W (HS.out.below hb0)).mono ?_
 rw [HC.out]
 rintro e w1 ⟨rfl, hb⟩
 have hs1 := blk_below hb (lt_of_blk hs0) hs0; have hz1 := blk_below hb (lt_of_blk hz0) hz0
 have HB1 := Lib.hid (hb0.trans (hb.mono hb0.size)); have HS1 := Lib.hid hs1; have HZ1 := Lib.hid hz1
 obtain ⟨s0, s1, s2, s3⟩ := cellsS hs1
 have dz : ((0 : Int) != 0) = false := rfl
 clear hb hb0 hs0 hz0 hs1 hz1
 go_wp2_with fail
 refine (numbered_any _ _ _).mono ?_
 rw [HN.out]
 rintro e w2 ⟨rfl, rfl⟩
 go_wp2_with fail
 refine wp_world (fun W2 hW2 => ?_)
 have hm0 : PkAt w w1.heap.size (.slice af s.fields.length cf) vt vn vs id ver raws.length (List.replicate raws.length []) W2 := by
  rw [hW2]
  exact ⟨blk_old (blk_old HS1.out), blk_old (blk_old HZ1.out), blk_old (blk_new rfl), blk_new (by simp), (HB1.out.alloc HB1.out.size _).alloc (by have := HB1.out.size; simp; omega) _, lt_of_blk HZ1.out⟩
 have HM0 := Lib.hid hm0
 clear hW2 hm0 s0 s1 s2 s3 hmr
 go_loopw [12, 13, 14, 15, 44] (fun _ _ _ _ i wr => ∃ (j : Nat) (C : List (List UInt8)), i = .int .i64 j ∧ j ≤ raws.length ∧ C.length = j ∧ Hid (makeA s j C (raws.drop j) = makeA s 0 [] raws) ∧ PkAt w w1.heap.size (.slice af s.fields.length cf) vt vn vs id ver raws.length (C ++ List.replicate (raws.length - j) []) wr) (fun _ _ _ _ i _ => raws.length - (intOf i).toNat)
 case atStart => exact ⟨0, [], rfl, by omega, rfl, Lib.hid rfl, HM0.out⟩
 case round =>
  obtain ⟨j, C, rfl, hj, hCl, HT, hm⟩ := hrel
  have HM := Lib.hid hm; have HCl := Lib.hid hCl; clear hm hCl HM0
  obtain ⟨s0, s1, s2, s3⟩ := cellsS HM.out.s
  by_cases hlt : j < raws.length
  ·have hq : decide ((j : Int) < raws.length) = true := by simp; omega
   obtain ⟨x, hx⟩ : ∃ x, raws[j] = x := ⟨_, rfl⟩
   have hxl : x.length ≤ 1000000 := HSh.out x (by rw [← hx]; exact List.getElem_mem _)
   have hT := HT.out
   rw [List.drop_eq_getElem_cons hlt, hx, makeA] at hT
   obtain ⟨b, off, rfl, hb, hc⟩ := (HV.out.below HM.out.b).get j hlt
   have c0 := hc 0 _ rfl
   rw [Nat.mul_one, Nat.add_zero, hx] at c0
   obtain ⟨⟨y, er⟩, hp⟩ : ∃ p, valueN s j x = p := ⟨_, rfl⟩
   rw [hp] at hT
   dsimp only at hT
   have HT2 := Lib.hid hT; have HPv := Lib.hid hp
   clear hc hT hx HT hp
   go_wp2_with fail
   refine (value_any Any1 _ vt vn vs s j ⟨x.toArray⟩ _ (HS.out.below HM.out.b) (by rw [mk_size]; omega)).mono ?_
   rw [show (⟨x.toArray⟩ : ByteArray).data.toList = x by simp, HPv.out]
   unfold pairV
   rintro e w2 ⟨rfl, hb2⟩
   have HM2 := Lib.hid (HM.out.below hb2)
   clear hb2 s0 s1 s2 s3 c0 HM hb
   by_cases he : er = 0
   ·subst he
    have HT3 := Lib.hid (show makeA s (j + 1) (C ++ [y]) (raws.drop (j + 1)) = makeA s 0 [] raws by rw [← HT2.out, if_pos rfl])
    clear HT2
    obtain ⟨r0, r1, r2⟩ := cells3 HM2.out.r
    have lr := lt_of_blk HM2.out.r; have lg := lt_of_blk HM2.out.row
    have cg := HM2.out.row
    have hlen : ((C ++ List.replicate (raws.length - j) []).flatMap encS).length = raws.length := by
     have e : ∀ L : List (List UInt8), (L.flatMap encS).length = L.length := by
      intro L; induction L with
      | nil => rfl
      | cons a L ih => rw [List.flatMap_cons, List.length_append, ih]; simp [encS]; omega
     rw [e, List.length_append, List.length_replicate, HCl.out]; omega
    obtain ⟨cz, hcz⟩ : ∃ cz, w2.cell? ⟨w1.heap.size, j, none⟩ = some cz := by
     rw [cell_of_row _ _ j _ _ _ cg]; rw [List.getElem?_toArray]; exact ⟨_, List.getElem?_eq_getElem (by rw [hlen]; exact hlt)⟩
    have fz := frozen_of_row _ _ j _ _ cg
    have hji : (j : Int) < (raws.length : Int) := by omega
    go_wp2_with fail
    go_roundw
    case rel =>
     refine ⟨j + 1, C ++ [y], by go_num, by omega, by rw [List.length_append, HCl.out]; rfl, HT3, ?_⟩
     have hlt2 := HM2.out.lt
     refine ⟨blk_far HM2.out.s (by show w.heap.size ≠ w1.heap.size; omega), blk_far HM2.out.z (by show w.heap.size + 1 ≠ w1.heap.size; omega), ?_, blk_far HM2.out.r (by show w1.heap.size + 1 ≠ w1.heap.size; omega), HM2.out.b.setCell (p := ⟨w1.heap.size, j, none⟩) (by show w.heap.size ≤ w1.heap.size; omega) _, hlt2⟩
     have h := blk_set (i := j) (v := strV y) HM2.out.row
     rw [row_put, fill_set HCl.out hlt] at h
     exact h
    case measure => simp [intOf]; omega
   ·have hne2 : (er != 0) = true := by simpa using he
    have hR : R = (noRec, er) := by rw [HMK.out, ← HT2.out, if_neg he, if_neg he]
    have HRR := Lib.hid hR
    obtain ⟨z0, z1, z2⟩ := cells3 HM2.out.z
    have f0 := frozen_of_row _ _ 0 _ _ HM2.out.z; have f1 := frozen_of_row _ _ 1 _ _ HM2.out.z; have f2 := frozen_of_row _ _ 2 _ _ HM2.out.z
    have yz := lt_of_blk HM2.out.z
    clear hR he HT2
    go_wp2_with fail
    rw [HRR.out]
    exact bodyPost_row2 rfl rfl (blk_set (i := 2) (v := .slice none 0 0) (blk_set (i := 1) (v := .int .i64 0) (blk_set (i := 0) (v := .int .i64 0) HM2.out.z))) Tryz.underlying44 rfl (by kernel_rfl)
     ⟨_, rfl, ⟨_, rfl, Vec.nil _ _ _ _⟩, ((HM2.out.b.setCell (p := ⟨w.heap.size + 1, 0, none⟩) (Nat.le_succ _) _).setCell (p := ⟨w.heap.size + 1, 1, none⟩) (Nat.le_succ _) _).setCell (p := ⟨w.heap.size + 1, 2, none⟩) (Nat.le_succ _) _⟩
  ·have hq : decide ((j : Int) < raws.length) = false := by simp; omega
   obtain rfl : j = raws.length := by omega
   have hT := HT.out
   rw [List.drop_length, makeA] at hT
   have hR : R = (⟨id, ver, C⟩, 0) := by rw [HMK.out, ← hT, if_pos rfl]
   have HRR := Lib.hid hR
   have hlt := HM.out.lt
   obtain ⟨z0, z1, z2⟩ := cells3 HM.out.z
   obtain ⟨r0, r1, r2⟩ := cells3 HM.out.r
   have f0 := frozen_of_row _ _ 0 _ _ HM.out.z; have f1 := frozen_of_row _ _ 1 _ _ HM.out.z; have f2 := frozen_of_row _ _ 2 _ _ HM.out.z
   have yz := lt_of_blk HM.out.z
   have hrow := HM.out.row
   rw [Nat.sub_self, List.replicate_zero, List.append_nil] at hrow
   have HRow := Lib.hid hrow
   clear hR hT HT s0 s1 s2 s3 hrow
   go_wp2_with fail
   rw [HRR.out]
   refine bodyPost_row2 rfl rfl (blk_set (i := 2) (v := .slice (some ⟨w1.heap.size, 0, none⟩) raws.length raws.length) (blk_set (i := 1) (v := .int .i64 ver) (blk_set (i := 0) (v := .int .i64 id) HM.out.z))) Tryz.underlying44 rfl (by kernel_rfl)
    ⟨_, rfl, ⟨_, rfl, ?_⟩, ((HM.out.b.setCell (p := ⟨w.heap.size + 1, 0, none⟩) (Nat.le_succ _) _).setCell (p := ⟨w.heap.size + 1, 1, none⟩) (Nat.le_succ _) _).setCell (p := ⟨w.heap.size + 1, 2, none⟩) (Nat.le_succ _) _⟩
   have h := blk_far (blk_far (blk_far (a := ⟨w.heap.size + 1, 0, none⟩) (v := .int .i64 id) HRow.out (by show w1.heap.size ≠ w.heap.size + 1; omega)) (a := ⟨w.heap.size + 1, 1, none⟩) (v := .int .i64 ver) (by show w1.heap.size ≠ w.heap.size + 1; omega)) (a := ⟨w.heap.size + 1, 2, none⟩) (v := .slice (some ⟨w1.heap.size, 0, none⟩) raws.length raws.length) (by show w1.heap.size ≠ w.heap.size + 1; omega)
   exact blockVec (k := 1) (enc := encS) (L := C) (S := fun b => w.heap.size ≤ b) (A := w1.heap.size) (fun _ => rfl) h (by show w.heap.size ≤ w1.heap.size; omega) raws.length HCl.out.symm
end
section
open Go.RowKit
theorem getD_at {α : Type} (l : List α) (d : α) {i : Nat} (h : i < l.length) : l.getD i d = l[i] := by rw [List.getD, List.getElem?_eq_getElem h]; rfl
end
section
set_option maxRecDepth 100000
open Go.RowKit
structure RV where
 id : Int
 ver : Int
 a : Option Addr
 n : Nat
 c : Nat
 vals : List (List UInt8)
abbrev encRV (x : RV) : List Value := [.int .i64 x.id, .int .i64 x.ver, .slice x.a x.n x.c]
def pR (x : RV) : RecL := ⟨x.id, x.ver, x.vals⟩
/-- records in memory -/
def RecsVec (w : World) (S : Nat → Prop) (v : Value) (R : List RecL) : Prop := ∃ C : List RV, Vec w S 3 encRV v C ∧ C.map pR = R ∧ ∀ x ∈ C, Vec w S 1 encS (.slice x.a x.n x.c) x.vals
theorem RecsVec.move {w w' : World} {S T : Nat → Prop} {v : Value} {R : List RecL} (h : RecsVec w S v R) (hz : w.heap.size ≤ w'.heap.size) (hS : ∀ x, x < w.heap.size → S x → w'.heap[x]? = w.heap[x]? ∧ T x) : RecsVec w' T v R := by
 obtain ⟨C, h1, h2, h3⟩ := h
 exact ⟨C, h1.move hz hS, h2, fun x hx => (h3 x hx).move hz hS⟩
theorem RecsVec.below {w w' : World} {S : Nat → Prop} {v : Value} {R : List RecL} (h : RecsVec w S v R) (hb : Below w.heap.size w w') : RecsVec w' S v R := h.move hb.size fun x hx hs => ⟨hb.block x hx, hs⟩
theorem RecsVec.any {w : World} {S : Nat → Prop} {v : Value} {R : List RecL} (h : RecsVec w S v R) : RecsVec w Any1 v R := h.move (Nat.le_refl _) fun x hx hs => ⟨rfl, trivial⟩
theorem RecsVec.slice {w : World} {S : Nat → Prop} {v : Value} {R : List RecL} (h : RecsVec w S v R) : ∃ a cap, v = .slice a R.length cap := by
 obtain ⟨C, h1, h2, _⟩ := h
 obtain ⟨a, cap, rfl⟩ := h1.slice
 exact ⟨a, cap, by rw [← h2, List.length_map]⟩
theorem RecsVec.at {w : World} {S : Nat → Prop} {a : Option Addr} {n cap : Nat} {R : List RecL} (h : RecsVec w S (.slice a n cap) R) (j : Nat) (hj : j < R.length) :
  ∃ (b off : Nat) (id ver : Int) (aa : Option Addr) (nn cc : Nat) (vals : List (List UInt8)), a = some ⟨b, off, none⟩ ∧ b < w.heap.size ∧ w.cell? ⟨b, off + j * 3, none⟩ = some (.int .i64 id) ∧ w.cell? ⟨b, off + j * 3 + 1, none⟩ = some (.int .i64 ver) ∧ w.cell? ⟨b, off + j * 3 + 2, none⟩ = some (.slice aa nn cc) ∧ R[j] = ⟨id, ver, vals⟩ ∧ Vec w S 1 encS (.slice aa nn cc) vals := by
 obtain ⟨C, h1, h2, h3⟩ := h
 have hj2 : j < C.length := by rw [← h2, List.length_map] at hj; exact hj
 obtain ⟨b, off, e, hb, hc⟩ := h1.get j hj2
 refine ⟨b, off, C[j].id, C[j].ver, C[j].a, C[j].n, C[j].c, C[j].vals, e, hb, hc 0 _ rfl, hc 1 _ rfl, hc 2 _ rfl, ?_, h3 _ (List.getElem_mem hj2)⟩
 subst h2
 rw [List.getElem_map]; rfl
/-- an ID that is not behind the one before -/
def notB : Option Int → Int → Bool
 | some q, x => decide (x ≤ q)
 | none, _ => false
/-- the first error of a list, behind a record with an ID -/
def allA (s : SchemaL) : Option Int → List RecL → Int
 | _, [] => 0
 | p, r :: R => if checkI s r = 0 then (if notB p r.id = true then 12 else allA s (some r.id) R) else checkI s r
theorem allA_cons (s : SchemaL) (p : Option Int) (r : RecL) (R : List RecL) : allA s p (r :: R) = if checkI s r = 0 then (if notB p r.id = true then 12 else allA s (some r.id) R) else checkI s r := rfl
def allN (s : SchemaL) (R : List RecL) : Int := if checkS s = 0 then (if R.length ≤ 64 then allA s none R else 1) else checkS s
def prevR (R : List RecL) (j : Nat) : Option Int := if j = 0 then none else some (R.getD (j - 1) noRec).id
set_option maxHeartbeats 4000000 in
theorem rall_any (S T : Nat → Prop) (vf vt vn vs rv : Value) (s : SchemaL) (R : List RecL) (w : World) (h : SchemaAt w S vf vt vn vs s) (hr : RecsVec w T rv R) (hl : ∀ r ∈ R, ∀ x ∈ r.vals, x.length ≤ 1000000) (hn : ∀ r ∈ R, r.vals.length ≤ 1000000) (hR : R.length ≤ 1000000) :
  Calls Tryz.prog 26 #[.agg #[vf, vt, vn, vs], rv] w fun e w' => e = .returned (.int .i64 (allN s R)) ∧ Below w.heap.size w w' := by
 obtain ⟨ar, cr, rfl⟩ := hr.slice
 have HS := Lib.hid h; have HR := Lib.hid hr.any; have HL := Lib.hid hl; have HN := Lib.hid hn
 obtain ⟨E, hE⟩ : ∃ E, allN s R = E := ⟨_, rfl⟩
 rw [hE]
 have HE := Lib.hid hE
 clear h hr hl hn hE
 go_enter Tryz.func26, Tryz.ntmps26
 go_wp2_with fail
 refine wp_calls_world (fun W hW => ?_)
 have hb0 : Below w.heap.size w W := by rw [hW]; exact (Below.refl w.heap.size w).alloc (Nat.le_refl _) _
 have hs0 : W.heap[w.heap.size]? = some (.cells #[vf, vt, vn, vs] 33 (0, 0)) := by rw [hW]; exact blk_new rfl
 clear hW
 refine (scheck_any S _ _ _ _ s W (HS.out.below hb0)).mono ?_
 rintro e w1 ⟨rfl, hb⟩
 have hs1 := blk_below hb (lt_of_blk hs0) hs0
 have HB1 := Lib.hid (hb0.trans (hb.mono hb0.size)); have HS1 := Lib.hid hs1
 clear hb hb0 hs0 hs1
 obtain ⟨c, hc⟩ : ∃ c, checkS s = c := ⟨_, rfl⟩
 rw [hc]
 by_cases hc0 : c = 0
 ·subst hc0
  have dz : ((0 : Int) != 0) = false := rfl
  by_cases h64 : R.length ≤ 64
  ·have d64 : decide ((64 : Int) < (R.length : Int)) = false := by simp; omega
   have HE2 := Lib.hid (show allA s none R = E by rw [← HE.out]; unfold allN; rw [if_pos hc, if_pos h64])
   clear hc HE
   go_wp2_with fail
   go_loopw [19] (fun t wr => ∃ j : Nat, t = .int .i64 j ∧ j ≤ R.length ∧ Hid (allA s (prevR R j) (R.drop j) = E) ∧ Below w1.heap.size w1 wr) (fun t _ => R.length - (intOf t).toNat)
   case atStart => exact ⟨0, rfl, by omega, HE2, Below.refl _ _⟩
   case round =>
    obtain ⟨j, rfl, hj, HT, hbw⟩ := hrel
    have HBW := Lib.hid hbw
    by_cases hlt : j < R.length
    ·have hq : decide ((j : Int) < (R.length : Int)) = true := by simp; omega
     have hji : (j : Int) < (R.length : Int) := by omega
     have hbw0 := HB1.out.trans (hbw.mono HB1.out.size)
     obtain ⟨b, off, id, ver, aa, nn, cc, vals, rfl, lb, c0, c1, c2, hRj, hvv⟩ := (HR.out.below hbw0).at j hlt
     obtain ⟨s0, s1, s2, s3⟩ := cellsS (blk_below hbw (lt_of_blk HS1.out) HS1.out)
     have lsr : w.heap.size < wr.heap.size := by have := lt_of_blk HS1.out; have := hbw.size; omega
     have hT := HT.out
     rw [List.drop_eq_getElem_cons hlt, allA_cons] at hT
     have hmem : R[j] ∈ R := List.getElem_mem hlt
     have HLv := Lib.hid (HL.out _ hmem); have HNv := HN.out _ hmem
     have HP := Lib.hid (show j ≠ 0 → ∃ pid : Int, prevR R j = some pid ∧ wr.cell? ⟨b, off + (j - 1) * 3, none⟩ = some (.int .i64 pid) from fun h0 => by
      obtain ⟨b', off', id', ver', aa', nn', cc', vals', he, _, d0, _, _, hR', _⟩ := (HR.out.below hbw0).at (j - 1) (by omega)
      cases he
      refine ⟨id', ?_, d0⟩
      unfold prevR
      rw [if_neg h0, getD_at _ _ (by omega), hR'])
     rw [hRj] at hT HLv HNv
     have HRJ := Lib.hid hRj; have HV := Lib.hid hvv; have HT2 := Lib.hid hT
     clear hT hmem hRj hvv HT hbw
     dsimp only at HLv HNv
     have hvl := HV.out.len.1
     subst hvl
     obtain ⟨ci, hci⟩ : ∃ ci, checkI s ⟨id, ver, vals⟩ = ci := ⟨_, rfl⟩
     go_wp2_with fail
     refine wp_calls_world (fun Wc hWc => ?_)
     have hbc : Below wr.heap.size wr Wc := by rw [hWc]; exact (Below.refl wr.heap.size wr).alloc (Nat.le_refl _) _
     have hy : Wc.heap[wr.heap.size]? = some (.cells #[.int .i64 id, .int .i64 ver, .slice aa vals.length cc] 44 (0, 0)) := by rw [hWc]; exact blk_new rfl
     clear hWc
     refine (rchk_any S _ _ _ _ s ⟨id, ver, vals⟩ _ Wc ((HS.out.below hbw0).below hbc) (HV.out.below hbc) HLv.out HNv).mono ?_
     rw [hci]
     rintro e w2 ⟨rfl, hb⟩
     have hbr := hbc.trans (hb.mono hbc.size)
     have hy2 := blk_below hb (lt_of_blk hy) hy
     have HB2 := Lib.hid (HBW.out.trans (hbr.mono HBW.out.size))
     obtain ⟨r0, r1, r2⟩ := cells3 hy2
     have ly := lt_of_blk hy2
     have HBR := Lib.hid hbr
     clear hb hbc hy hy2 hbr s0 s1 s2 s3 c0 c1 c2
     by_cases hci0 : ci = 0
     ·subst hci0
      have hT3 := HT2.out
      rw [hci, if_pos rfl] at hT3
      have HT3 := Lib.hid hT3
      clear hT3 HT2 hci
      by_cases hj0 : j = 0
      ·have dj : decide (0 < j) = false := by simp; omega
       have HT4 := Lib.hid (show allA s (prevR R (j + 1)) (R.drop (j + 1)) = E by
        have := HT3.out
        rw [show prevR R j = none by unfold prevR; rw [if_pos hj0]] at this
        rw [← this]
        unfold prevR
        rw [if_neg (by omega), show j + 1 - 1 = j by omega, getD_at _ _ hlt, HRJ.out]; rfl)
       clear HT3 HP
       go_upto_region 12 with fail
       refine wp_region_noPanic ?_
       refine wp_region_held_drew (S := (fun w' => True)) (by kernel_rfl) (trivial) (fun hHeld => ?_)
       refine tH 0 (h := ?_)
       refine tH 1 (h := ?_)
       refine tH 2 (h := ?_)
       refine sH 3 (h := ?_)
       refine sH 4 (h := ?_)
       refine sH 5 (h := ?_)
       refine sH 6 (h := ?_)
       refine sH 7 (h := ?_)
       refine sH 8 (h := ?_)
       refine sH 9 (h := ?_)
       refine sH 10 (h := ?_)
       refine sH 11 (h := ?_)
       refine tH 12 (h := ?_)
       refine wpAnyH_done (by kernel_rfl) ?_ _
       refine NoPanic.normal ?_
       go_wp2_with fail
       go_roundw
       case rel => exact ⟨j + 1, by go_num, by omega, HT4, HB2.out.drew⟩
       case measure => simp [intOf]; omega
      ·have dj : decide (0 < j) = true := by simp; omega
       obtain ⟨pid, hpr, hpc⟩ := HP.out hj0
       have hpc2 := (HBR.out.cell (p := ⟨b, off + (j - 1) * 3, none⟩) lb).trans hpc
       have hj1 : (j : Int) - 1 < (R.length : Int) := by omega
       have hj2 : (1 : Int) ≤ (j : Int) := by omega
       have hj3 : ((j : Int) - 1).toNat = j - 1 := by omega
       have hwr : IntKind.i64.wrap ((j : Int) - 1) = (j : Int) - 1 := by rw [IntKind.wrap_i64]; omega
       have hT4 := HT3.out
       rw [hpr] at hT4
       clear HP hpc HT3
       by_cases hle : id ≤ pid
       ·have dle : decide (id ≤ pid) = true := by simpa using hle
        have hE12 : E = 12 := by rw [← hT4]; unfold notB; dsimp only; rw [if_pos dle]
        subst hE12
        clear hT4
        go_upto_region 12 with fail
        refine wp_region_noPanic ?_
        refine wp_region_held_drew (S := (fun w' => w'.cell? ⟨b, off + (j - 1) * 3, none⟩ = some (.int .i64 pid) ∧ w'.cell? ⟨wr.heap.size, 0, none⟩ = some (.int .i64 id))) (by kernel_rfl) (⟨hpc2, r0⟩) (fun hHeld => ?_)
        refine tH 0 (h := ?_)
        refine tH 1 (h := ?_)
        refine tH 2 (h := ?_)
        refine tH 3 (h := ?_)
        refine tH 4 (h := ?_)
        refine tH 5 (h := ?_)
        refine tH 6 (h := ?_)
        refine tH 7 (h := ?_)
        refine tH 8 (h := ?_)
        refine tH 9 (h := ?_)
        refine tH 10 (h := ?_)
        refine tH 11 (h := ?_)
        refine tH 12 (h := ?_)
        refine wpAnyH_done (by kernel_rfl) ?_ _
        refine NoPanic.normal ?_
        go_wp2_with fail
        go_ret
        exact ⟨rfl, HB1.out.trans (HB2.out.drew.mono HB1.out.size)⟩
       ·have dle : decide (id ≤ pid) = false := by simpa using hle
        have HT5 := Lib.hid (show allA s (prevR R (j + 1)) (R.drop (j + 1)) = E by
         rw [← hT4]
         unfold notB; dsimp only
         rw [if_neg (by rw [dle]; decide)]
         unfold prevR
         rw [if_neg (by omega), show j + 1 - 1 = j by omega, getD_at _ _ hlt, HRJ.out])
        clear hT4
        go_upto_region 12 with fail
        refine wp_region_noPanic ?_
        refine wp_region_held_drew (S := (fun w' => w'.cell? ⟨b, off + (j - 1) * 3, none⟩ = some (.int .i64 pid) ∧ w'.cell? ⟨wr.heap.size, 0, none⟩ = some (.int .i64 id))) (by kernel_rfl) (⟨hpc2, r0⟩) (fun hHeld => ?_)
        refine tH 0 (h := ?_)
        refine tH 1 (h := ?_)
        refine tH 2 (h := ?_)
        refine tH 3 (h := ?_)
        refine tH 4 (h := ?_)
        refine tH 5 (h := ?_)
        refine tH 6 (h := ?_)
        refine tH 7 (h := ?_)
        refine tH 8 (h := ?_)
        refine tH 9 (h := ?_)
        refine tH 10 (h := ?_)
        refine tH 11 (h := ?_)
        refine tH 12 (h := ?_)
        refine wpAnyH_done (by kernel_rfl) ?_ _
        refine NoPanic.normal ?_
        go_wp2_with fail
        go_roundw
        case rel => exact ⟨j + 1, by go_num, by omega, HT5, HB2.out.drew⟩
        case measure => simp [intOf]; omega
     ·have hE3 : E = ci := by rw [← HT2.out, hci, if_neg hci0]
      have dne : (ci != (0 : Int)) = true := by simpa using hci0
      subst hE3
      clear HT2 hci HE2 HP
      go_wp2_with fail
      go_ret
      exact ⟨rfl, HB1.out.trans (HB2.out.mono HB1.out.size)⟩
    ·have hq : decide ((j : Int) < (R.length : Int)) = false := by simp; omega
     obtain rfl : j = R.length := by omega
     have hE0 : E = 0 := by rw [← HT.out, List.drop_length]; rfl
     subst hE0
     go_wp2_with fail
     go_ret
     exact ⟨rfl, HB1.out.trans (hbw.mono HB1.out.size)⟩
  ·have d64 : decide ((64 : Int) < (R.length : Int)) = true := decide_eq_true (by omega)
   have hE1 : E = 1 := by rw [← HE.out]; unfold allN; rw [if_pos hc, if_neg h64]
   subst hE1
   clear hc HE
   go_wp2_with fail
   go_ret
   exact ⟨rfl, HB1.out⟩
 ·have dne : (c != (0 : Int)) = true := by simpa using hc0
  have hE1 : E = c := by rw [← HE.out]; unfold allN; rw [hc, if_neg hc0]
  subst hE1
  clear HE
  go_wp2_with fail
  go_ret
  exact ⟨rfl, HB1.out⟩
end
section
set_option maxRecDepth 100000
open Go.RowKit
end
section
set_option maxRecDepth 100000
open Go.RowKit
attribute [local go_sem] toList_mk mk_size str_append
/-- a row that lies in a block of its own -/
theorem own_new {α : Type} {w0 w : World} {e : TypeId} {enc : α → List Value} {L : List α} {g size n : Nat} (hb : Below w0.heap.size w0 w) (hg : w0.heap.size ≤ g) (h : w.heap[g]? = some (.cells (L.flatMap enc).toArray e (0, 0))) (hl : (L.flatMap enc).length = L.length * size) (hm : L.length ≤ 1000000) (hn : n = L.length) :
  OwnV e size enc w0 (.slice (some ⟨g, 0, none⟩) n n) L w := by
 subst hn
 exact ⟨⟨hl, .inr ⟨g, L.length, _, rfl, hg, h, Nat.le_refl _, by unfold maxLen; omega, by simpa using hl, by rw [← hl]; show List.take _ (L.flatMap enc) = _; exact List.take_length⟩⟩, hb⟩
end
section
/-- the parts of a text between single bytes c; p is the part that has begun -/
def splC (c : UInt8) : List UInt8 → List UInt8 → List (List UInt8)
 | p, [] => [p]
 | p, x :: r => if x == c then p :: splC c [] r else splC c (p ++ [x]) r
theorem splC_ne (c : UInt8) (l : List UInt8) : ∀ p, splC c p l ≠ [] := by
 induction l with
 | nil => intro p; simp [splC]
 | cons x l ih => intro p; simp only [splC]; split <;> simp [ih]
theorem splC_run (c : UInt8) (t : List UInt8) (h : c ∉ t) : ∀ p r, splC c p (t ++ r) = splC c (p ++ t) r := by
 induction t with
 | nil => intro p r; simp
 | cons x t ih =>
  intro p r
  have hx : (x == c) = false := by
   have : c ≠ x := fun e => h (by simp [e])
   simpa using fun e => this e.symm
  rw [List.cons_append, splC, hx, if_neg (by simp), ih (fun hb => h (List.mem_cons_of_mem _ hb)), List.append_assoc]
  rfl
theorem splC_no (c : UInt8) (t : List UInt8) (h : c ∉ t) (p : List UInt8) : splC c p t = [p ++ t] := by
 have := splC_run c t h p []
 rw [List.append_nil] at this
 rw [this]; rfl
theorem splC_at (c : UInt8) (a b : List UInt8) (h : c ∉ a) (p : List UInt8) : splC c p (a ++ c :: b) = (p ++ a) :: splC c [] b := by
 rw [splC_run c a h]; simp [splC]
/-- where c stands first -/
theorem byte_cases (c : UInt8) (l : List UInt8) : c ∉ l ∨ ∃ a b, l = a ++ c :: b ∧ c ∉ a := by
 by_cases h : c ∈ l
 ·right
  induction l with
  | nil => simp at h
  | cons x l ih =>
   by_cases e : x = c
   ·exact ⟨[], l, by rw [e]; rfl, by simp⟩
   ·have h' : c ∈ l := by
     rcases List.mem_cons.1 h with h1 | h1
     ·exact absurd h1.symm e
     ·exact h1
    obtain ⟨a, b, e1, e2⟩ := ih h'
    exact ⟨x :: a, b, by rw [e1]; rfl, by
     intro hm
     rcases List.mem_cons.1 hm with h1 | h1
     ·exact e h1.symm
     ·exact e2 h1⟩
 ·exact .inl h
theorem index_not (c : UInt8) (l : List UInt8) (h : c ∉ l) : Lib.index l [c] = -1 := by
 induction l with
 | nil => rfl
 | cons x l ih =>
  have hx : c ≠ x := fun e => h (by simp [e])
  have h1 := ih fun hb => h (List.mem_cons_of_mem _ hb)
  unfold Lib.index
  rw [if_neg (by simp [List.isPrefixOf, hx]), if_pos (by rw [h1]; rfl)]
theorem index_at (c : UInt8) (a b : List UInt8) (h : c ∉ a) : Lib.index (a ++ c :: b) [c] = a.length := by
 induction a with
 | nil => simp [Lib.index, List.isPrefixOf]
 | cons x a ih =>
  have hx : c ≠ x := fun e => h (by simp [e])
  have h1 := ih fun hb => h (List.mem_cons_of_mem _ hb)
  rw [List.cons_append]
  unfold Lib.index
  rw [if_neg (by simp [List.isPrefixOf, hx]), h1, if_neg (by simp)]
  simp
theorem count_not (c : UInt8) (l : List UInt8) (h : c ∉ l) (f : Nat) : Lib.countFrom [c] f l = 0 := by
 cases f with
 | zero => rfl
 | succ f => unfold Lib.countFrom; rw [index_not c l h]; rfl
theorem count_at (c : UInt8) (a b : List UInt8) (h : c ∉ a) (f : Nat) : Lib.countFrom [c] (f + 1) (a ++ c :: b) = 1 + Lib.countFrom [c] f b := by
 rw [Lib.countFrom, index_at c a b h, if_neg (by simp)]
 congr 2
 simp
theorem splitK_spl (c : UInt8) : ∀ (n : Nat) (l : List UInt8), l.length ≤ n → ∀ f, l.length < f → Lib.splitK [c] 0 (Lib.countFrom [c] f l) l = splC c [] l ∧ Lib.countFrom [c] f l + 1 = (splC c [] l).length := by
 intro n
 induction n with
 | zero =>
  intro l hl f hf
  have : l = [] := List.length_eq_zero_iff.1 (by omega)
  subst this
  rw [count_not c [] (by simp)]
  exact ⟨rfl, rfl⟩
 | succ n ih =>
  intro l hl f hf
  rcases byte_cases c l with h | ⟨a, b, rfl, h⟩
  ·rw [count_not c l h, splC_no c l h]
   exact ⟨rfl, rfl⟩
  ·obtain ⟨g, rfl⟩ : ∃ g, f = g + 1 := ⟨f - 1, by omega⟩
   rw [List.length_append, List.length_cons] at hl hf
   obtain ⟨h1, h2⟩ := ih b (by omega) g (by omega)
   rw [count_at c a b h, splC_at c a b h, show 1 + Lib.countFrom [c] g b = Lib.countFrom [c] g b + 1 by omega]
   refine ⟨?_, by rw [List.length_cons, ← h2]⟩
   rw [Lib.splitK, index_at c a b h, if_neg (by simp)]
   rw [show (a ++ c :: b).take (((a.length : Int)).toNat + 0) = a by simp]
   rw [show (a ++ c :: b).drop (((a.length : Int)).toNat + [c].length) = b by simp]
   rw [h1]; rfl
/-- a text cut at its first byte c -/
theorem cut_not (c : UInt8) (l : List UInt8) (h : c ∉ l) : Lib.cut l [c] = (l, [], false) := by
 unfold Lib.cut; rw [index_not c l h]; rfl
theorem cut_at (c : UInt8) (a b : List UInt8) (h : c ∉ a) : Lib.cut (a ++ c :: b) [c] = (a, b, true) := by
 unfold Lib.cut
 rw [index_at c a b h, if_pos (by omega)]
 simp
end
section
def joinC (c : UInt8) : List (List UInt8) → List UInt8
 | [] => []
 | [a] => a
 | a :: b :: r => a ++ c :: joinC c (b :: r)
end
section
set_option maxRecDepth 100000
open Go.RowKit
theorem join_sep (c : UInt8) (L : List (List UInt8)) : Lib.join L [c] = joinC c L := by
 induction L with
 | nil => rfl
 | cons a L ih =>
  cases L with
  | nil => rw [Lib.join_one]; rfl
  | cons b L =>
   rw [Lib.join_cons] at *
   simp only [Lib.joinTail, List.map_cons, List.flatten_cons, joinC] at *
   rw [← ih]
   simp
theorem joinc_any (c : UInt8) (S : Nat → Prop) (v : Value) (L : List (List UInt8)) (w : World) (h : Vec w S 1 encS v L) (hn : L.length ≤ 1000000) (hj : (joinC c L).length ≤ 1000000000) :
  Calls Tryz.prog 67 #[v, strV [c]] w fun e w' => e = .returned (strV (joinC c L)) ∧ Below w.heap.size w w' := by
 obtain ⟨a, cap, rfl, hcap, h0⟩ := h
 have hjj : Lib.join ((L.map mkS).map (·.data.toList)) [c] = joinC c L := by
  rw [List.map_map, ← join_sep]; congr 1; conv => rhs; rw [← List.map_id L]
  exact List.map_congr_left fun x _ => by simp [mkS]
 by_cases hz : L = []
 ·subst hz
  exact (Tryz.strings_Join_none a cap ⟨#[c]⟩ w).mono fun e w' ⟨he, hw⟩ => ⟨he, by rw [hw]; exact Below.refl _ _⟩
 ·obtain ⟨b, off, rfl, _, hb, hc⟩ := h0 (List.length_pos_iff.2 hz)
  have := Tryz.strings_Join b off cap (L.map mkS) ⟨#[c]⟩ w (fun j x hx => by
   rw [List.getElem?_map] at hx
   obtain ⟨y, hy, rfl⟩ := Option.map_eq_some_iff.1 hx
   have := hc j y hy 0 _ rfl
   simpa [mkS] using this) hb (by simp; omega) (by simpa using hcap) (by rw [show (⟨#[c]⟩ : ByteArray).data.toList = [c] from rfl, hjj]; omega)
  rw [show (⟨#[c]⟩ : ByteArray).data.toList = [c] from rfl, hjj, List.length_map] at this
  exact this
end
section
set_option maxRecDepth 100000
open Go.RowKit
attribute [local go_sem] toList_mk mk_size
theorem encS_one : ∀ x : List UInt8, ∀ u ∈ encS x, u.oneCell' = true := by intro x u hu; simp [encS] at hu; subst hu; rfl
end
section
set_option maxRecDepth 100000
open Go.RowKit Cal
attribute [local go_sem] toList_mk mk_size str_append
theorem joinC_len (c : UInt8) (m : Nat) : ∀ (L : List (List UInt8)), (∀ x ∈ L, x.length ≤ m) → (joinC c L).length ≤ L.length * (m + 1)
 | [], _ => by simp [joinC]
 | [a], h => by have := h a (by simp); simp [joinC]; omega
 | a :: b :: r, h => by
  have h1 := h a (by simp)
  have h2 := joinC_len c m (b :: r) (fun x hx => h x (List.mem_cons_of_mem _ hx))
  simp only [joinC, List.length_append, List.length_cons] at *
  rw [Nat.add_mul, Nat.one_mul]
  omega
/-- strconv.Itoa at a number spells these digits -/
def Spells (n : Int) (x : List UInt8) : Prop := x.length ≤ 20 ∧ ∀ w, Calls Tryz.prog 39 #[.int .i64 n] w fun e w' => e = .returned (strV x) ∧ Below w.heap.size w w'
theorem spells_small (i : Nat) (h : i < 100) : Spells i (Lib.decDigits i) := ⟨by have := digs_len i h; omega, fun w => (Tryz.strconv_Itoa_small i h w).mono (by rintro e w' ⟨rfl, rfl⟩; exact ⟨rfl, Below.refl _ _⟩)⟩
set_option maxHeartbeats 4000000 in
theorem rline_yes (S : Nat → Prop) (r : RecL) (sv : Value) (x y : List UInt8) (w : World) (hv : Vec w S 1 encS sv r.vals) (hx : Spells r.id x) (hy : Spells r.ver y) (hs : ∀ t ∈ r.vals, t.length ≤ 1000) (hn : r.vals.length ≤ 1000) :
  Calls Tryz.prog 37 #[.agg #[.int .i64 r.id, .int .i64 r.ver, sv]] w fun e w' => e = .returned (strV (joinC 9 (x :: y :: r.vals))) ∧ Below w.heap.size w w' := by
 obtain ⟨a, cap, rfl⟩ := hv.slice
 obtain ⟨id, ver, vals⟩ := r
 dsimp only at hv hx hy hs hn ⊢
 have hjl : (joinC 9 (x :: y :: vals)).length ≤ 1000000000 := by
  have := joinC_len 9 1000 (x :: y :: vals) (fun t ht => by
   rcases List.mem_cons.1 ht with rfl | h
   ·have := hx.1; omega
   ·rcases List.mem_cons.1 h with rfl | h
    ·have := hy.1; omega
    ·exact hs t h)
  simp only [List.length_cons] at this
  omega
 have HV := Lib.hid hv.any; have HX := Lib.hid hx; have HY := Lib.hid hy; have HJ := Lib.hid hjl; have HN := Lib.hid hn
 clear hv hx hy hs hjl hn
 go_enter Tryz.func37, Tryz.ntmps37
 go_wp2_with fail
 refine wp_world (fun W hW => ?_)
 have hb0 : Below w.heap.size w W := by rw [hW]; exact (Below.refl w.heap.size w).alloc (Nat.le_refl _) _
 have hr0 : W.heap[w.heap.size]? = some (.cells #[.int .i64 id, .int .i64 ver, .slice a vals.length cap] 44 (0, 0)) := by rw [hW]; exact blk_new rfl
 clear hW
 obtain ⟨c0, c1, c2⟩ := cells3 hr0
 have lr := lt_of_blk hr0
 have HB0 := Lib.hid hb0
 clear hb0 hr0
 have bD : Below W.heap.size W W.drew := (Below.refl _ _).drew
 refine wp_region_noPanic ?_
 refine wp_region_k (by kernel_rfl) (fun w' => w'.cell? ⟨w.heap.size, 0, none⟩ = some (.int .i64 id) ∧ w'.cell? ⟨w.heap.size, 1, none⟩ = some (.int .i64 ver) ∧ w'.cell? ⟨w.heap.size, 2, none⟩ = some (.slice a vals.length cap)) 9 (⟨c0, c1, c2⟩) (fun hHeld => ?_)
 refine tK 0 (h := ?_)
 refine tK 1 (h := ?_)
 refine tK 3 (h := ?_)
 refine tK 4 (h := ?_)
 refine tK 7 (h := ?_)
 refine tK 8 (h := ?_)
 refine wpAnyK_ready (rs := [2]) (by kernel_rfl) (by simp) ?_
 refine AllReadyK.cons rfl (fun K hK => ?_) AllReadyK.nil
 go_simp
 refine (HX.out.2 _).mono ?_; rintro e w1 ⟨rfl, hb⟩; have b1 := bD.trans (hb.mono bD.size); clear hb
 refine shutK hK (⟨(b1.cell (p := ⟨w.heap.size, 0, none⟩) lr).trans c0, (b1.cell (p := ⟨w.heap.size, 1, none⟩) lr).trans c1, (b1.cell (p := ⟨w.heap.size, 2, none⟩) lr).trans c2⟩) (fun hHeld => ?_)
 clear hK K
 try simp only [List.getElem_toArray, List.getElem_cons_zero, List.getElem_cons_succ, Act.put, List.setIfInBounds_toArray, List.set_cons_zero, List.set_cons_succ]
 refine wpAnyK_ready (rs := [5]) (by kernel_rfl) (by simp) ?_
 refine AllReadyK.cons rfl (fun K hK => ?_) AllReadyK.nil
 go_simp
 refine (HY.out.2 _).mono ?_; rintro e w2 ⟨rfl, hb⟩; have b2 := b1.trans (hb.mono b1.size); clear hb
 refine shutK hK (⟨(b2.cell (p := ⟨w.heap.size, 0, none⟩) lr).trans c0, (b2.cell (p := ⟨w.heap.size, 1, none⟩) lr).trans c1, (b2.cell (p := ⟨w.heap.size, 2, none⟩) lr).trans c2⟩) (fun hHeld => ?_)
 clear hK K
 try simp only [List.getElem_toArray, List.getElem_cons_zero, List.getElem_cons_succ, Act.put, List.setIfInBounds_toArray, List.set_cons_zero, List.set_cons_succ]
 have b3 := b2.alloc b2.size (.cells ([x, y].flatMap encS).toArray 9)
 refine wpAnyK_ready (rs := [6]) (by kernel_rfl) (by simp) ?_
 refine AllReadyK.cons rfl (fun K hK => ?_) AllReadyK.nil
 go_simp
 skip
 refine shutK hK (⟨(b3.cell (p := ⟨w.heap.size, 0, none⟩) lr).trans c0, (b3.cell (p := ⟨w.heap.size, 1, none⟩) lr).trans c1, (b3.cell (p := ⟨w.heap.size, 2, none⟩) lr).trans c2⟩) (fun hHeld => ?_)
 clear hK K
 try simp only [List.getElem_toArray, List.getElem_cons_zero, List.getElem_cons_succ, Act.put, List.setIfInBounds_toArray, List.set_cons_zero, List.set_cons_succ]
 have ho : OwnV 9 1 encS w (.slice (some ⟨w2.heap.size, 0, none⟩) 2 2) [x, y] (w2.alloc (.cells ([x, y].flatMap encS).toArray 9)) := own_new (HB0.out.trans (b3.mono HB0.out.size)) (Nat.le_trans HB0.out.size b2.size) (blk_new rfl) rfl (by simp) rfl
 have hrd := Vec.reads (k := 1) (enc := encS) (fun _ => rfl) (HV.out.below (HB0.out.trans (b3.mono HB0.out.size)))
 have HO := Lib.hid ho; have HRd := Lib.hid hrd
 have hbd : ([x, y] : List (List UInt8)).length + vals.length ≤ 1000000000 := by have := HN.out; simp; omega
 clear ho hrd b1 b2 b3 bD
 refine wpAnyK_ready (rs := [9]) (by kernel_rfl) (by simp) ?_
 refine AllReadyK.cons rfl (fun K hK => ?_) AllReadyK.nil
 refine wp_append_v (.tmp 9) (.tmp 11) 28 (by rfl) 9 (.string ⟨#[]⟩) 1 16 encS (fun _ => rfl) encS_one Tryz.underlying28 infoS rfl (by decide) (by decide) (w0 := w) (v := .slice (some ⟨w2.heap.size, 0, none⟩) 2 2) (A := [x, y]) (B := vals) (by rfl) HO.out (by rfl) HRd.out hbd ?_; intro v5 w5 ho5 hk5 hz5
 refine shutK_off hK (by decide) ?_
 clear hK K
 try simp only [List.getElem_toArray, List.getElem_cons_zero, List.getElem_cons_succ, Act.put, List.setIfInBounds_toArray, List.set_cons_zero, List.set_cons_succ]
 have HO5 := Lib.hid ho5
 clear ho5 hk5 hz5
 refine wpAnyK_ready (rs := [10]) (by kernel_rfl) (by simp) ?_
 refine AllReadyK.cons rfl (fun K hK => ?_) AllReadyK.nil
 go_simp
 refine (joinc_any 9 _ v5 ([x, y] ++ vals) w5 (OwnV.vec (enc := encS) (fun _ => rfl) HO5.out) (by have := HN.out; simp; omega) HJ.out).mono ?_; rintro e w6 ⟨rfl, hb⟩; have HB6 := Lib.hid (HO5.out.2.trans (hb.mono HO5.out.2.size)); clear hb
 refine shutK_off hK (by decide) ?_
 clear hK K
 try simp only [List.getElem_toArray, List.getElem_cons_zero, List.getElem_cons_succ, Act.put, List.setIfInBounds_toArray, List.set_cons_zero, List.set_cons_succ]
 refine wpAnyK_ready (rs := [11]) (by kernel_rfl) (by simp) ?_
 refine AllReadyK.cons rfl (fun K hK => ?_) AllReadyK.nil
 go_simp
 skip
 refine shutK_off hK (by decide) ?_
 clear hK K
 try simp only [List.getElem_toArray, List.getElem_cons_zero, List.getElem_cons_succ, Act.put, List.setIfInBounds_toArray, List.set_cons_zero, List.set_cons_succ]
 refine wpAnyK_done (by kernel_rfl) ?_ _
 refine NoPanic.normal ?_
 go_wp2_with fail
 go_ret
 exact ⟨rfl, HB6.out⟩
set_option maxHeartbeats 4000000 in
/-- Line of a valid record -/
theorem rLine_yes (S : Nat → Prop) (vf vt vn vs : Value) (s : SchemaL) (r : RecL) (sv : Value) (x y : List UInt8) (w : World) (h : SchemaAt w S vf vt vn vs s) (hv : Vec w Any1 1 encS sv r.vals) (hc : checkN s r = 0) (hx : Spells r.id x) (hy : Spells r.ver y) (hs : ∀ t ∈ r.vals, t.length ≤ 1000) (hn : r.vals.length ≤ 1000) :
  Calls Tryz.prog 13 #[.agg #[vf, vt, vn, vs], .agg #[.int .i64 r.id, .int .i64 r.ver, sv]] w fun e w' => e = .returned (.tuple #[strV (joinC 9 (x :: y :: r.vals)), .int .i64 0]) ∧ Below w.heap.size w w' := by
 obtain ⟨a, cap, rfl⟩ := hv.slice
 have HV := Lib.hid hv; have HS := Lib.hid h; have HC := Lib.hid hc; have HX := Lib.hid hx; have HY := Lib.hid hy; have HSh := Lib.hid hs
 have dz : ((0 : Int) != 0) = false := rfl
 obtain ⟨id, ver, vals⟩ := r
 dsimp only at HV HX HY HSh hn ⊢
 clear hv h hc hx hy hs
 go_enter Tryz.func13, Tryz.ntmps13
 go_wp2_with fail
 refine wp_calls_world (fun W hW => ?_)
 have hb0 : Below w.heap.size w W := by rw [hW]; exact ((Below.refl w.heap.size w).alloc (Nat.le_refl _) _).alloc (by simp) _
 have hr0 : W.heap[w.heap.size + 1]? = some (.cells #[.int .i64 id, .int .i64 ver, .slice a vals.length cap] 44 (0, 0)) := by rw [hW]; exact blk_new (by simp)
 clear hW
 refine (rcheck_all S _ _ _ _ s ⟨id, ver, vals⟩ _ W (HS.out.below hb0) (HV.out.below hb0) (fun t ht => by have := HSh.out t ht; omega) (by show vals.length ≤ 1000000; omega)).mono ?_
 rw [HC.out]
 rintro e w1 ⟨rfl, hb⟩
 have hr1 := blk_below hb (lt_of_blk hr0) hr0
 have HB1 := Lib.hid (hb0.trans (hb.mono hb0.size))
 obtain ⟨r0, r1, r2⟩ := cells3 hr1
 clear hb hb0 hr0 hr1
 go_wp2_with fail
 refine (rline_yes Any1 ⟨id, ver, vals⟩ _ x y w1 (HV.out.below HB1.out) HX.out HY.out HSh.out hn).mono ?_
 rintro e w2 ⟨rfl, hb⟩
 have HB2 := Lib.hid (HB1.out.trans (hb.mono HB1.out.size))
 clear hb
 go_wp2_with fail
 go_ret2
 exact ⟨rfl, HB2.out⟩
set_option maxHeartbeats 4000000 in
/-- the file of no records -/
theorem rfile_none (S : Nat → Prop) (vf vt vn vs : Value) (s : SchemaL) (w : World) (h : SchemaAt w S vf vt vn vs s) (hc : checkS s = 0) :
  Calls Tryz.prog 10 #[.agg #[vf, vt, vn, vs], .slice none 0 0] w fun e w' => e = .returned (.tuple #[strV [101, 110, 100, 32, 48, 10], .int .i64 0]) ∧ Below w.heap.size w w' := by
 have h0 : allN s [] = 0 := by unfold allN; rw [if_pos hc]; rfl
 have hit := (spells_small 0 (by decide)).2
 rw [show Lib.decDigits 0 = [48] from by decide +kernel] at hit
 have HS := Lib.hid h; have HC := Lib.hid hc; have H0 := Lib.hid h0; have HI := Lib.hid hit
 have dz : ((0 : Int) != 0) = false := rfl
 clear h hc h0 hit
 go_enter Tryz.func10, Tryz.ntmps10
 go_wp2_with fail
 refine wp_calls_world (fun W hW => ?_)
 have hb0 : Below w.heap.size w W := by rw [hW]; exact (Below.refl w.heap.size w).alloc (Nat.le_refl _) _
 clear hW
 refine (rall_any S Any1 _ _ _ _ (.slice none 0 0) s [] W (HS.out.below hb0) ⟨[], Vec.nil _ _ _ _, rfl, fun x hx => by simp at hx⟩ (fun r hr => by simp at hr) (fun r hr => by simp at hr) (by simp)).mono ?_
 rw [H0.out]
 rintro e w1 ⟨rfl, hb⟩
 have HB1 := Lib.hid (hb0.trans (hb.mono hb0.size))
 clear hb hb0
 go_wp2_with fail
 refine wp_world (fun W2 hW2 => ?_)
 have hb2 : Below w1.heap.size w1 W2 := by rw [hW2]; exact (Below.refl w1.heap.size w1).alloc (Nat.le_refl _) _
 have hh2 : HoldsB w1.heap.size w1.heap.size [] W2 := by rw [hW2]; exact ⟨.inl ⟨Nat.le_refl _, _, blk_new rfl, ⟨rfl, .inl ⟨rfl, rfl⟩⟩, by simp [Value.ownBlock]⟩, by simp⟩
 have HH2 := Lib.hid hh2; have HB2 := Lib.hid (HB1.out.trans (hb2.mono HB1.out.size)); have HB12 := Lib.hid hb2
 clear hW2 hb2 hh2
 go_loopw [18] (fun i wr => i = .int .i64 0 ∧ wr = W2) (fun i _ => 0)
 case atStart => exact ⟨rfl, rfl⟩
 case round =>
  obtain ⟨rfl, rfl⟩ := hrel
  go_wp2_with fail
  refine (HI.out _).mono ?_
  rintro e w3 ⟨rfl, hb⟩
  have HH3 := Lib.hid (HH2.out.below hb); have HB3 := Lib.hid (HB12.out.trans (hb.mono HB12.out.size))
  clear hb
  go_wp2_with fail
  refine (wstr_k w1.heap.size w1.heap.size (Lib.byteCells []) ⟨([101, 110, 100, 32, 48, 10] : List UInt8).toArray⟩ _ HH3.out.1 (by rw [Lib.byteCells_length, mk_size]; simp) HH3.out.2).mono ?_
  rintro e w4 ⟨rfl, h4, hb4, hk4⟩
  rw [show Lib.strCells ⟨([101, 110, 100, 32, 48, 10] : List UInt8).toArray⟩ = Lib.byteCells [101, 110, 100, 32, 48, 10] from rfl, ← Lib.byteCells_append, List.nil_append] at h4
  have HB4 := Lib.hid (HB3.out.trans hb4)
  have H4 := Lib.hid h4
  have hz4 := Nat.le_trans HH3.out.2 hb4.size
  clear h4 hb4 hk4
  go_wp2_with fail
  refine (bstr_k w1.heap.size w1.heap.size _ _ (.inr H4.out) hz4).mono ?_
  rintro e w5 ⟨rfl, hb5⟩
  have HB5 := Lib.hid (HB1.out.trans ((HB4.out.trans hb5).mono HB1.out.size))
  clear hb5
  go_wp2_with fail
  go_ret2
  exact ⟨rfl, HB5.out⟩
end
section
set_option maxRecDepth 100000
open Go.RowKit
attribute [local go_sem] toList_mk mk_size
/-- the library's variable internal/bytealg.MaxLen holds some number -/
def MaxAt (w : World) : Prop := ∃ m : Int, w.cell? ⟨Tryz.laysM145_ren.g 1, 0, none⟩ = some (.int .i64 m)
theorem MaxAt.lt {w : World} (h : MaxAt w) : Tryz.laysM145_ren.g 1 < w.heap.size := by
 obtain ⟨m, hm⟩ := h; exact World.block_lt_of_cell? _ ⟨_, 0, none⟩ hm
theorem MaxAt.below {w w' : World} {B : Nat} (h : MaxAt w) (hb : Below B w w') (hB : Tryz.laysM145_ren.g 1 < B) : MaxAt w' := by
 obtain ⟨m, hm⟩ := h
 exact ⟨m, (hb.cell (p := ⟨_, 0, none⟩) hB).trans hm⟩
theorem MaxAt.old {w w' : World} (h : MaxAt w) (hb : Below w.heap.size w w') : MaxAt w' := h.below hb h.lt
theorem cut_any (c : UInt8) (l : List UInt8) (w : World) (hm : MaxAt w) (hl : l.length ≤ 4294967200) :
  Calls Tryz.prog 77 #[strV l, strV [c]] w fun e w' => e = .returned (.tuple #[strV (Lib.cut l [c]).1, strV (Lib.cut l [c]).2.1, .bool (Lib.cut l [c]).2.2]) ∧ Below w.heap.size w w' := by
 obtain ⟨m, hm⟩ := hm
 have h := Any.strings_Cut { Tryz.laysM145 with } ⟨l.toArray⟩ ⟨#[c]⟩ m w (by rw [mk_size]; omega) hm
 refine h.mono ?_
 rintro e w' ⟨rfl, n, rfl⟩
 exact ⟨rfl, below_drewN (Below.refl _ _) n⟩
theorem split_any (c : UInt8) (l : List UInt8) (w : World) (hm : MaxAt w) (hl : l.length ≤ 4294967200) :
  Calls Tryz.prog 81 #[strV l, strV [c]] w fun e w' => e = .returned (.slice (some ⟨w.heap.size, 0, none⟩) (splC c [] l).length (splC c [] l).length) ∧ RowB w' w.heap.size (splC c [] l) ∧ Below w.heap.size w w' := by
 obtain ⟨m, hm⟩ := hm
 have h := Any.strings_Split { Tryz.laysM146 with } Tryz.laysM146.i9 ⟨l.toArray⟩ ⟨#[c]⟩ m w (by rw [mk_size]; omega) hm (by simp [ByteArray.size])
 obtain ⟨k1, k2⟩ := splitK_spl c l.length l (Nat.le_refl _) (l.length + 1) (by omega)
 have hd := Lib.splitB_data ⟨#[c]⟩ 0 (Lib.countB ⟨l.toArray⟩ ⟨#[c]⟩) ⟨l.toArray⟩
 have hc : Lib.countB ⟨l.toArray⟩ ⟨#[c]⟩ = Lib.countFrom [c] (l.length + 1) l := by unfold Lib.countB Lib.count; rfl
 have hd2 : (Lib.splitB ⟨#[c]⟩ 0 (Lib.countB ⟨l.toArray⟩ ⟨#[c]⟩) ⟨l.toArray⟩).map (·.data.toList) = splC c [] l := by
  rw [hd, hc]; exact k1
 have hv : (Lib.splitB ⟨#[c]⟩ 0 (Lib.countB ⟨l.toArray⟩ ⟨#[c]⟩) ⟨l.toArray⟩).map Value.string = (splC c [] l).flatMap encS := by
  rw [← hd2]
  induction Lib.splitB ⟨#[c]⟩ 0 (Lib.countB ⟨l.toArray⟩ ⟨#[c]⟩) ⟨l.toArray⟩ with
  | nil => rfl
  | cons x L ih => rw [List.map_cons, List.map_cons, List.flatMap_cons, ih]; rfl
 refine h.mono ?_
 rintro e w' ⟨rfl, rfl⟩
 rw [hv, hc, k2]
 exact ⟨rfl, blk_new rfl, (Below.refl _ _).alloc (Nat.le_refl _) _⟩
end
section
open Go Go.RowKit
/-- the jump by which a round is left; none at all: a panic -/
def jumpOf : Exit → Option (Option Code)
 | .normal => some none
 | .ret => some (some .ret)
 | .exit id => some (some (.exit id))
 | .goto t => some (some (.goto t))
 | _ => none
/-- J bears what the iterator does beside the rounds: new blocks, walks, its own cell -/
def BearsBox {β : Type} (B bx : Nat) (J : β → World → Prop) : Prop := AbidesFrom B J ∧ ∀ s A v, J s A → J s (A.setCell ⟨bx, 0, none⟩ v)
/-- the iterator hands out the elements of L, one after the other, until a round says no -/
def SeqBox {α : Type} (F : Fence) (n : Nat) (P : Program) (g : Nat) (lb : Array Value) (encs : α → Array Value) (Kp : World → World → Prop) (bx : Nat) (L : List α) (w : World) : Prop :=
 ∀ (l : Nat) (J Jx : List α → World → Prop) (W : World), Below w.heap.size w W → BearsBox W.heap.size bx J → BearsBox W.heap.size bx Jx →
  (∀ pre x W1, J pre W1 → pre ++ [x] <+: L → YieldAt F (n - 1) P l (encs x) W1 fun e W' => (e = .returned (.bool true) ∧ J (pre ++ [x]) W' ∧ Kp W1 W') ∨ (e = .returned (.bool false) ∧ Jx (pre ++ [x]) W')) →
  J [] W → CallsIn F n P g (#[.func (.yield l) #[] #[]] ++ lb) W fun e W' => (∃ v, e = .returned v) ∧ (J L W' ∨ ∃ pre, pre <+: L ∧ Jx pre W')
/-- the loop's record and the block of what is put off -/
def BookAt (k : Nat) (r : LoopState → Option Code → Loop) (j : Option Code) (W : World) : Prop := W.heap[k + 1]? = some (.loop (r (if j.isNone then .ready else .done) j)) ∧ W.heap[k]? = some (.deferred (some []))
theorem BookAt.bears {k B bx : Nat} {r : LoopState → Option Code → Loop} {j : Option Code} {A C : World} {row : Option Nat} (h : BookAt k r j A) (hg : A.grownBy C row) (hr : ∀ x, row = some x → B ≤ x ∧ ∃ o : Obj, A.heap[x]? = some o ∧ o.isWalk = true) : BookAt k r j C :=
 ⟨(grownBy_keeps hg (fun x e => (hr x e).2) h.1 rfl).trans h.1, (grownBy_keeps hg (fun x e => (hr x e).2) h.2 rfl).trans h.2⟩
theorem BookAt.box {k bx : Nat} {r : LoopState → Option Code → Loop} {j : Option Code} {A : World} (h : BookAt k r j A) (hb : bx < k) (v : Value) : BookAt k r j (A.setCell ⟨bx, 0, none⟩ v) := by
 have key : ∀ x, x ≠ bx → (A.setCell ⟨bx, 0, none⟩ v).heap[x]? = A.heap[x]? := fun x hx => Below.heap_setCell _ _ _ x hx
 exact ⟨(key _ (by omega)).trans h.1, (key _ (by omega)).trans h.2⟩
/-- how a round of the body may end -/
def RoundEnds {α : Type} (Kp : World → World → Prop) (I : Option Code → List α → World → Prop) (xs : List α) (W : World) (e : Exit) (_ : Act) (W' : World) : Prop :=
 ∃ j, jumpOf e = some j ∧ KeepsOthers W W' ∧ (j = none → Kp W W') ∧ I j xs W'
theorem post_of_jump {P : Program} {l : Nat} {R : Ending → World → Prop} {e : Exit} {a : Act} {W : World} {j : Option Code} (hj : jumpOf e = some j) (h : ∃ v w', (Instr.endRound l j).run P W = .ok v w' ∧ R (.returned v) w') : roundPost P l R e a W := by
 cases e <;> simp only [jumpOf, Option.some.injEq] at hj <;> first | (subst hj; exact h) | (cases hj)
variable {F : Fence} {n : Nat} {P : Program}
theorem wpIn_range_box {α : Type} {g : Operand} {ps : Array Tmp} {assign body : Code} {Q : Exit → Act → World → Prop} {a : Act} {w : World}
    (hro : F.round = none) (h1 : 1 ≤ n) {gf : Nat} {lb : Array Value} (hg : a.eval g = .func (.func gf) #[] lb) (hF : F.fn gf) (eg : ∀ args w, (callFunc gf args).run P w = .ok (.enter gf args) w)
    {encs : α → Array Value} {Kp : World → World → Prop} {bx : Nat} {L : List α} (hseq : SeqBox F (n - 1) P gf lb encs Kp bx L w) (hbx : bx < w.heap.size)
    (hKt : ∀ {A B C : World}, Kp A B → Kp B C → Kp A C) (hKp : ∀ (W : World) (x : Nat) (o o' : Obj), w.heap.size ≤ x → W.heap[x]? = some o → o.isCells = false → o.isWalk = false → Kp W (W.putObj x o')) (hps : ∀ x, (encs x).size = ps.size)
    (I : Option Code → List α → World → Prop) (hI : ∀ j, OwnFrom w.heap.size (I j)) (hIb : ∀ j s A v, I j s A → I j s (A.setCell ⟨bx, 0, none⟩ v)) (h0 : I none [] w) (a₁ : α → Act)
    (hassign : ∀ (l : Nat) (x : α) (W : World) (K : Act → World → Prop), K (a₁ x) W →
      assign.wpIn (F.inRound l) (n - 1 - 1) P (Exit.then K (fun _ _ _ => False)) { tmps := (ps.zip (encs x)).foldl (fun t (p, v) => t.setIfInBounds p v) a.tmps, defers := [] } W)
    (hbody : ∀ (l : Nat) (pre : List α) (x : α) (W : World), I none pre W → pre ++ [x] <+: L → body.wpIn (F.inRound l) (n - 1 - 1) P (RoundEnds Kp I (pre ++ [x]) W) (a₁ x) W)
    (hdone : ∀ (D : Nat) (W : World), w.heap.size ≤ D → I none L W → W.heap[D]? = some (.deferred (some [])) → Q .normal { a with defers := { target := .collected D, args := #[] } :: a.defers } W)
    (hstop : ∀ (D : Nat) (c : Code) (pre : List α) (W : World), w.heap.size ≤ D → pre <+: L → I (some c) pre W → W.heap[D]? = some (.deferred (some [])) → c.wpIn F n P Q { a with defers := { target := .collected D, args := #[] } :: a.defers } W) :
    (Code.rangeFunc g ps assign body).wpIn F n P Q a w := by
  refine wpIn_rangeFunc fun fn hfn => ?_
  rw [hro]
  obtain ⟨k, hk⟩ : ∃ k, w.heap.size = k := ⟨_, rfl⟩
  rw [hk] at hbx hKp hI hdone hstop
  obtain ⟨r, hr⟩ : ∃ r : LoopState → Option Code → Loop, r = fun st pe => { state := st, pending := pe, fn, tmps := a.tmps, params := ps, assign, body, defers := k } := ⟨_, rfl⟩
  obtain ⟨V, hV⟩ : ∃ V, (w.alloc (.deferred (some []))).alloc (.loop (r .ready none)) = V := ⟨_, rfl⟩
  have hbV : Below w.heap.size w V := by rw [← hV]; exact ((Below.refl _ w).alloc (Nat.le_refl _) _).alloc (by simp) _
  have hBk : BookAt k r none V := by
    rw [← hV, ← hk]
    refine ⟨?_, (Below.heap_alloc _ _ _ (by simp)).trans (World.alloc_heap_new w _)⟩
    have h := World.alloc_heap_new (w.alloc (.deferred (some []))) (.loop (r .ready none))
    rw [World.size_alloc] at h
    exact h
  have hIV : I none [] V := by rw [← hV]; exact (hI none).alloc _ ((hI none).alloc _ h0)
  have hkV : k ≤ V.heap.size := by rw [← hk]; exact hbV.size
  have enter : (Instr.enterLoop fn a.tmps ps assign body none).run P w = .ok (k + 1, [{ target := .collected k, args := #[] }]) V := by
    rw [← hV, hr, ← hk]; exact run_enterLoop_outer _ _ _ _ _
  refine ⟨k + 1, [{ target := .collected k, args := #[] }], V, { target := .fn (.func gf) lb, args := #[.func (.yield (k + 1)) #[] #[]] }, V, gf, #[.func (.yield (k + 1)) #[] #[]] ++ lb, V, enter, ?_, ?_, ?_, fun _ => h1, ?_⟩
  · simp only [resolve, hg]; simp [go_sem]
  · intro f' hf'; simp [Target.leads] at hf'; subst hf'; exact hF
  · simp [invoke, go_sem, eg]
  have wk : ∀ {A : World} {row : Option Nat}, (∀ x, row = some x → V.heap.size ≤ x ∧ ∃ o : Obj, A.heap[x]? = some o ∧ o.isWalk = true) → ∀ x, row = some x → k ≤ x ∧ ∃ o : Obj, A.heap[x]? = some o ∧ o.isCells = false :=
    fun h x e => by obtain ⟨h1, o, h2, h3⟩ := h x e; exact ⟨Nat.le_trans hkV h1, o, h2, Obj.not_cells_of_walk h3⟩
  refine (hseq (k + 1) (fun pre W => I none pre W ∧ BookAt k r none W) (fun pre W => ∃ c, I (some c) pre W ∧ BookAt k r (some c) W) V hbV
    ⟨fun s A B row hs hg' hr' => ⟨hI none s A B row hs.1 hg' (wk hr'), hs.2.bears (bx := bx) hg' hr'⟩, fun s A v hs => ⟨hIb none s A v hs.1, hs.2.box hbx v⟩⟩
    ⟨fun s A B row ⟨c, hc, hb⟩ hg' hr' => ⟨c, hI _ s A B row hc hg' (wk hr'), hb.bears (bx := bx) hg' hr'⟩, fun s A v ⟨c, hc, hb⟩ => ⟨c, hIb _ s A v hc, hb.box hbx v⟩⟩ ?_ ⟨hIV, hBk⟩).mono ?_
  · rintro pre x W ⟨hi, hl, hd⟩ hpre
    have zW : k + 1 < W.heap.size := (Array.getElem?_eq_some_iff.1 hl).1
    have hy := run_yield (P := P) (args := encs x) hl (by rw [hr]; exact hps x)
    rw [hr] at hy
    refine ⟨fn, _, assign, body, hy, roundIn_of_wpIn hfn (hassign _ x W _ ⟨_, run_beginRound hl (by rw [hr]; rfl), ?_⟩)⟩
    obtain ⟨W2, hW2⟩ : ∃ W2, W.putObj (k + 1) (.loop { r .ready none with state := .busy }) = W2 := ⟨_, rfl⟩
    have h2 : W2.heap[k + 1]? = some (.loop { r .ready none with state := .busy }) := by rw [← hW2]; exact World.putObj_heap_same zW
    have d2 : W2.heap[k]? = some (.deferred (some [])) := by rw [← hW2]; exact (World.putObj_heap_other (by omega)).trans hd
    have i2 : I none pre W2 := by rw [← hW2]; exact (hI none).putObj _ hi (by omega) hl rfl
    have k2 : Kp W W2 := by rw [← hW2]; exact hKp _ _ _ _ (by omega) hl rfl rfl
    show body.wpIn (F.inRound (k + 1)) (n - 1 - 1) P _ (a₁ x) (W.putObj (k + 1) (.loop { r .ready none with state := .busy }))
    rw [hW2]
    refine wpIn_mono (hbody _ pre x _ i2 hpre) ?_
    rintro e a3 W3 ⟨j, hj, hk3, hp3, i3⟩
    have h3 := hk3.same _ _ h2 rfl
    have d3 := hk3.same _ _ d2 rfl
    have he := run_endRound (P := P) j h3
    refine post_of_jump hj ⟨_, _, he, ?_⟩
    have rec3 : ({ ({ r .ready none with state := .busy } : Loop) with state := if j.isNone then .ready else .done, pending := j } : Loop) = r (if j.isNone then .ready else .done) j := by rw [hr]
    rw [rec3]
    have bk : BookAt k r j (W3.putObj (k + 1) (.loop (r (if j.isNone then .ready else .done) j))) := ⟨World.putObj_heap_same (Array.getElem?_eq_some_iff.1 h3).1, (World.putObj_heap_other (by omega)).trans d3⟩
    have i4 : I j (pre ++ [x]) (W3.putObj (k + 1) (.loop (r (if j.isNone then .ready else .done) j))) := (hI j).putObj _ i3 (by omega) h3 rfl
    cases j with
    | none => exact .inl ⟨rfl, ⟨i4, bk⟩, hKt (hKt k2 (hp3 rfl)) (hKp _ _ _ _ (by omega) h3 rfl rfl)⟩
    | some c => exact .inr ⟨rfl, c, i4, bk⟩
  · rintro e W2 ⟨⟨v, rfl⟩, ⟨hi, hl, hd⟩ | ⟨pre, hpre, c, hi, hl, hd⟩⟩
    · have he := run_endLoop (P := P) hl (by rw [hr]; simp)
      exact ⟨none, _, by rw [he, hr], hdone k _ (Nat.le_refl _) ((hI none).putObj _ hi (by omega) hl rfl) ((World.putObj_heap_other (by omega)).trans hd)⟩
    · have he := run_endLoop (P := P) hl (by rw [hr]; simp)
      exact ⟨some c, _, by rw [he, hr], hstop k c pre _ (Nat.le_refl _) hpre ((hI _).putObj _ hi (by omega) hl rfl) ((World.putObj_heap_other (by omega)).trans hd)⟩
end
section
set_option maxRecDepth 100000
open Go.RowKit Go.Shelf
attribute [local go_sem] Oper.semAt_some
def rowsA : List UInt8 → List UInt8 → List (List UInt8 × List UInt8)
 | _, [] => []
 | p, c :: t => if c = 10 then (p, t) :: rowsA [] t else rowsA (p ++ [c]) t
theorem cell1R {w : World} {b : Nat} {x : Value} {t : TypeId} {fr : Nat × Nat} (h : w.heap[b]? = some (.cells #[x] t fr)) : w.cell? ⟨b, 0, none⟩ = some x := by rw [cell_of_row _ _ _ _ _ _ h]; rfl
/-- the rows of a text, each with what is behind it -/
def rowsL (t : List UInt8) : List (List UInt8 × List UInt8) := rowsA [] t
theorem rowsA_at : ∀ (a p b : List UInt8), (10 : UInt8) ∉ a → rowsA p (a ++ 10 :: b) = (p ++ a, b) :: rowsL b
 | [], p, b, _ => by simp [rowsA, rowsL]
 | c :: a, p, b, h => by
  have h1 : c ≠ 10 := fun e => h (by simp [e])
  rw [List.cons_append, rowsA, if_neg h1, rowsA_at a (p ++ [c]) b (fun e => h (List.mem_cons_of_mem _ e))]
  simp
theorem rowsA_no : ∀ (a p : List UInt8), (10 : UInt8) ∉ a → rowsA p a = []
 | [], p, _ => rfl
 | c :: a, p, h => by
  have h1 : c ≠ 10 := fun e => h (by simp [e])
  rw [rowsA, if_neg h1]
  exact rowsA_no a (p ++ [c]) (fun e => h (List.mem_cons_of_mem _ e))
theorem rowsL_at {a b : List UInt8} (h : (10 : UInt8) ∉ a) : rowsL (a ++ 10 :: b) = (a, b) :: rowsL b := by unfold rowsL; rw [rowsA_at a [] b h]; rfl
theorem rowsL_no {a : List UInt8} (h : (10 : UInt8) ∉ a) : rowsL a = [] := rowsA_no a [] h
/-- what a round must keep: the iterator's own cell, the library's variable -/
def KeepsRow (bx : Nat) (A B : World) : Prop := B.heap[bx]? = A.heap[bx]? ∧ (∀ m, A.cell? ⟨Tryz.laysM145_ren.g 1, 0, none⟩ = some m → B.cell? ⟨Tryz.laysM145_ren.g 1, 0, none⟩ = some m)
def encsR (p : List UInt8 × List UInt8) : Array Value := #[strV p.1, strV p.2]
def leftR (bx : Nat) (w : World) : Nat := match w.cell? ⟨bx, 0, none⟩ with
 | some (.string b) => b.size
 | _ => 0
theorem leftR_at {bx : Nat} {w : World} {b : List UInt8} {t : TypeId} {fr : Nat × Nat} (h : w.heap[bx]? = some (.cells #[strV b] t fr)) : leftR bx w = b.length := by
 unfold leftR; rw [cell1R h]; simp [strV, ByteArray.size]

theorem cell_far {w : World} {a : Addr} {v : Value} {b i : Nat} (h : b ≠ a.block) : (w.setCell a v).cell? ⟨b, i, none⟩ = w.cell? ⟨b, i, none⟩ := by
 unfold World.cell?
 rw [heap_setCell_other _ _ _ _ h]
set_option maxHeartbeats 4000000 in
theorem rows1_box (n : Nat) (hn : 1 ≤ n) (bx : Nat) (t : List UInt8) (w : World) (ht : t.length ≤ 4294967200) (hm : MaxAt w) (hx : w.heap[bx]? = some (.cells #[strV t] 9 (0, 0))) (hg : Tryz.laysM145_ren.g 1 ≠ bx) :
  SeqBox Fence.wide n Tryz.prog 76 #[.pointer (some ⟨bx, 0, none⟩)] encsR (KeepsRow bx) bx (rowsL t) w := by
 intro l J Jx W hW hJ hJx hY h0
 have hmW := hm.old hW
 have hxW := blk_below hW (lt_of_blk hx) hx
 have HJ := Lib.hid hJ; have HJx := Lib.hid hJx; have HM := Lib.hid hmW; have HX := Lib.hid hxW; have H0 := Lib.hid h0; have HY := Lib.hid hY
 clear hm hx hW hmW hxW hJ hJx h0 hY
 refine callsIn_of_wp Tryz.func76 rfl trivial ?_ rfl
 simp only [Tryz.ntmps76, List.size_toArray, List.length_cons, List.length_nil, Nat.reduceAdd, Nat.reduceSub, Array.replicate_succ, Array.replicate_zero, List.push_toArray, List.append_toArray, List.nil_append, List.cons_append]
 gi_wp2
 gi_loopw [3, 4, 5] (fun _ _ _ wr => ∃ pre rest, rowsL t = pre ++ rowsL rest ∧ rest.length ≤ 4294967200 ∧ wr.heap[bx]? = some (.cells #[strV rest] 9 (0, 0)) ∧ MaxAt wr ∧ J pre wr) (fun _ _ _ wr => leftR bx wr)
 case atStart => exact ⟨[], t, rfl, ht, HX.out, HM.out, H0.out⟩
 case round =>
  obtain ⟨pre, rest, hrows, hlen, hbox, hmax, hjs⟩ := hrel
  have hc0 : wr.cell? ⟨bx, 0, none⟩ = some (strV rest) := cell1R hbox
  have hf0 := frozen_of_row _ _ 0 _ _ hbox
  have lb := lt_of_blk hbox
  have hcut := cut_any 10 rest wr hmax hlen
  obtain ⟨T, hT⟩ : ∃ T, Lib.cut rest [10] = T := ⟨_, rfl⟩
  rw [hT] at hcut
  have HR := Lib.hid hrows; have HB := Lib.hid hbox; have HMx := Lib.hid hmax; have HJs := Lib.hid hjs; have HC := Lib.hid hcut; have HT := Lib.hid hT
  clear hrows hbox hmax hjs hcut hT
  rcases byte_cases 10 rest with hno | ⟨a, b, hab, ha⟩
  ·have e := HT.out
   rw [cut_not 10 rest hno] at e
   subst e
   gi_wp2
   refine ⟨trivial, (callsIn_wide.2 HC.out).mono ?_⟩
   rintro e w2 ⟨rfl, hb2⟩
   have HJ2 := Lib.hid (HJ.out.1 _ wr w2 none HJs.out (grown_below hb2) (fun r e => by cases e))
   clear hb2
   gi_wp2
   refine ⟨fun _ h => (by cases h), ?_⟩
   gi_wp2
   refine bodyPost_ret (results_none rfl _ _ _) rfl ?_
   exact ⟨⟨_, rfl⟩, .inl (by rw [HR.out, rowsL_no hno, List.append_nil]; exact HJ2.out)⟩
  ·subst hab
   have e := HT.out
   rw [cut_at 10 a b ha] at e
   subst e
   have hrow : rowsL t = pre ++ (a, b) :: rowsL b := by rw [HR.out, rowsL_at ha]
   have HRow := Lib.hid hrow
   clear hrow
   gi_wp2
   refine ⟨trivial, (callsIn_wide.2 HC.out).mono ?_⟩
   rintro e w2 ⟨rfl, hb2⟩
   have hb3 := blk_below hb2 lb HB.out
   have HM2 := Lib.hid (HMx.out.old hb2)
   have HB2 := Lib.hid hb3
   obtain ⟨fn, tmps, assign, body, hy, hR⟩ := HY.out pre (a, b) w2 (HJ.out.1 _ wr w2 none HJs.out (grown_below hb2) (fun r e => by cases e)) ⟨rowsL b, by rw [HRow.out]; simp⟩
   have hy : (Instr.yield l #[strV a, strV b]).run Tryz.prog w2 = .ok (.round l fn tmps assign body) w2 := hy
   have HRd := Lib.hid hR
   clear hR hb2 hb3 hc0 hf0
   gi_wp2
   refine HRd.out.mono ?_
   rintro e W3 (⟨rfl, hJ3, hk3⟩ | ⟨rfl, hJ3⟩)
   ·have hb4 := hk3.1.trans HB2.out
    have hc4 : W3.cell? ⟨bx, 0, none⟩ = some (strV (a ++ 10 :: b)) := cell1R hb4
    have hf4 := frozen_of_row _ _ 0 _ _ hb4
    have HM4 := Lib.hid (show MaxAt W3 by obtain ⟨m, hm⟩ := HM2.out; exact ⟨m, hk3.2 _ hm⟩)
    have HB4 := Lib.hid hb4; have HJ4 := Lib.hid hJ3
    clear hk3 hb4 hJ3
    gi_wp2
    go_roundw
    case rel =>
     refine ⟨pre ++ [(a, b)], b, by rw [HRow.out]; simp, by simp at hlen; omega, ?_, ?_, HJ.out.2 _ _ _ HJ4.out⟩
     ·exact blk_set (i := 0) (v := strV b) HB4.out
     ·obtain ⟨m, hm⟩ := HM4.out
      exact ⟨m, (cell_far (a := ⟨bx, 0, none⟩) hg).trans hm⟩
    case measure =>
     rw [leftR_at (blk_set (i := 0) (v := strV b) HB4.out), leftR_at HB.out]
     simp; omega
   ·have HJ4 := Lib.hid hJ3
    clear hJ3
    gi_wp2
    refine bodyPost_ret (results_none rfl _ _ _) rfl ?_
    exact ⟨⟨_, rfl⟩, .inr ⟨pre ++ [(a, b)], ⟨rowsL b, by rw [HRow.out]; simp⟩, HJ4.out⟩⟩
end
section
def hexD : List UInt8 := [48, 49, 50, 51, 52, 53, 54, 55, 56, 57, 97, 98, 99, 100, 101, 102]
def digH (n : Nat) : UInt8 := hexD.getD n 48
/-- the value of a digit -/
def valH (c : UInt8) : Option Nat := if 48 ≤ c.toNat ∧ c.toNat ≤ 57 then some (c.toNat - 48) else if 97 ≤ c.toNat ∧ c.toNat ≤ 102 then some (c.toNat - 87) else none
theorem valH_dig (n : Nat) (h : n < 16) : valH (digH n) = some n := by
 have : ∀ k : Fin 16, valH (digH k) = some k.val := by decide
 exact this ⟨n, h⟩
/-- the last k digits, the highest first -/
def hexN : Nat → Nat → List UInt8
 | 0, _ => []
 | k + 1, n => hexN k (n / 16) ++ [digH (n % 16)]
theorem hexN_len (k : Nat) : ∀ n, (hexN k n).length = k := by
 induction k with
 | zero => intro n; rfl
 | succ k ih => intro n; rw [hexN, List.length_append, ih]; rfl
theorem hexN_get (k : Nat) : ∀ n i, i < k → (hexN k n)[i]? = some (digH (n / 16 ^ (k - 1 - i) % 16)) := by
 induction k with
 | zero => intro n i h; omega
 | succ k ih =>
  intro n i h
  rw [hexN]
  by_cases hi : i < k
  ·rw [List.getElem?_append_left (by rw [hexN_len]; exact hi), ih _ _ hi, Nat.div_div_eq_div_mul, ← Nat.pow_succ']
   rw [show (k - 1 - i).succ = k + 1 - 1 - i by omega]
  ·have : i = k := by omega
   subst this
   rw [List.getElem?_append_right (by rw [hexN_len]; exact Nat.le_refl _), hexN_len, Nat.sub_self, show i + 1 - 1 - i = 0 by omega, Nat.pow_zero, Nat.div_one]
   rfl
end
end Go.Proofs.YthnfmolkppbbpaaGreatDoor
section
namespace Go.Proofs
open Go.Shelf
def Tryz.laysM171_ren : Go.Shelf.Ren := ⟨fun | 171 => 39 | 243 => 71 | 246 => 105 | 283 => 137 | 284 => 138 | 285 => 139 | 286 => 140 | 129 => 186 | 317 => 185 | 318 => 187 | 319 => 188 | 320 => 189 | 337 => 221 | 338 => 222 | n => n, fun | 3 => 3 | 9 => 9 | 2 => 2 | 4 => 4 | 171 => 155 | 0 => 0 | 53 => 63 | 37 => 69 | 5 => 5 | 173 => 158 | 212 => 187 | 51 => 164 | 20 => 20 | 213 => 188 | 46 => 87 | 232 => 227 | 233 => 228 | n => n, fun | 17 => 1 | 18 => 4 | 19 => 5 | n => n⟩
theorem Tryz.laysM171 : Go.Proofs.LaysM.n171 Tryz.prog Tryz.laysM171_ren := {
 mixed := by kernel_rfl
 f129 := Tryz.func186.trans (congrArg some (by kernel_rfl))
 f171 := Tryz.func39.trans (congrArg some (by kernel_rfl))
 f243 := Tryz.func71.trans (congrArg some (by kernel_rfl))
 f246 := Tryz.func105.trans (congrArg some (by kernel_rfl))
 f283 := Tryz.func137.trans (congrArg some (by kernel_rfl))
 f284 := Tryz.func138.trans (congrArg some (by kernel_rfl))
 f285 := Tryz.func139.trans (congrArg some (by kernel_rfl))
 f286 := Tryz.func140.trans (congrArg some (by kernel_rfl))
 f317 := Tryz.func185.trans (congrArg some (by kernel_rfl))
 f318 := Tryz.func187.trans (congrArg some (by kernel_rfl))
 f319 := Tryz.func188.trans (congrArg some (by kernel_rfl))
 f320 := Tryz.func189.trans (congrArg some (by kernel_rfl))
 f337 := Tryz.func221.trans (congrArg some (by kernel_rfl))
 f338 := Tryz.func222.trans (congrArg some (by kernel_rfl))
 t0 := Tryz.underlying0
 a0 := Tryz.isAgg0
 z0 := Tryz.sizeOf0
 v0 := Tryz.zeroValue0
 t2 := Tryz.underlying2
 a2 := Tryz.isAgg2
 z2 := Tryz.sizeOf2
 v2 := Tryz.zeroValue2
 t3 := Tryz.underlying3
 a3 := Tryz.isAgg3
 z3 := Tryz.sizeOf3
 v3 := Tryz.zeroValue3
 t4 := Tryz.underlying4
 a4 := Tryz.isAgg4
 z4 := Tryz.sizeOf4
 v4 := Tryz.zeroValue4
 t5 := Tryz.underlying5
 a5 := Tryz.isAgg5
 z5 := Tryz.sizeOf5
 v5 := Tryz.zeroValue5
 t9 := Tryz.underlying9
 a9 := Tryz.isAgg9
 z9 := Tryz.sizeOf9
 v9 := Tryz.zeroValue9
 t20 := Tryz.underlying20
 a20 := Tryz.isAgg20
 z20 := Tryz.sizeOf20
 v20 := Tryz.zeroValue20
 t37 := Tryz.underlying69
 a37 := Tryz.isAgg69
 z37 := Tryz.sizeOf69
 v37 := Tryz.zeroValue69
 t46 := Tryz.underlying87
 a46 := Tryz.isAgg87
 z46 := Tryz.sizeOf87
 v46 := Tryz.zeroValue87
 t51 := Tryz.underlying164
 a51 := Tryz.isAgg164
 z51 := Tryz.sizeOf164
 v51 := Tryz.zeroValue164
 t53 := Tryz.underlying63
 a53 := Tryz.isAgg63
 z53 := Tryz.sizeOf63
 v53 := Tryz.zeroValue63
 t171 := Tryz.underlying155
 a171 := Tryz.isAgg155
 z171 := Tryz.sizeOf155
 v171 := Tryz.zeroValue155
 t173 := Tryz.underlying158
 a173 := Tryz.isAgg158
 z173 := Tryz.sizeOf158
 v173 := Tryz.zeroValue158
 t212 := Tryz.underlying187
 a212 := Tryz.isAgg187
 z212 := Tryz.sizeOf187
 v212 := Tryz.zeroValue187
 t213 := Tryz.underlying188
 a213 := Tryz.isAgg188
 z213 := Tryz.sizeOf188
 t232 := Tryz.underlying227
 a232 := Tryz.isAgg227
 z232 := Tryz.sizeOf227
 v232 := Tryz.zeroValue227
 t233 := Tryz.underlying228
 a233 := Tryz.isAgg228
 z233 := Tryz.sizeOf228
 v233 := Tryz.zeroValue228
 g17 := by kernel_rfl
 g18 := by kernel_rfl
 g19 := by kernel_rfl
 i0 := by kernel_rfl
 i2 := by kernel_rfl
 i3 := by kernel_rfl
 i4 := by kernel_rfl
 i5 := by kernel_rfl
 i9 := by kernel_rfl
 i20 := by kernel_rfl
 i37 := by kernel_rfl
 i46 := by kernel_rfl
 i51 := by kernel_rfl
 i53 := by kernel_rfl
 i171 := by kernel_rfl
 i173 := by kernel_rfl
 i212 := by kernel_rfl
 i232 := by kernel_rfl
 i233 := by kernel_rfl
 m17 := by kernel_rfl
 m18 := by kernel_rfl
 m19 := by kernel_rfl }
open Go.RowKit Go.Sort Go.Lib in
/-- strconv.Itoa: "Itoa is equivalent to FormatInt(int64(i), 10).": i's DECIMAL NUMERAL ('Lib.itoa': a '-' where i is negative, then the digits), FOR EVERY int. The world behind the call: the world before it, new blocks behind the heap (the library's 'var a [24]byte'), draws. (LAID: no walk: one application.) -/
theorem Tryz.strconv_Itoa (n : Int) (h0 : -9223372036854775808 ≤ n) (h1 : n ≤ 9223372036854775807) (w : World) (htab : Lib.TabIs Tryz.prog w "internal/strconv.uint64pow10" .u64 Lib.pow10Tab) :
  Calls Tryz.prog 39 #[.int .i64 n] w fun e w' => e = .returned (.string ⟨(Lib.itoa n).toArray⟩) ∧ ∃ k os, w' = grow (w.drewN k) os := Any.strconv_Itoa Tryz.laysM171 n h0 h1 w htab
def Tryz.laysC172_ren : Go.Shelf.Ren := ⟨fun | 172 => 117 | 244 => 162 | 245 => 163 | 247 => 203 | 279 => 204 | 280 => 205 | 281 => 206 | 282 => 207 | 287 => 228 | 316 => 229 | 171 => 39 | 205 => 230 | 321 => 246 | 322 => 247 | 243 => 71 | 246 => 105 | 283 => 137 | 284 => 138 | 285 => 139 | 286 => 140 | 129 => 186 | 317 => 185 | 318 => 187 | 319 => 188 | 320 => 189 | 337 => 221 | 338 => 222 | n => n, fun | 9 => 9 | 3 => 3 | 75 => 73 | 76 => 74 | 4 => 4 | 5 => 5 | 167 => 197 | 37 => 69 | 0 => 0 | 85 => 198 | 2 => 2 | 168 => 200 | 53 => 63 | 175 => 208 | 46 => 87 | 210 => 211 | 127 => 110 | 145 => 236 | 143 => 234 | 21 => 21 | 171 => 155 | 173 => 158 | 212 => 187 | 51 => 164 | 20 => 20 | 213 => 188 | 232 => 227 | 233 => 228 | 80 => 78 | n => n, fun | 15 => 2 | 16 => 3 | 17 => 1 | 18 => 4 | 19 => 5 | n => n⟩
theorem Tryz.laysC172 : Go.Proofs.LaysC.n172 Tryz.prog Tryz.laysC172_ren := {
 mixed := by kernel_rfl
 f129 := Tryz.func186.trans (congrArg some (by kernel_rfl))
 f171 := Tryz.func39.trans (congrArg some (by kernel_rfl))
 f172 := Tryz.func117.trans (congrArg some (by kernel_rfl))
 f205 := Tryz.func230.trans (congrArg some (by kernel_rfl))
 f243 := Tryz.func71.trans (congrArg some (by kernel_rfl))
 f244 := Tryz.func162.trans (congrArg some (by kernel_rfl))
 f245 := Tryz.func163.trans (congrArg some (by kernel_rfl))
 f246 := Tryz.func105.trans (congrArg some (by kernel_rfl))
 f247 := Tryz.func203.trans (congrArg some (by kernel_rfl))
 f279 := Tryz.func204.trans (congrArg some (by kernel_rfl))
 f280 := Tryz.func205.trans (congrArg some (by kernel_rfl))
 f281 := Tryz.func206.trans (congrArg some (by kernel_rfl))
 f282 := Tryz.func207.trans (congrArg some (by kernel_rfl))
 f283 := Tryz.func137.trans (congrArg some (by kernel_rfl))
 f284 := Tryz.func138.trans (congrArg some (by kernel_rfl))
 f285 := Tryz.func139.trans (congrArg some (by kernel_rfl))
 f286 := Tryz.func140.trans (congrArg some (by kernel_rfl))
 f287 := Tryz.func228.trans (congrArg some (by kernel_rfl))
 f316 := Tryz.func229.trans (congrArg some (by kernel_rfl))
 f317 := Tryz.func185.trans (congrArg some (by kernel_rfl))
 f318 := Tryz.func187.trans (congrArg some (by kernel_rfl))
 f319 := Tryz.func188.trans (congrArg some (by kernel_rfl))
 f320 := Tryz.func189.trans (congrArg some (by kernel_rfl))
 f321 := Tryz.func246.trans (congrArg some (by kernel_rfl))
 f322 := Tryz.func247.trans (congrArg some (by kernel_rfl))
 f337 := Tryz.func221.trans (congrArg some (by kernel_rfl))
 f338 := Tryz.func222.trans (congrArg some (by kernel_rfl))
 t0 := Tryz.underlying0
 a0 := Tryz.isAgg0
 z0 := Tryz.sizeOf0
 v0 := Tryz.zeroValue0
 t2 := Tryz.underlying2
 a2 := Tryz.isAgg2
 z2 := Tryz.sizeOf2
 v2 := Tryz.zeroValue2
 t3 := Tryz.underlying3
 a3 := Tryz.isAgg3
 z3 := Tryz.sizeOf3
 v3 := Tryz.zeroValue3
 t4 := Tryz.underlying4
 a4 := Tryz.isAgg4
 z4 := Tryz.sizeOf4
 v4 := Tryz.zeroValue4
 t5 := Tryz.underlying5
 a5 := Tryz.isAgg5
 z5 := Tryz.sizeOf5
 v5 := Tryz.zeroValue5
 t9 := Tryz.underlying9
 a9 := Tryz.isAgg9
 z9 := Tryz.sizeOf9
 v9 := Tryz.zeroValue9
 t20 := Tryz.underlying20
 a20 := Tryz.isAgg20
 z20 := Tryz.sizeOf20
 v20 := Tryz.zeroValue20
 t21 := Tryz.underlying21
 a21 := Tryz.isAgg21
 z21 := Tryz.sizeOf21
 v21 := Tryz.zeroValue21
 t37 := Tryz.underlying69
 a37 := Tryz.isAgg69
 z37 := Tryz.sizeOf69
 v37 := Tryz.zeroValue69
 t46 := Tryz.underlying87
 a46 := Tryz.isAgg87
 z46 := Tryz.sizeOf87
 v46 := Tryz.zeroValue87
 t51 := Tryz.underlying164
 a51 := Tryz.isAgg164
 z51 := Tryz.sizeOf164
 v51 := Tryz.zeroValue164
 t53 := Tryz.underlying63
 a53 := Tryz.isAgg63
 z53 := Tryz.sizeOf63
 v53 := Tryz.zeroValue63
 t75 := Tryz.underlying73
 a75 := Tryz.isAgg73
 z75 := Tryz.sizeOf73
 v75 := Tryz.zeroValue73
 t76 := Tryz.underlying74
 a76 := Tryz.isAgg74
 z76 := Tryz.sizeOf74
 v76 := Tryz.zeroValue74
 t85 := Tryz.underlying198
 a85 := Tryz.isAgg198
 z85 := Tryz.sizeOf198
 v85 := Tryz.zeroValue198
 t127 := Tryz.underlying110
 a127 := Tryz.isAgg110
 z127 := Tryz.sizeOf110
 v127 := Tryz.zeroValue110
 t143 := Tryz.underlying234
 a143 := Tryz.isAgg234
 z143 := Tryz.sizeOf234
 v143 := Tryz.zeroValue234
 t145 := Tryz.underlying236
 a145 := Tryz.isAgg236
 z145 := Tryz.sizeOf236
 v145 := Tryz.zeroValue236
 t167 := Tryz.underlying197
 a167 := Tryz.isAgg197
 z167 := Tryz.sizeOf197
 v167 := Tryz.zeroValue197
 t168 := Tryz.underlying200
 a168 := Tryz.isAgg200
 z168 := Tryz.sizeOf200
 v168 := Tryz.zeroValue200
 t171 := Tryz.underlying155
 a171 := Tryz.isAgg155
 z171 := Tryz.sizeOf155
 v171 := Tryz.zeroValue155
 t173 := Tryz.underlying158
 a173 := Tryz.isAgg158
 z173 := Tryz.sizeOf158
 v173 := Tryz.zeroValue158
 t175 := Tryz.underlying208
 a175 := Tryz.isAgg208
 z175 := Tryz.sizeOf208
 v175 := Tryz.zeroValue208
 t210 := Tryz.underlying211
 a210 := Tryz.isAgg211
 z210 := Tryz.sizeOf211
 v210 := Tryz.zeroValue211
 t212 := Tryz.underlying187
 a212 := Tryz.isAgg187
 z212 := Tryz.sizeOf187
 v212 := Tryz.zeroValue187
 t213 := Tryz.underlying188
 a213 := Tryz.isAgg188
 z213 := Tryz.sizeOf188
 t232 := Tryz.underlying227
 a232 := Tryz.isAgg227
 z232 := Tryz.sizeOf227
 v232 := Tryz.zeroValue227
 t233 := Tryz.underlying228
 a233 := Tryz.isAgg228
 z233 := Tryz.sizeOf228
 v233 := Tryz.zeroValue228
 g15 := by kernel_rfl
 g16 := by kernel_rfl
 g17 := by kernel_rfl
 g18 := by kernel_rfl
 g19 := by kernel_rfl
 t80 := Tryz.underlying78
 a80 := Tryz.isAgg78
 z80 := Tryz.sizeOf78
 v80 := Tryz.zeroValue78
 i0 := by kernel_rfl
 i2 := by kernel_rfl
 i3 := by kernel_rfl
 i4 := by kernel_rfl
 i5 := by kernel_rfl
 i9 := by kernel_rfl
 i20 := by kernel_rfl
 i21 := by kernel_rfl
 i37 := by kernel_rfl
 i46 := by kernel_rfl
 i51 := by kernel_rfl
 i53 := by kernel_rfl
 i75 := by kernel_rfl
 i76 := by kernel_rfl
 i80 := by kernel_rfl
 i85 := by kernel_rfl
 i127 := by kernel_rfl
 i143 := by kernel_rfl
 i145 := by kernel_rfl
 i167 := by kernel_rfl
 i168 := by kernel_rfl
 i171 := by kernel_rfl
 i173 := by kernel_rfl
 i175 := by kernel_rfl
 i210 := by kernel_rfl
 i212 := by kernel_rfl
 i232 := by kernel_rfl
 i233 := by kernel_rfl
 m15 := by kernel_rfl
 m16 := by kernel_rfl
 m17 := by kernel_rfl
 m18 := by kernel_rfl
 m19 := by kernel_rfl
 c0 := by kernel_rfl
 c2 := by kernel_rfl
 c3 := by kernel_rfl
 c4 := by kernel_rfl
 c5 := by kernel_rfl
 c9 := by kernel_rfl
 c20 := by kernel_rfl
 c21 := by kernel_rfl
 c37 := by kernel_rfl
 c46 := by kernel_rfl
 c51 := by kernel_rfl
 c53 := by kernel_rfl
 c75 := by kernel_rfl
 c76 := by kernel_rfl
 c80 := by kernel_rfl
 c85 := by kernel_rfl
 c127 := by kernel_rfl
 c143 := by kernel_rfl
 c145 := by kernel_rfl
 c167 := by kernel_rfl
 c168 := by kernel_rfl
 c171 := by kernel_rfl
 c173 := by kernel_rfl
 c175 := by kernel_rfl
 c210 := by kernel_rfl
 c212 := by kernel_rfl
 c213 := by kernel_rfl
 c232 := by kernel_rfl
 c233 := by kernel_rfl }
open Go.RowKit in
/-- strconv.Atoi, AT EVERY STRING THAT SPELLS AN int ('Lib.atoiAll .. = .ok v'; of whatever length: leading zeros count): v, AND NO ERROR. The world: as it was, or with the one new row that '[]byte(..)' lays. (LAID: no walk: one application.) -/
theorem Tryz.strconv_Atoi_ok (s : ByteArray) (hmax : s.size ≤ 9223372036854775806) (v : Int) (h : Lib.atoiAll s.data.toList = .ok v) (w : World) :
  Calls Tryz.prog 117 #[.string s] w fun e w' => e = .returned (.tuple #[.int .i64 v, .nilIface]) ∧ (w' = w ∨ ∃ t, w' = Lib.bytesWorld w 5 t) := Any.strconv_Atoi_ok Tryz.laysC172 s hmax v h w
open Go.RowKit in
/-- strconv.Atoi, AT EVERY STRING THAT IS NO DECIMAL NUMERAL ('.syntax'): 0, AND AN ERROR THAT IS NOT nil: a *NumError in a new block N: {Func: "Atoi", Num: s's bytes, Err: what the variable ErrSyntax holds}. Of what was there nothing has turned. (LAID: no walk: one application.) -/
theorem Tryz.strconv_Atoi_syntax (s : ByteArray) (hlim : s.size ≤ 281474976710656) (h : Lib.atoiAll s.data.toList = .«syntax») (ev : Value) (w : World) (hv : w.cell? ⟨2, 0, none⟩ = some ev) (hev : ev = .nilIface ∨ ∃ te pe, ev = .iface te pe) :
  Calls Tryz.prog 117 #[.string s] w fun e w' => ∃ N, e = .returned (.tuple #[.int .i64 (0), .iface 200 (.pointer (some ⟨N, 0, none⟩))]) ∧ w.heap.size ≤ N ∧ w'.heap[N]? = some (.cells #[.string ⟨#[65, 116, 111, 105]⟩, .string s, ev] 211 (0, 0)) ∧ Below w.heap.size w w' := Any.strconv_Atoi_syntax Tryz.laysC172 s hlim h ev w hv hev
open Go.RowKit in
/-- strconv.Atoi, AT EVERY NUMERAL THAT NO int HOLDS ('.range'): THE GREATEST OR THE LEAST int, BY THE SIGN ('Lib.atoiSat'), AND AN ERROR THAT IS NOT nil: a *NumError in a new block N: {Func: "Atoi", Num: s's bytes, Err: what the variable ErrRange holds}. Of what was there nothing has turned. (LAID: no walk: one application.) -/
theorem Tryz.strconv_Atoi_range (s : ByteArray) (hlim : s.size ≤ 281474976710656) (h : Lib.atoiAll s.data.toList = .range) (ev : Value) (w : World) (hv : w.cell? ⟨3, 0, none⟩ = some ev) (hev : ev = .nilIface ∨ ∃ te pe, ev = .iface te pe) :
  Calls Tryz.prog 117 #[.string s] w fun e w' => ∃ N, e = .returned (.tuple #[.int .i64 (Lib.atoiSat s.data.toList), .iface 200 (.pointer (some ⟨N, 0, none⟩))]) ∧ w.heap.size ≤ N ∧ w'.heap[N]? = some (.cells #[.string ⟨#[65, 116, 111, 105]⟩, .string s, ev] 211 (0, 0)) ∧ Below w.heap.size w w' := Any.strconv_Atoi_range Tryz.laysC172 s hlim h ev w hv hev
end Go.Proofs
end
namespace Go.Proofs.YthnfmolkppbbpaaGreatDoor
section
theorem dec_digit {c : UInt8} {n : Nat} (h : c ∈ Lib.decDigits n) : 48 ≤ c.toNat ∧ c.toNat ≤ 57 := by
 induction n using Nat.strongRecOn with
 | _ n ih =>
  rw [Lib.decDigits] at h
  split at h
  ·next hlt =>
   simp only [List.mem_singleton] at h
   subst h
   rw [UInt8.toNat_ofNat']; omega
  ·next hge =>
   rcases List.mem_append.1 h with h1 | h1
   ·exact ih (n / 10) (by omega) h1
   ·simp only [List.mem_singleton] at h1
    subst h1
    rw [UInt8.toNat_ofNat']; omega
theorem dec_ne (n : Nat) : Lib.decDigits n ≠ [] := by
 intro h
 have := Lib.decDigits_length n
 rw [h] at this
 have h1 := Lib.nDigits_pos n
 simp at this; omega
theorem decFrom_append (l m : List UInt8) : ∀ acc, Lib.decFrom acc (l ++ m) = match Lib.decFrom acc l with | some a => Lib.decFrom a m | none => none := by
 induction l with
 | nil => intro acc; rfl
 | cons c l ih =>
  intro acc
  rw [List.cons_append, Lib.decFrom, Lib.decFrom]
  cases Lib.digitVal c with
  | none => rfl
  | some d => exact ih _
theorem dval (d : Nat) (h : d < 10) : Lib.digitVal (UInt8.ofNat (48 + d)) = some d := by
 have : ∀ k : Fin 10, Lib.digitVal (UInt8.ofNat (48 + k.val)) = some k.val := by decide
 exact this ⟨d, h⟩
/-- a numeral's value -/
theorem decFrom_digits (n : Nat) : Lib.decFrom 0 (Lib.decDigits n) = some n := by
 induction n using Nat.strongRecOn with
 | _ n ih =>
  rw [Lib.decDigits]
  split
  ·next hlt =>
   rw [Lib.decFrom, dval n hlt]
   show Lib.decFrom (0 * 10 + n) [] = _
   rw [Lib.decFrom]; simp
  ·next hge =>
   rw [decFrom_append, ih (n / 10) (by omega)]
   show Lib.decFrom (n / 10) [UInt8.ofNat (48 + n % 10)] = _
   rw [Lib.decFrom, dval (n % 10) (Nat.mod_lt _ (by decide))]
   show Lib.decFrom (n / 10 * 10 + n % 10) [] = _
   rw [Lib.decFrom]
   congr 1; omega
theorem atoi_digits (n : Nat) : Lib.atoi (Lib.decDigits n) = some (n : Int) := by
 cases h : Lib.decDigits n with
 | nil => exact absurd h (dec_ne n)
 | cons b r =>
  have hb := dec_digit (c := b) (n := n) (by rw [h]; exact List.mem_cons_self)
  have h1 : (b == 45) = false := by
   rw [beq_eq_false_iff_ne]
   intro e; rw [e] at hb; simp at hb
  have h2 : (b == 43) = false := by
   rw [beq_eq_false_iff_ne]
   intro e; rw [e] at hb; simp at hb
  unfold Lib.atoi
  dsimp only
  rw [h1, h2, if_neg (by decide), if_neg (by decide)]
  unfold Lib.decNat
  rw [← h, decFrom_digits]
  simp [h]
/-- a numeral of a number below 10^k has at most k digits -/
theorem dec_most {n k : Nat} (hk : 1 ≤ k) (h : n < 10 ^ k) : (Lib.decDigits n).length ≤ k := by
 rw [Lib.decDigits_length]
 induction k generalizing n with
 | zero => omega
 | succ k ih =>
  by_cases hn : n < 10
  ·rw [Lib.nDigits_small hn]; omega
  ·rw [Lib.nDigits_big hn]
   have hk1 : 1 ≤ k := by
    rcases Nat.eq_zero_or_pos k with h0 | h0
    ·subst h0; simp at h; omega
    ·exact h0
   have := ih (n := n / 10) hk1 (by rw [Nat.pow_succ] at h; omega)
   omega
end
section
set_option maxRecDepth 100000
open Go.RowKit
def IfaceAt (w : World) (g : Nat) : Prop := ∃ ev, w.cell? ⟨g, 0, none⟩ = some ev ∧ (ev = .nilIface ∨ ∃ te pe, ev = .iface te pe)
theorem IfaceAt.old {w w' : World} {g : Nat} (h : IfaceAt w g) (hb : Below w.heap.size w w') : IfaceAt w' g := by
 obtain ⟨ev, h1, h2⟩ := h
 exact ⟨ev, (hb.cell (p := ⟨g, 0, none⟩) (World.block_lt_of_cell? _ ⟨_, 0, none⟩ h1)).trans h1, h2⟩
/-- what the library's variables hold -/
structure VarsAt (w : World) : Prop where
 tab : Lib.TabIs Tryz.prog w "internal/strconv.uint64pow10" .u64 Lib.pow10Tab
 e0 : IfaceAt w (Tryz.laysC172_ren.g 15)
 e1 : IfaceAt w (Tryz.laysC172_ren.g 16)
 m : MaxAt w
theorem tab_old {w w' : World} {n : String} {k : IntKind} {zs : List Int} (h : Lib.TabIs Tryz.prog w n k zs) (hb : Below w.heap.size w w') : Lib.TabIs Tryz.prog w' n k zs := by
 unfold Lib.TabIs World.var? at h ⊢
 cases hg : Tryz.prog.globalNamed n with
 | none => simp [hg] at h
 | some g =>
  simp only [hg, Option.bind_some] at h ⊢
  rw [← h]
  have hlt : g < w.heap.size := by
   rcases Nat.lt_or_ge g w.heap.size with h' | h'
   ·exact h'
   ·simp [Array.getElem?_eq_none h'] at h
  rw [hb.block g hlt]
theorem VarsAt.old {w w' : World} (h : VarsAt w) (hb : Below w.heap.size w w') : VarsAt w' := ⟨tab_old h.tab hb, h.e0.old hb, h.e1.old hb, h.m.old hb⟩
theorem below_growR (w : World) (k : Nat) (os : Array Obj) : Below w.heap.size w (Sort.grow (w.drewN k) os) := by
 refine ((below_drewN (Below.refl _ w) k).trans ?_)
 exact ⟨rfl, rfl, rfl, by simp [Sort.grow, World.drewN], fun i hi => by
  have hi' : i < (w.drewN k).heap.size := by simpa [World.drewN] using hi
  simp only [Sort.grow]
  rw [Array.getElem?_append_left hi']⟩
/-- Itoa at a number that is not negative -/
theorem itoa_any (n : Nat) (hn : n ≤ 9223372036854775807) (w : World) (hv : VarsAt w) : Calls Tryz.prog 39 #[.int .i64 n] w fun e w' => e = .returned (strV (Lib.decDigits n)) ∧ Below w.heap.size w w' := by
 refine (Tryz.strconv_Itoa (n : Int) (by omega) (by omega) w hv.tab).mono ?_
 rintro e w' ⟨rfl, k, os, rfl⟩
 refine ⟨by rw [Lib.itoa_nonneg], below_growR _ _ _⟩
def atoiV (t : List UInt8) : Int := match Lib.atoiAll t with
 | .ok v => v
 | .range => Lib.atoiSat t
 | _ => 0
theorem atoiV_digits {n : Nat} (h : n < 10000000) : atoiV (Lib.decDigits n) = n := by
 have hl : (Lib.decDigits n).length ≤ 18 := Nat.le_trans (dec_most (k := 7) (by decide) (by simpa using h)) (by decide)
 unfold atoiV
 rw [Lib.atoiAll_short _ hl, atoi_digits]
 rfl
end
section
set_option maxRecDepth 100000
open Go.RowKit Cal
/-- the line of a record -/
def lineR (r : RecL) : List UInt8 := joinC 9 (Lib.decDigits r.id.toNat :: Lib.decDigits r.ver.toNat :: r.vals)
/-- the checksum's digits -/
def sumT (t : List UInt8) : List UInt8 := hexN 16 (partsP 0 0 [t]).toNat
def rowR (r : RecL) : List UInt8 := lineR r ++ 9 :: sumT (lineR r)
def endS : List UInt8 := [101, 110, 100, 32]
def endR (n : Nat) : List UInt8 := endS ++ Lib.decDigits n
/-- rows, each with its line feed -/
def rowsT (X : List (List UInt8)) : List UInt8 := X.flatMap fun x => x ++ [10]
def fileR (R : List RecL) : List UInt8 := rowsT (R.map rowR ++ [endR R.length])
/-- a text is the number that Atoi reads of it -/
def isNum (t : List UInt8) : Bool := match Lib.atoiAll t with
 | .ok _ => true
 | _ => false
def numOk (t : List UInt8) : Bool := isNum t && (decide (t.length ≤ 7) && (decide (0 ≤ atoiV t) && (Lib.decDigits (atoiV t).toNat == t)))
def recW (W : List (List UInt8)) : RecL := ⟨atoiV (W.getD 0 []), atoiV (W.getD 1 []), W.drop 2⟩
/-- the record with a line, and the error -/
def parseW (s : SchemaL) (W : List (List UInt8)) : RecL × Int :=
 if W.length = s.fields.length + 2 then
  (if (numOk (W.getD 0 []) && numOk (W.getD 1 [])) = true then (if checkI s (recW W) = 0 then (recW W, 0) else (noRec, checkI s (recW W))) else (noRec, 14))
 else (noRec, 14)
def parseR (s : SchemaL) (t : List UInt8) : RecL × Int := parseW s (splC 9 [] t)
/-- a text cut at the last byte c -/
def cutLast (c : UInt8) : List UInt8 → Option (List UInt8 × List UInt8)
 | [] => none
 | x :: r => match cutLast c r with
  | some (a, b) => some (x :: a, b)
  | none => if x = c then some ([], r) else none
def digB (t : List UInt8) : Bool := (t.length == 16) && t.all fun c => (valH c).isSome
def lastId (l : List RecL) : Option Int := l.getLast?.map (·.id)
/-- the record of a row behind others, and the error -/
def takeN (s : SchemaL) (l : List RecL) (row : List UInt8) : RecL × Int :=
  match cutLast 9 row with
  | none => (noRec, 14)
  | some (a, b) =>
    if digB b = true then
      (if b = sumT a then
        (if (parseR s a).2 = 0 then
          (if l.length = 64 then (noRec, 1) else if notB (lastId l) (parseR s a).1.id = true then (noRec, 12) else ((parseR s a).1, 0))
        else (noRec, (parseR s a).2))
      else (noRec, 16))
    else (noRec, 14)
def isEnd (row : List UInt8) : Bool := decide (endS.length ≤ row.length) && (row.take endS.length == endS)
/-- what is read of rows, n bytes in all, behind records l that have at bytes -/
def readA (s : SchemaL) (n : Nat) : List RecL → Nat → List (List UInt8 × List UInt8) → List RecL × Nat × Int
 | l, at', [] => (l, at', 15)
 | l, at', (row, rest) :: q =>
  if isEnd row = true then (if row = endR l.length ∧ rest = [] then (l, n, 0) else (l, at', 14))
  else if (takeN s l row).2 = 0 then readA s n (l ++ [(takeN s l row).1]) (n - rest.length) q else (l, at', (takeN s l row).2)
def freadN (s : SchemaL) (t : List UInt8) : List RecL × Nat × Int := if checkS s = 0 then readA s t.length [] 0 (rowsL t) else ([], 0, checkS s)
theorem cutLast_no (c : UInt8) : ∀ b : List UInt8, c ∉ b → cutLast c b = none
 | [], _ => rfl
 | x :: r, h => by
  rw [cutLast, cutLast_no c r (fun e => h (List.mem_cons_of_mem _ e))]
  exact if_neg fun e => h (by rw [e]; exact List.mem_cons_self)
theorem cutLast_at (c : UInt8) (b : List UInt8) (h : c ∉ b) : ∀ a, cutLast c (a ++ c :: b) = some (a, b)
 | [] => by rw [List.nil_append, cutLast, cutLast_no c b h]; exact if_pos rfl
 | x :: a => by rw [List.cons_append, cutLast, cutLast_at c b h a]
theorem cutLast_some {c : UInt8} : ∀ {t a b : List UInt8}, cutLast c t = some (a, b) → t = a ++ c :: b ∧ c ∉ b
 | [], a, b, h => by cases h
 | x :: r, a, b, h => by
  rw [cutLast] at h
  split at h
  ·next a' b' e =>
   cases h
   obtain ⟨h1, h2⟩ := cutLast_some e
   exact ⟨by rw [h1]; rfl, h2⟩
  ·next e =>
   split at h
   ·next hx =>
    cases h
    refine ⟨by rw [hx]; rfl, fun hm => ?_⟩
    obtain ⟨p, q, e1, h3⟩ : ∃ p q, r = p ++ c :: q ∧ c ∉ q := by
     clear e hx
     induction r with
     | nil => cases hm
     | cons y r ih =>
      by_cases hr : c ∈ r
      ·obtain ⟨p, q, e1, h3⟩ := ih hr
       exact ⟨y :: p, q, by rw [e1]; rfl, h3⟩
      ·rcases List.mem_cons.1 hm with h1 | h1
       ·exact ⟨[], r, by rw [h1]; rfl, hr⟩
       ·exact absurd h1 hr
    rw [e1, cutLast_at c q h3] at e
    cases e
   ·cases h
theorem cutLast_none {c : UInt8} {t : List UInt8} (h : cutLast c t = none) : c ∉ t := by
 intro hm
 induction t with
 | nil => cases hm
 | cons x r ih =>
  rw [cutLast] at h
  split at h
  ·cases h
  ·next e =>
   split at h
   ·cases h
   ·next hx =>
    rcases List.mem_cons.1 hm with h1 | h1
    ·exact hx h1.symm
    ·exact ih e h1
theorem sumT_len (t : List UInt8) : (sumT t).length = 16 := hexN_len 16 _
/-- bytes of values in normal form -/
def inkB (c : UInt8) : Prop := 32 ≤ c.toNat
theorem okB_ink {c : UInt8} (h : okB c = true) : inkB c := by
 unfold inkB
 unfold okB isLow isDgt at h
 simp only [Bool.or_eq_true, Bool.and_eq_true, decide_eq_true_eq, beq_iff_eq, UInt8.le_iff_toNat_le] at h
 rcases h with (⟨h1, _⟩ | ⟨h1, _⟩) | h1
 ·have : (97 : UInt8).toNat = 97 := rfl
  omega
 ·have : (48 : UInt8).toNat = 48 := rfl
  omega
 ·subst h1; decide
theorem numFrom_ink : ∀ (l : List UInt8) (n m : Int), numFrom n l = some m → ∀ c ∈ l, inkB c
 | [], n, m, _, c, hc => by cases hc
 | x :: l, n, m, h, c, hc => by
  rw [numFrom] at h
  split at h
  ·next hx =>
   rcases List.mem_cons.1 hc with rfl | h1
   ·unfold inkB; omega
   ·exact numFrom_ink l _ m h c h1
  ·cases h
theorem numI_ink {l : List UInt8} (h : 0 ≤ numI l) : ∀ c ∈ l, inkB c := by
 unfold numI at h
 cases e : numFrom 0 l with
 | none => rw [e] at h; simp at h
 | some m => exact numFrom_ink l 0 m e
theorem readB_ink {l : List UInt8} (h : readB l = true) : ∀ c ∈ l, inkB c := by
 unfold readB at h
 cases hd : decide (l.length = 8)
 ·rw [hd] at h; cases h
 ·rw [hd] at h
  have hv : vldB (numI (l.take 4)) (numI ((l.drop 4).take 2)) (numI ((l.drop 6).take 2)) = true := h
  unfold vldB at hv
  simp only [decide_eq_true_eq] at hv
  have hl : l.length = 8 := by simpa using hd
  intro c hc
  have e : l = l.take 4 ++ ((l.drop 4).take 2 ++ (l.drop 6).take 2) := by
   have h1 : (l.drop 6).take 2 = l.drop 6 := List.take_of_length_le (by simp; omega)
   have h2 : l.drop 4 = (l.drop 4).take 2 ++ l.drop 6 := by
    have := (List.take_append_drop 2 (l.drop 4)).symm
    rwa [List.drop_drop] at this
   rw [h1, ← h2, List.take_append_drop]
  rw [e] at hc
  rcases List.mem_append.1 hc with h1 | h1
  ·exact numI_ink (by omega) c h1
  ·rcases List.mem_append.1 h1 with h2 | h2
   ·exact numI_ink (by omega) c h2
   ·exact numI_ink (by omega) c h2
theorem own_ink {k : Int} {r : RulesL} {l : List UInt8} (h : ownK k r l = true) (hk : k = 1 ∨ k = 2 ∨ k = 3 ∨ k = 4) : ∀ c ∈ l, inkB c := by
 unfold ownK at h
 rcases hk with rfl | rfl | rfl | rfl
 ·obtain ⟨_, h2⟩ := own_small (show isOwn (nameN r l) l = true from h) (nameN_form r l)
  obtain ⟨M, g1, g2, _⟩ := nameN_toks h2
  intro c hc
  rw [g2] at hc
  exact okB_ink (join_ok M g1 c hc)
 ·exact readB_ink (show readB l = true from h)
 ·obtain ⟨_, h2⟩ := own_small (show isOwn (codeN l) l = true from h) (codeN_form l)
  unfold codeN at h2
  split at h2
  ·split at h2
   ·cases h2
   ·have e : (toks (foldL l)).flatten = l := congrArg Prod.fst h2
    intro c hc
    rw [← e] at hc
    obtain ⟨t, ht, hct⟩ := List.mem_flatten.1 hc
    exact okB_ink ((toks_ok l t ht).2 c hct).1
  ·cases h2
 ·obtain ⟨_, h2⟩ := own_small (show isOwn (addrN r l) l = true from h) (addrN_form r l)
  obtain ⟨M, g1, g2, _⟩ := addrN_toks h2
  intro c hc
  rw [g2] at hc
  exact okB_ink (join_ok M g1 c hc)
theorem normal_ink {s : SchemaL} {f : Int} {l : List UInt8} (h : normalB s f l = true) : l.length ≤ 64 ∧ ∀ c ∈ l, inkB c := by
 unfold normalB at h
 split at h
 ·next h0 =>
  split at h
  ·next h1 => subst h1; exact ⟨by simp, fun c hc => by cases hc⟩
  ·exact ⟨(own_facts h (findN_kind h0)).1, own_ink h (findN_kind h0)⟩
 ·cases h
theorem normA_ink {s : SchemaL} {V : List (List UInt8)} {i : Nat} (h : normA s i V = true) : ∀ t ∈ V, t.length ≤ 64 ∧ ∀ c ∈ t, inkB c := by
 intro t ht
 obtain ⟨j, hj, rfl⟩ := List.getElem_of_mem ht
 have := normA_get s V i h j hj
 have e : V.getD j [] = V[j] := by simp [List.getD, List.getElem?_eq_getElem hj]
 rw [e] at this
 exact normal_ink this
theorem checkI_ok {s : SchemaL} {r : RecL} (h : checkI s r = 0) : (1 ≤ r.id ∧ r.id ≤ 1048576 ∧ 1 ≤ r.ver ∧ r.ver ≤ 1048576) ∧ r.vals.length = s.fields.length ∧ ∀ t ∈ r.vals, t.length ≤ 64 ∧ ∀ c ∈ t, inkB c := by
 unfold checkI at h
 split at h
 ·next h1 =>
  simp only [Bool.and_eq_true, beq_iff_eq] at h1
  have h2 := h1.1.1
  unfold numberedB at h2
  simp only [Bool.and_eq_true, decide_eq_true_eq] at h2
  exact ⟨by omega, h1.1.2, normA_ink h1.2⟩
 ·cases h
/-- the words of a record's line -/
def lineWs (r : RecL) : List (List UInt8) := Lib.decDigits r.id.toNat :: Lib.decDigits r.ver.toNat :: r.vals
theorem numOk_dec {n : Nat} (h : n < 10000000) : numOk (Lib.decDigits n) = true := by
 have hl : (Lib.decDigits n).length ≤ 7 := dec_most (k := 7) (by decide) (by simpa using h)
 have hv := atoiV_digits h
 unfold numOk
 rw [hv]
 have hi : isNum (Lib.decDigits n) = true := by
  unfold isNum
  rw [Lib.atoiAll_short _ (by omega), atoi_digits]; rfl
 rw [hi, decide_eq_true hl]
 simp
theorem rowsT_cons (x : List UInt8) (X : List (List UInt8)) (t : List UInt8) : rowsT (x :: X) ++ t = x ++ 10 :: (rowsT X ++ t) := by unfold rowsT; simp
theorem rowsT_append (X Y : List (List UInt8)) : rowsT (X ++ Y) = rowsT X ++ rowsT Y := by unfold rowsT; rw [List.flatMap_append]
theorem rowsT_one (x : List UInt8) : rowsT [x] = x ++ [10] := by unfold rowsT; simp
theorem lineR_len {s : SchemaL} {r : RecL} (h : checkI s r = 0) (h5 : s.fields.length ≤ 5) : (lineR r).length ≤ 500 := by
 obtain ⟨h1, h2, h3⟩ := checkI_ok h
 have key : ∀ (L : List (List UInt8)), (∀ x ∈ L, x.length ≤ 64) → (joinC 9 L).length ≤ L.length * 65 := by
  intro L
  induction L with
  | nil => simp [joinC]
  | cons a L ih =>
   intro h
   cases L with
   | nil => have := h a (by simp); simp [joinC]; omega
   | cons b L =>
    have g1 := h a (by simp)
    have g2 := ih fun x hx => h x (List.mem_cons_of_mem _ hx)
    simp only [joinC, List.length_append, List.length_cons] at *
    omega
 have := key (lineWs r) fun t ht => by
  unfold lineWs at ht
  rcases List.mem_cons.1 ht with rfl | h4
  ·have := dec_most (n := r.id.toNat) (k := 7) (by decide) (by omega); omega
  ·rcases List.mem_cons.1 h4 with rfl | h5
   ·have := dec_most (n := r.ver.toNat) (k := 7) (by decide) (by omega); omega
   ·exact (h3 t h5).1
 have hl : (lineWs r).length = r.vals.length + 2 := by unfold lineWs; simp
 rw [hl] at this
 show (joinC 9 (lineWs r)).length ≤ 500
 omega
end
section
set_option maxRecDepth 100000
open Go.RowKit
attribute [local go_sem] toList_mk mk_size
/-- the library's variable math/bits.deBruijn64tab, as far as it is read -/
def DbAt (w : World) : Prop := w.cell? ⟨5, 15, none⟩ = some (.int .u8 4)
theorem DbAt.old {w w' : World} (h : DbAt w) (hb : Below w.heap.size w w') : DbAt w' :=
 (hb.cell (p := ⟨5, 15, none⟩) (World.block_lt_of_cell? _ ⟨_, 15, none⟩ h)).trans h
theorem hexN_front (m : Nat) : ∀ x, hexN (m + 1) x = digH (x / 16 ^ m % 16) :: hexN m x := by
 induction m with
 | zero => intro x; simp [hexN]
 | succ m ih =>
  intro x
  rw [hexN, ih (x / 16), Nat.div_div_eq_div_mul, ← Nat.pow_succ']
  rw [hexN]; rfl
theorem hexN_zero (j : Nat) : hexN j 0 = List.replicate j 48 := by
 induction j with
 | zero => rfl
 | succ j ih => rw [hexN, Nat.zero_div, ih, List.replicate_succ']; rfl
theorem hexN_add (j : Nat) : ∀ (k x : Nat), hexN (j + k) x = hexN j (x / 16 ^ k) ++ hexN k x := by
 intro k
 induction k with
 | zero => intro x; simp [hexN]
 | succ k ih =>
  intro x
  rw [← Nat.add_assoc, hexN, ih, Nat.div_div_eq_div_mul, ← Nat.pow_succ', hexN, List.append_assoc]
/-- filled with zeros -/
theorem hexN_pad {k x : Nat} (hk : k ≤ 16) (hx : x < 16 ^ k) : List.replicate (16 - k) 48 ++ hexN k x = hexN 16 x := by
 have e : 16 = (16 - k) + k := by omega
 conv => rhs; rw [e]
 rw [hexN_add, Nat.div_eq_of_lt hx, hexN_zero]
set_option maxHeartbeats 400000 in
theorem tz_any (w : World) (h : DbAt w) : Calls Tryz.prog 222 #[.int .u64 16] w fun e w' => e = .returned (.int .i64 4) ∧ w = w' := by
 unfold DbAt at h
 have hq : IntKind.u64.wrap (bits .and .u64 16 (IntKind.u64.wrap (-16)) * 285870213051353865) / 288230376151711744 = 15 := by decide +kernel
 go_enter Tryz.func222, Tryz.ntmps222
 go_wp2_with fail
 go_ret
 exact ⟨rfl, rfl⟩
set_option maxHeartbeats 400000 in
theorem tz2_any (w : World) (h : DbAt w) : Calls Tryz.prog 189 #[.int .u64 16] w fun e w' => e = .returned (.int .i64 4) ∧ w = w' := by
 have H := Lib.hid h; clear h
 go_enter Tryz.func189, Tryz.ntmps189
 go_wp2_with fail
 refine (tz_any _ H.out).mono ?_
 rintro e w1 ⟨rfl, rfl⟩
 go_wp2_with fail
 go_ret
 exact ⟨rfl, rfl⟩
set_option maxHeartbeats 400000 in
theorem pow2_any (w : World) : Calls Tryz.prog 188 #[.int .i64 16] w fun e w' => e = .returned (.bool true) ∧ w = w' := by
 have hb : bits .and .i64 16 15 = 0 := by decide +kernel
 go_enter Tryz.func188, Tryz.ntmps188
 go_wp2_with fail
 go_ret
 exact ⟨rfl, rfl⟩
def digs36 : List UInt8 := [48, 49, 50, 51, 52, 53, 54, 55, 56, 57, 97, 98, 99, 100, 101, 102, 103, 104, 105, 106, 107, 108, 109, 110, 111, 112, 113, 114, 115, 116, 117, 118, 119, 120, 121, 122]
theorem digs36_get (d : Nat) (h : d < 16) (h' : d < (⟨digs36.toArray⟩ : ByteArray).size) : (⟨digs36.toArray⟩ : ByteArray)[d]'h' = digH d := by
 show digs36.toArray[d] = _
 rw [List.getElem_toArray]
 have h1 : ∀ k : Fin 16, digs36.getD k.val 0 = digH k.val := by decide
 have h2 := h1 ⟨d, h⟩
 rw [List.getD, List.getElem?_eq_getElem (show d < digs36.length by show d < 36; omega)] at h2
 exact h2
theorem and_15n (m : Nat) (h : m < 18446744073709551616) : bits .and .u64 (m : Int) 15 = ((m % 16 : Nat) : Int) := by
 unfold bits
 rw [IntKind.wrap_u64]
 have e1 : (BitVec.ofInt 64 (m : Int)).toNat = m := by rw [BitVec.toNat_ofInt]; simp; omega
 have e2 : (BitVec.ofInt 64 15).toNat = 15 := by decide
 have e3 : ((BitVec.ofInt 64 (m : Int)) &&& (BitVec.ofInt 64 15)).toNat = m % 16 := by
  rw [BitVec.toNat_and, e1, e2]
  exact Nat.and_two_pow_sub_one_eq_mod m 4
 show ((((BitVec.ofInt 64 (m : Int)) &&& (BitVec.ofInt 64 15)).toNat : Nat) : Int) % _ = _
 rw [e3]; omega
/-- the last m cells hold the last m digits -/
def DigAt (w : World) (B : Nat) (x m : Nat) : Prop := ∃ cs : Array Value, w.heap[B]? = some (.cells cs 188 (0, 0)) ∧ cs.size = 65 ∧ ∀ i, i < m → cs[65 - m + i]? = ((hexN m x)[i]?).map byteV
theorem DigAt.set {w : World} {B x m : Nat} (h : DigAt w B x m) (hm : m < 65) {d : Nat} (hd : x / 16 ^ m % 16 = d) : DigAt (w.setCell ⟨B, 64 - m, none⟩ (byteV (digH d))) B x (m + 1) := by
 obtain ⟨cs, h1, h2, h3⟩ := h
 refine ⟨_, blk_set h1, by simp [h2], fun i hi => ?_⟩
 rw [hexN_front, hd, Array.getElem?_setIfInBounds]
 cases i with
 | zero =>
  rw [if_pos (by omega), if_pos (by omega)]; rfl
 | succ i =>
  rw [if_neg (by omega), List.getElem?_cons_succ, ← h3 i (by omega)]
  congr 1; omega
theorem dig_conv {w : World} {B x m c : Nat} (h : DigAt w B x (m + 1)) : (convert 69 9 (.slice (some ⟨B, 64 - m, none⟩) (m + 1) c)).run Tryz.prog w = .ok (strV (hexN (m + 1) x)) w := by
 obtain ⟨cs, h1, h2, h3⟩ := h
 have hl : (hexN (m + 1) x).length = m + 1 := hexN_len _ _
 have := run_convert_bytes_back (P := Tryz.prog) w _ _ _ ⟨B, 64 - m, none⟩ c (hexN (m + 1) x) Tryz.underlying69 Tryz.underlying5 Tryz.underlying9 (fun j hj => by
  rw [add_plain, cell_of_row _ _ _ _ _ _ h1]
  have := h3 j (by omega)
  rw [show 65 - (m + 1) + j = 64 - m + j by omega, List.getElem?_eq_getElem hj] at this
  exact this)
 rw [hl] at this
 exact this
set_option maxHeartbeats 4000000 in
theorem fbits_any (x : Nat) (hx : x < 18446744073709551616) (w : World) (hdb : DbAt w) :
  Calls Tryz.prog 140 #[.slice none 0 0, .int .u64 x, .int .i64 16, .bool false, .bool false] w fun e w' => (∃ k, 1 ≤ k ∧ k ≤ 16 ∧ x < 16 ^ k ∧ e = .returned (.tuple #[.slice none 0 0, strV (hexN k x)])) ∧ Below w.heap.size w w' := by
 have HD := Lib.hid hdb; have HX := Lib.hid hx; clear hdb
 go_enter Tryz.func140, Tryz.ntmps140
 go_wp2_with fail
 refine wp_calls_world (fun W hW => ?_)
 have hb0 : Below w.heap.size w W := by rw [hW]; exact (Below.refl w.heap.size w).alloc (Nat.le_refl _) _
 have hd0 : DigAt W w.heap.size x 0 := by rw [hW]; refine ⟨_, blk_new rfl, ?_, fun i hi => by omega⟩; kernel_rfl
 clear hW
 have HD0 := Lib.hid hd0; have HB0 := Lib.hid hb0; have HDb := Lib.hid (HD.out.old hb0)
 clear hd0 hb0
 refine (pow2_any W).mono ?_
 rintro e w1 ⟨rfl, rfl⟩
 go_wp2_with fail
 refine (tz2_any W HDb.out).mono ?_
 rintro e w1 ⟨rfl, rfl⟩
 go_wp2_with fail
 go_loopw [1, 13] (fun u i wr => ∃ m q : Nat, m ≤ 15 ∧ i = .int .i64 (65 - (m : Int)) ∧ u = .int .u64 (q : Int) ∧ Hid (x / 16 ^ m = q) ∧ Hid (DigAt wr w.heap.size x m) ∧ Hid (Below w.heap.size w wr)) (fun u _ _ => (intOf u).toNat)
 case atStart => exact ⟨0, x, by omega, rfl, rfl, Lib.hid (by simp), HD0, HB0⟩
 case round =>
  obtain ⟨m, q, hm, rfl, rfl, HQ, HDg, HBw⟩ := hrel
  have hq64 : q < 18446744073709551616 := by rw [← HQ.out]; exact Nat.lt_of_le_of_lt (Nat.div_le_self _ _) HX.out
  by_cases hq : 16 ≤ q
  ·have d1 : decide ((16 : Int) ≤ (q : Int)) = true := decide_eq_true (by omega)
   have hm14 : m ≤ 14 := by
    rcases Nat.lt_or_ge m 15 with h | h
    ·omega
    ·have hm15 : m = 15 := by omega
     subst hm15
     have h1 := HQ.out
     have h2 : x / 16 ^ 15 < 16 := by
      rw [Nat.div_lt_iff_lt_mul (by decide)]
      exact HX.out
     omega
   obtain ⟨d, hd⟩ : ∃ d, q % 16 = d := ⟨_, rfl⟩
   have hd16 : d < 16 := by omega
   have hand : bits .and .u64 (q : Int) 15 = (d : Int) := by rw [and_15n q hq64, hd]
   obtain ⟨q2, hq2⟩ : ∃ q2, q / 16 = q2 := ⟨_, rfl⟩
   have hshr : (q : Int) / 16 = (q2 : Int) := by omega
   have hgd : ∀ h : d < (⟨#[48, 49, 50, 51, 52, 53, 54, 55, 56, 57, 97, 98, 99, 100, 101, 102, 103, 104, 105, 106, 107, 108, 109, 110, 111, 112, 113, 114, 115, 116, 117, 118, 119, 120, 121, 122]⟩ : ByteArray).size, (⟨#[48, 49, 50, 51, 52, 53, 54, 55, 56, 57, 97, 98, 99, 100, 101, 102, 103, 104, 105, 106, 107, 108, 109, 110, 111, 112, 113, 114, 115, 116, 117, 118, 119, 120, 121, 122]⟩ : ByteArray)[d]'h = digH d := fun h => digs36_get d hd16 h
   have hset := HDg.out.set (d := d) (by omega) (by rw [HQ.out, hd])
   obtain ⟨cs, g1, g2, g3⟩ := HDg.out
   have hcl : ∃ v, wr.cell? ⟨w.heap.size, 64 - m, none⟩ = some v := by
    rw [cell_of_row _ _ _ _ _ _ g1]
    exact ⟨_, Array.getElem?_eq_getElem (by omega)⟩
   obtain ⟨v, hcl⟩ := hcl
   have hfz := frozen_of_row _ _ (64 - m) _ _ g1
   have hz1 := lt_of_blk g1
   have hwi : IntKind.i64.wrap (65 - (m : Int) - 1) = ((64 - m : Nat) : Int) := by rw [IntKind.wrap_i64]; omega
   have hwj : 65 - (m : Int) - 1 = ((64 - m : Nat) : Int) := by omega
   have hwl : ((64 - m : Nat) : Int) < 65 := by omega
   have HSt := Lib.hid hset
   have HQ2 := Lib.hid (show x / 16 ^ (m + 1) = q2 by rw [Nat.pow_succ, ← Nat.div_div_eq_div_mul, HQ.out, hq2])
   have HB2 := Lib.hid (HBw.out.setCell (p := ⟨w.heap.size, 64 - m, none⟩) (Nat.le_refl _) (byteV (digH d)))
   have hq2lt : q2 < q := by omega
   clear hset g1 g2 g3 hm hd hq2
   go_wp2_with fail
   go_roundw
   case rel => exact ⟨m + 1, q2, by omega, by congr 1; omega, rfl, HQ2, HSt, HB2⟩
   case measure => simp [intOf]; omega
  ·have d1 : decide ((16 : Int) ≤ (q : Int)) = false := decide_eq_false (by omega)
   have hd : q % 16 = q := Nat.mod_eq_of_lt (by omega)
   have hgd : ∀ h : q < (⟨#[48, 49, 50, 51, 52, 53, 54, 55, 56, 57, 97, 98, 99, 100, 101, 102, 103, 104, 105, 106, 107, 108, 109, 110, 111, 112, 113, 114, 115, 116, 117, 118, 119, 120, 121, 122]⟩ : ByteArray).size, (⟨#[48, 49, 50, 51, 52, 53, 54, 55, 56, 57, 97, 98, 99, 100, 101, 102, 103, 104, 105, 106, 107, 108, 109, 110, 111, 112, 113, 114, 115, 116, 117, 118, 119, 120, 121, 122]⟩ : ByteArray)[q]'h = digH q := fun h => digs36_get q (by omega) h
   have hset := HDg.out.set (d := q) (by omega) (by rw [HQ.out, hd])
   obtain ⟨cs, g1, g2, g3⟩ := HDg.out
   have hcl : ∃ v, wr.cell? ⟨w.heap.size, 64 - m, none⟩ = some v := by
    rw [cell_of_row _ _ _ _ _ _ g1]
    exact ⟨_, Array.getElem?_eq_getElem (by omega)⟩
   obtain ⟨v, hcl⟩ := hcl
   have hfz := frozen_of_row _ _ (64 - m) _ _ g1
   have hz1 := lt_of_blk g1
   have hwi : IntKind.i64.wrap (65 - (m : Int) - 1) = ((64 - m : Nat) : Int) := by rw [IntKind.wrap_i64]; omega
   have hwj : 65 - (m : Int) - 1 = ((64 - m : Nat) : Int) := by omega
   have hwl : ((64 - m : Nat) : Int) < 65 := by omega
   have hwl2 : ((64 - m : Nat) : Int) ≤ 65 := by omega
   have hq15 : q ≤ 15 := by omega
   have hxk : x < 16 ^ (m + 1) := by
    have h1 := HQ.out
    rw [Nat.pow_succ, Nat.mul_comm]
    exact (Nat.div_lt_iff_lt_mul (Nat.pow_pos (by decide))).1 (by omega)
   have HSt := Lib.hid hset; have HXk := Lib.hid hxk
   have HB2 := Lib.hid (HBw.out.setCell (p := ⟨w.heap.size, 64 - m, none⟩) (Nat.le_refl _) (byteV (digH q)))
   have hcv := dig_conv (c := m + 1) hset
   rw [show m + 1 = 65 - (64 - m) by omega] at hcv
   unfold byteV at hcv
   clear hset g1 g2 g3 hd hxk
   go_wp2_with fail
   go_ret2
   exact ⟨⟨m + 1, by omega, by omega, HXk.out, by rw [show 65 - (64 - m) = m + 1 by omega]; rfl⟩, HB2.out⟩
set_option maxHeartbeats 1000000 in
theorem fuint_any (x : Nat) (hx : x < 18446744073709551616) (w : World) (hdb : DbAt w) :
  Calls Tryz.prog 68 #[.int .u64 x, .int .i64 16] w fun e w' => (∃ k, 1 ≤ k ∧ k ≤ 16 ∧ x < 16 ^ k ∧ e = .returned (strV (hexN k x))) ∧ Below w.heap.size w w' := by
 have HD := Lib.hid hdb; clear hdb
 have inner : ∀ w, DbAt w → Calls Tryz.prog 101 #[.int .u64 x, .int .i64 16] w fun e w' => (∃ k, 1 ≤ k ∧ k ≤ 16 ∧ x < 16 ^ k ∧ e = .returned (strV (hexN k x))) ∧ Below w.heap.size w w' := by
  intro w hdb
  have HD := Lib.hid hdb; clear hdb
  go_enter Tryz.func101, Tryz.ntmps101
  go_wp2_with fail
  refine (fbits_any x hx _ HD.out).mono ?_
  rintro e w1 ⟨⟨k, h1, h2, h3, rfl⟩, hb⟩
  have HB := Lib.hid hb; clear hb
  go_wp2_with fail
  go_ret
  exact ⟨⟨k, h1, h2, h3, rfl⟩, HB.out⟩
 have HI := Lib.hid inner; clear inner
 go_enter Tryz.func68, Tryz.ntmps68
 go_wp2_with fail
 refine (HI.out _ HD.out).mono ?_
 rintro e w1 ⟨⟨k, h1, h2, h3, rfl⟩, hb⟩
 have HB := Lib.hid hb; clear hb
 go_wp2_with fail
 go_ret
 exact ⟨⟨k, h1, h2, h3, rfl⟩, HB.out⟩
end
end Go.Proofs.YthnfmolkppbbpaaGreatDoor
section
namespace Go.Proofs
open Go.Shelf
def Tryz.lays160_ren : Go.Shelf.Ren := ⟨fun | 160 => 115 | 232 => 153 | 231 => 152 | 227 => 154 | 234 => 156 | 233 => 155 | 236 => 158 | 235 => 157 | 228 => 197 | 271 => 200 | 151 => 199 | 197 => 198 | 120 => 227 | 152 => 226 | 260 => 225 | 137 => 244 | 119 => 245 | 224 => 195 | 225 => 194 | 217 => 193 | 266 => 223 | n => n, fun | 9 => 9 | 4 => 4 | 3 => 3 | 5 => 5 | 117 => 176 | 116 => 175 | 0 => 0 | 124 => 179 | 21 => 21 | 105 => 193 | 46 => 87 | 119 => 229 | 139 => 232 | 138 => 231 | n => n, fun | 3 => 6 | 4 => 7 | n => n⟩
theorem Tryz.lays160 : Go.Proofs.Lays.n160 Tryz.prog Tryz.lays160_ren := {
 mixed := by kernel_rfl
 f119 := Tryz.func245.trans (congrArg some (by kernel_rfl))
 f120 := Tryz.func227.trans (congrArg some (by kernel_rfl))
 f137 := Tryz.func244.trans (congrArg some (by kernel_rfl))
 f151 := Tryz.func199.trans (congrArg some (by kernel_rfl))
 f152 := Tryz.func226.trans (congrArg some (by kernel_rfl))
 f160 := Tryz.func115.trans (congrArg some (by kernel_rfl))
 f197 := Tryz.func198.trans (congrArg some (by kernel_rfl))
 f217 := Tryz.func193.trans (congrArg some (by kernel_rfl))
 f224 := Tryz.func195.trans (congrArg some (by kernel_rfl))
 f225 := Tryz.func194.trans (congrArg some (by kernel_rfl))
 f227 := Tryz.func154.trans (congrArg some (by kernel_rfl))
 f228 := Tryz.func197.trans (congrArg some (by kernel_rfl))
 f231 := Tryz.func152.trans (congrArg some (by kernel_rfl))
 f232 := Tryz.func153.trans (congrArg some (by kernel_rfl))
 f233 := Tryz.func155.trans (congrArg some (by kernel_rfl))
 f234 := Tryz.func156.trans (congrArg some (by kernel_rfl))
 f235 := Tryz.func157.trans (congrArg some (by kernel_rfl))
 f236 := Tryz.func158.trans (congrArg some (by kernel_rfl))
 f260 := Tryz.func225.trans (congrArg some (by kernel_rfl))
 f266 := Tryz.func223.trans (congrArg some (by kernel_rfl))
 f271 := Tryz.func200.trans (congrArg some (by kernel_rfl))
 t0 := Tryz.underlying0
 a0 := Tryz.isAgg0
 z0 := Tryz.sizeOf0
 v0 := Tryz.zeroValue0
 t3 := Tryz.underlying3
 a3 := Tryz.isAgg3
 z3 := Tryz.sizeOf3
 v3 := Tryz.zeroValue3
 t4 := Tryz.underlying4
 a4 := Tryz.isAgg4
 z4 := Tryz.sizeOf4
 v4 := Tryz.zeroValue4
 t5 := Tryz.underlying5
 a5 := Tryz.isAgg5
 z5 := Tryz.sizeOf5
 v5 := Tryz.zeroValue5
 t9 := Tryz.underlying9
 a9 := Tryz.isAgg9
 z9 := Tryz.sizeOf9
 v9 := Tryz.zeroValue9
 t21 := Tryz.underlying21
 a21 := Tryz.isAgg21
 z21 := Tryz.sizeOf21
 v21 := Tryz.zeroValue21
 t46 := Tryz.underlying87
 a46 := Tryz.isAgg87
 z46 := Tryz.sizeOf87
 v46 := Tryz.zeroValue87
 t105 := Tryz.underlying193
 a105 := Tryz.isAgg193
 z105 := Tryz.sizeOf193
 v105 := Tryz.zeroValue193
 t116 := Tryz.underlying175
 a116 := Tryz.isAgg175
 z116 := Tryz.sizeOf175
 t117 := Tryz.underlying176
 a117 := Tryz.isAgg176
 z117 := Tryz.sizeOf176
 v117 := Tryz.zeroValue176
 t119 := Tryz.underlying229
 a119 := Tryz.isAgg229
 z119 := Tryz.sizeOf229
 t124 := Tryz.underlying179
 a124 := Tryz.isAgg179
 z124 := Tryz.sizeOf179
 v124 := Tryz.zeroValue179
 t138 := Tryz.underlying231
 a138 := Tryz.isAgg231
 z138 := Tryz.sizeOf231
 v138 := Tryz.zeroValue231
 t139 := Tryz.underlying232
 a139 := Tryz.isAgg232
 z139 := Tryz.sizeOf232
 v139 := Tryz.zeroValue232
 g3 := by kernel_rfl
 g4 := by kernel_rfl }
open Go.RowKit in
def Tryz.lays149_ren : Go.Shelf.Ren := ⟨fun | 149 => 79 | 222 => 114 | n => n, fun | 9 => 9 | 5 => 5 | 3 => 3 | 4 => 4 | n => n, fun | n => n⟩
theorem Tryz.lays149 : Go.Proofs.Lays.n149 Tryz.prog Tryz.lays149_ren := {
 mixed := by kernel_rfl
 f149 := Tryz.func79.trans (congrArg some (by kernel_rfl))
 f222 := Tryz.func114.trans (congrArg some (by kernel_rfl))
 t3 := Tryz.underlying3
 a3 := Tryz.isAgg3
 z3 := Tryz.sizeOf3
 v3 := Tryz.zeroValue3
 t4 := Tryz.underlying4
 a4 := Tryz.isAgg4
 z4 := Tryz.sizeOf4
 v4 := Tryz.zeroValue4
 t5 := Tryz.underlying5
 a5 := Tryz.isAgg5
 z5 := Tryz.sizeOf5
 v5 := Tryz.zeroValue5
 t9 := Tryz.underlying9
 a9 := Tryz.isAgg9
 z9 := Tryz.sizeOf9
 v9 := Tryz.zeroValue9 }
open Go.RowKit Go.Lib in
/-- strings.LastIndexByte: "LastIndexByte returns the index of the last instance of c in s, or -1 if c is not present in s." (LAID: no walk: one application.) -/
theorem Tryz.strings_LastIndexByte (s : ByteArray) (c : Int) (hs : s.size < 4611686018427387904) (w : World) :
  Calls Tryz.prog 79 #[.string s, .int .u8 c] w fun e w' => e = .returned (.int .i64 (Lib.lastIndexByte s c)) ∧ w' = w := Any.strings_LastIndexByte Tryz.lays149 s c hs w
def Tryz.lays105_ren : Go.Shelf.Ren := ⟨fun | 105 => 70 | 212 => 103 | 99 => 43 | 165 => 100 | 166 => 36 | 170 => 104 | 169 => 40 | 263 => 144 | 264 => 145 | 206 => 78 | 240 => 66 | 241 => 136 | 276 => 99 | 277 => 184 | n => n, fun | 9 => 9 | 3 => 3 | 4 => 4 | 20 => 20 | 0 => 0 | 46 => 87 | 109 => 134 | 5 => 5 | 72 => 71 | 76 => 74 | 51 => 164 | 146 => 165 | 53 => 63 | 148 => 167 | 70 => 68 | 37 => 69 | 75 => 73 | 127 => 110 | 164 => 130 | 80 => 78 | n => n, fun | n => n⟩
theorem Tryz.lays105 : Go.Proofs.Lays.n105 Tryz.prog Tryz.lays105_ren := {
 mixed := by kernel_rfl
 f99 := Tryz.func43.trans (congrArg some (by kernel_rfl))
 f105 := Tryz.func70.trans (congrArg some (by kernel_rfl))
 f165 := Tryz.func100.trans (congrArg some (by kernel_rfl))
 f166 := Tryz.func36.trans (congrArg some (by kernel_rfl))
 f169 := Tryz.func40.trans (congrArg some (by kernel_rfl))
 f170 := Tryz.func104.trans (congrArg some (by kernel_rfl))
 f206 := Tryz.func78.trans (congrArg some (by kernel_rfl))
 f212 := Tryz.func103.trans (congrArg some (by kernel_rfl))
 f240 := Tryz.func66.trans (congrArg some (by kernel_rfl))
 f241 := Tryz.func136.trans (congrArg some (by kernel_rfl))
 f263 := Tryz.func144.trans (congrArg some (by kernel_rfl))
 f264 := Tryz.func145.trans (congrArg some (by kernel_rfl))
 f276 := Tryz.func99.trans (congrArg some (by kernel_rfl))
 f277 := Tryz.func184.trans (congrArg some (by kernel_rfl))
 t0 := Tryz.underlying0
 a0 := Tryz.isAgg0
 z0 := Tryz.sizeOf0
 v0 := Tryz.zeroValue0
 t3 := Tryz.underlying3
 a3 := Tryz.isAgg3
 z3 := Tryz.sizeOf3
 v3 := Tryz.zeroValue3
 t4 := Tryz.underlying4
 a4 := Tryz.isAgg4
 z4 := Tryz.sizeOf4
 v4 := Tryz.zeroValue4
 t5 := Tryz.underlying5
 a5 := Tryz.isAgg5
 z5 := Tryz.sizeOf5
 v5 := Tryz.zeroValue5
 t9 := Tryz.underlying9
 a9 := Tryz.isAgg9
 z9 := Tryz.sizeOf9
 v9 := Tryz.zeroValue9
 t20 := Tryz.underlying20
 a20 := Tryz.isAgg20
 z20 := Tryz.sizeOf20
 v20 := Tryz.zeroValue20
 t37 := Tryz.underlying69
 a37 := Tryz.isAgg69
 z37 := Tryz.sizeOf69
 v37 := Tryz.zeroValue69
 t46 := Tryz.underlying87
 a46 := Tryz.isAgg87
 z46 := Tryz.sizeOf87
 v46 := Tryz.zeroValue87
 t51 := Tryz.underlying164
 a51 := Tryz.isAgg164
 z51 := Tryz.sizeOf164
 v51 := Tryz.zeroValue164
 t53 := Tryz.underlying63
 a53 := Tryz.isAgg63
 z53 := Tryz.sizeOf63
 v53 := Tryz.zeroValue63
 t70 := Tryz.underlying68
 a70 := Tryz.isAgg68
 z70 := Tryz.sizeOf68
 v70 := Tryz.zeroValue68
 t72 := Tryz.underlying71
 a72 := Tryz.isAgg71
 z72 := Tryz.sizeOf71
 v72 := Tryz.zeroValue71
 t75 := Tryz.underlying73
 a75 := Tryz.isAgg73
 z75 := Tryz.sizeOf73
 v75 := Tryz.zeroValue73
 t76 := Tryz.underlying74
 a76 := Tryz.isAgg74
 z76 := Tryz.sizeOf74
 v76 := Tryz.zeroValue74
 t109 := Tryz.underlying134
 a109 := Tryz.isAgg134
 z109 := Tryz.sizeOf134
 v109 := Tryz.zeroValue134
 t127 := Tryz.underlying110
 a127 := Tryz.isAgg110
 z127 := Tryz.sizeOf110
 v127 := Tryz.zeroValue110
 t146 := Tryz.underlying165
 a146 := Tryz.isAgg165
 z146 := Tryz.sizeOf165
 v146 := Tryz.zeroValue165
 t148 := Tryz.underlying167
 a148 := Tryz.isAgg167
 z148 := Tryz.sizeOf167
 v148 := Tryz.zeroValue167
 t164 := Tryz.underlying130
 a164 := Tryz.isAgg130
 z164 := Tryz.sizeOf130
 v164 := Tryz.zeroValue130 }
theorem Tryz.Builder_Extra_105 : Builder.Extra Tryz.prog Tryz.lays105_ren := {
 sizeBuilder := by kernel_rfl
 liesBuilder := by kernel_rfl
 t5 := Tryz.underlying5
 a5 := Tryz.isAgg5
 z5 := Tryz.sizeOf5
 v5 := Tryz.zeroValue5
 infoByte := by kernel_rfl
 cellsByte := by kernel_rfl
 sizeByte := by kernel_rfl
 neB5 := by decide }
open Go.RowKit Go.Lib in
/-- **strings.Repeat: count ≥ 0, the result within one allocation: count copies of s.** (LAID: no walk: one application.) -/
theorem Tryz.strings_Repeat (s : ByteArray) (c : Nat) (w : World) (hc : c ≤ 9223372036854775807) (hlen : s.size * c ≤ 140737488355328) :
  Calls Tryz.prog 70 #[.string s, .int .i64 c] w fun e w' => e = .returned (.string ⟨(Lib.repeatL s.data.toList c).toArray⟩) ∧ Below w.heap.size w w' := Any.strings_Repeat Tryz.lays105 Tryz.Builder_Extra_105 s c w hc hlen
end Go.Proofs
end
namespace Go.Proofs.YthnfmolkppbbpaaGreatDoor
section
theorem extract_take (t : List UInt8) (m : Nat) : (⟨t.toArray⟩ : ByteArray).extract 0 m = ⟨(t.take m).toArray⟩ := by
 apply ByteArray.ext
 simp [ByteArray.data_extract]
theorem beq_dec (x y : Int) : (x == y) = decide (x = y) := by by_cases h : x = y <;> simp [h]
end
section
set_option maxRecDepth 100000
open Go.RowKit Go.Shelf
attribute [local go_sem] Oper.semAt_some toList_mk mk_size
def endNo : List UInt8 := [101, 110, 100, 32, 48, 10]
def endRow : List UInt8 := [101, 110, 100, 32, 48]
theorem rows_end : rowsL endNo = [(endRow, [])] := rfl
def prefB (s p : List UInt8) : Bool := decide (p.length ≤ s.length) && (s.take p.length == p)
set_option maxHeartbeats 400000 in
theorem slite_any (s p : List UInt8) (w : World) (hs : s.length ≤ 1000000000) (hp : p.length ≤ 1000000000) : Calls Tryz.prog 78 #[strV s, strV p] w fun e w' => e = .returned (.bool (prefB s p)) ∧ w = w' := by
 by_cases h : p.length ≤ s.length
 ·have d : decide ((p.length : Int) ≤ (s.length : Int)) = true := decide_eq_true (by omega)
  have hx := extract_take s p.length
  have hle : (p.length : Int) ≤ (s.length : Int) := by omega
  have e : prefB s p = (s.take p.length == p) := by unfold prefB; rw [decide_eq_true h, Bool.true_and]
  rw [e]
  go_enter Tryz.func78, Tryz.ntmps78
  go_wp2_with fail
  go_ret
  simp
 ·have d : decide ((p.length : Int) ≤ (s.length : Int)) = false := decide_eq_false (by omega)
  have e : prefB s p = false := by unfold prefB; rw [decide_eq_false h, Bool.false_and]
  rw [e]
  go_enter Tryz.func78, Tryz.ntmps78
  go_wp2_with fail
  go_ret
  exact ⟨rfl, rfl⟩
set_option maxHeartbeats 400000 in
theorem prefix_any (s p : List UInt8) (w : World) (hs : s.length ≤ 1000000000) (hp : p.length ≤ 1000000000) : Calls Tryz.prog 43 #[strV s, strV p] w fun e w' => e = .returned (.bool (prefB s p)) ∧ Below w.heap.size w w' := by
 go_enter Tryz.func43, Tryz.ntmps43
 go_wp2_with fail
 refine (slite_any s p _ hs hp).mono ?_
 rintro e w1 ⟨rfl, rfl⟩
 go_wp2_with fail
 go_ret
 exact ⟨rfl, Below.refl _ _⟩
theorem callsIn_world {F : Fence} {n : Nat} {P : Program} {f : Nat} {args : Array Value} {w : World} {R : Ending → World → Prop} (h : ∀ W, W = w → CallsIn F n P f args W R) : CallsIn F n P f args w R := h w rfl
structure RdAt0 (b : Nat) (vf vt vn vs : Value) (t : List UInt8) (W : World) : Prop where
 s : W.heap[b]? = some (.cells #[vf, vt, vn, vs] 33 (0, 0))
 t : W.heap[b + 1]? = some (.cells #[strV t] 9 (0, 0))
 r1 : W.heap[b + 1 + 1]? = some (.cells #[.slice none 0 0] 35 (0, 0))
 r2 : W.heap[b + 1 + 1 + 1]? = some (.cells #[.int .i64 0] 3 (0, 0))
 r3 : W.heap[b + 1 + 1 + 1 + 1]? = some (.cells #[.int .i64 0] 37 (0, 0))
/-- what Read holds while it reads -/
structure RdAt (b k : Nat) (t : List UInt8) (W : World) : Prop where
 t : W.heap[b + 1]? = some (.cells #[strV t] 9 (0, 0))
 r1 : W.heap[b + 1 + 1]? = some (.cells #[.slice none 0 0] 35 (0, 0))
 r2 : W.heap[b + 1 + 1 + 1]? = some (.cells #[.int .i64 0] 3 (0, 0))
 r3 : W.heap[b + 1 + 1 + 1 + 1]? = some (.cells #[.int .i64 0] 37 (0, 0))
 l : W.heap[k]? = some (.cells #[.slice none 0 0] 35 (0, 0))
 n : W.heap[k + 1]? = some (.cells #[.int .i64 0] 3 (0, 0))
theorem RdAt0.below {b : Nat} {vf vt vn vs : Value} {t : List UInt8} {W W' : World} (h : RdAt0 b vf vt vn vs t W) (hb : Below W.heap.size W W') : RdAt0 b vf vt vn vs t W' :=
 ⟨blk_below hb (lt_of_blk h.s) h.s, blk_below hb (lt_of_blk h.t) h.t, blk_below hb (lt_of_blk h.r1) h.r1, blk_below hb (lt_of_blk h.r2) h.r2, blk_below hb (lt_of_blk h.r3) h.r3⟩
theorem KeepsRow.trans {bx : Nat} {A B C : World} (h : KeepsRow bx A B) (k : KeepsRow bx B C) : KeepsRow bx A C := ⟨k.1.trans h.1, fun m hm => k.2 m (h.2 m hm)⟩
theorem KeepsRow.put {bx : Nat} {w : World} (hb : bx < w.heap.size) (hg : Tryz.laysM145_ren.g 1 < w.heap.size) (W : World) (x : Nat) (o o' : Obj) (hx : w.heap.size ≤ x) (ho : W.heap[x]? = some o) (_ : o.isCells = false) (_ : o.isWalk = false) : KeepsRow bx W (W.putObj x o') :=
 ⟨World.putObj_heap_other (by omega), fun m hm => by
  have e : (W.putObj x o').heap[Tryz.laysM145_ren.g 1]? = W.heap[Tryz.laysM145_ren.g 1]? := World.putObj_heap_other (by omega)
  rw [← hm]; unfold World.cell?; rw [e]⟩
def IRd (w : World) (b k : Nat) : Option Code → List (List UInt8 × List UInt8) → World → Prop
 | none, pre, W => pre = [] ∧ RdAt b k endNo W ∧ Below b w W
 | some c, _, W => c = .ret ∧ W.heap[b + 1 + 1]? = some (.cells #[.slice none 0 0] 35 (0, 0)) ∧ W.heap[b + 1 + 1 + 1]? = some (.cells #[.int .i64 6] 3 (0, 0)) ∧ W.heap[b + 1 + 1 + 1 + 1]? = some (.cells #[.int .i64 0] 37 (0, 0)) ∧ Below b w W
theorem kept_row {A C : World} {B x : Nat} {row : Option Nat} {cs : Array Value} {t : TypeId} {fr : Nat × Nat} (hg : A.grownBy C row) (hr : ∀ r, row = some r → B ≤ r ∧ ∃ o : Obj, A.heap[r]? = some o ∧ o.isCells = false) (h : A.heap[x]? = some (.cells cs t fr)) : C.heap[x]? = some (.cells cs t fr) :=
 (grownBy_keeps_cells hg (fun r e => (hr r e).2) h rfl).trans h
theorem IRd.own {w : World} {k B : Nat} (hB : w.heap.size ≤ B) (j : Option Code) : OwnFrom B (IRd w w.heap.size k j) := by
 cases j with
 | none => exact fun s A C row hs hg hr => ⟨hs.1, ⟨kept_row hg hr hs.2.1.t, kept_row hg hr hs.2.1.r1, kept_row hg hr hs.2.1.r2, kept_row hg hr hs.2.1.r3, kept_row hg hr hs.2.1.l, kept_row hg hr hs.2.1.n⟩, ownFrom_below (β := Unit) (Nat.le_refl _) hB () A C row hs.2.2 hg hr⟩
 | some c => exact fun s A C row hs hg hr => ⟨hs.1, kept_row hg hr hs.2.1, kept_row hg hr hs.2.2.1, kept_row hg hr hs.2.2.2.1, ownFrom_below (β := Unit) (Nat.le_refl _) hB () A C row hs.2.2.2.2 hg hr⟩
theorem IRd.box {w : World} {k : Nat} (hk : w.heap.size + 1 + 1 + 1 + 1 < k) (j : Option Code) (s : List (List UInt8 × List UInt8)) (A : World) (v : Value) (h : IRd w w.heap.size k j s A) : IRd w w.heap.size k j s (A.setCell ⟨k + 2, 0, none⟩ v) := by
 cases j with
 | none => exact ⟨h.1, ⟨blk_far h.2.1.t (by show w.heap.size + 1 ≠ k + 2; omega), blk_far h.2.1.r1 (by show w.heap.size + 1 + 1 ≠ k + 2; omega), blk_far h.2.1.r2 (by show w.heap.size + 1 + 1 + 1 ≠ k + 2; omega), blk_far h.2.1.r3 (by show w.heap.size + 1 + 1 + 1 + 1 ≠ k + 2; omega), blk_far h.2.1.l (by show k ≠ k + 2; omega), blk_far h.2.1.n (by show k + 1 ≠ k + 2; omega)⟩, h.2.2.setCell (p := ⟨k + 2, 0, none⟩) (by show w.heap.size ≤ k + 2; omega) _⟩
 | some c => exact ⟨h.1, blk_far h.2.1 (by show w.heap.size + 1 + 1 ≠ k + 2; omega), blk_far h.2.2.1 (by show w.heap.size + 1 + 1 + 1 ≠ k + 2; omega), blk_far h.2.2.2.1 (by show w.heap.size + 1 + 1 + 1 + 1 ≠ k + 2; omega), h.2.2.2.2.setCell (p := ⟨k + 2, 0, none⟩) (by show w.heap.size ≤ k + 2; omega) _⟩
theorem RdAt.below {b k : Nat} {t : List UInt8} {W W' : World} (h : RdAt b k t W) (hb : Below W.heap.size W W') : RdAt b k t W' :=
 ⟨blk_below hb (lt_of_blk h.t) h.t, blk_below hb (lt_of_blk h.r1) h.r1, blk_below hb (lt_of_blk h.r2) h.r2, blk_below hb (lt_of_blk h.r3) h.r3, blk_below hb (lt_of_blk h.l) h.l, blk_below hb (lt_of_blk h.n) h.n⟩
theorem IRd.drew {w : World} {b k : Nat} {j : Option Code} {s : List (List UInt8 × List UInt8)} {A : World} (h : IRd w b k j s A) : IRd w b k j s A.drew := by
 cases j with
 | none => exact ⟨h.1, ⟨h.2.1.t, h.2.1.r1, h.2.1.r2, h.2.1.r3, h.2.1.l, h.2.1.n⟩, h.2.2.drew⟩
 | some c => exact ⟨h.1, h.2.1, h.2.2.1, h.2.2.2.1, h.2.2.2.2.drew⟩
theorem keeps_below {W W' : World} (hb : Below W.heap.size W W') : KeepsOthers W W' := ⟨hb.size, fun k o h _ => blk_below hb (lt_of_blk h) h⟩
theorem itoa0 (w : World) : Calls Tryz.prog 39 #[.int .i64 0] w fun e w' => e = .returned (strV [48]) ∧ Below w.heap.size w w' :=
 (Tryz.strconv_Itoa_small 0 (by decide) w).mono (by rintro e w' ⟨rfl, rfl⟩; exact ⟨by rw [show Lib.decDigits 0 = [48] from by decide +kernel], Below.refl _ _⟩)
set_option maxHeartbeats 400000 in
theorem rows_any (t : List UInt8) (w : World) : Calls Tryz.prog 42 #[strV t] w fun e w' => e = .returned (.func (.func 76) #[] #[.pointer (some ⟨w.heap.size, 0, none⟩)]) ∧ w' = w.alloc (.cells #[strV t] 9) := by
 go_enter Tryz.func42, Tryz.ntmps42
 go_wp2_with fail
 go_ret
 exact ⟨rfl, rfl⟩
set_option maxHeartbeats 4000000 in
theorem rread_none (S : Nat → Prop) (vf vt vn vs : Value) (s : SchemaL) (w : World) (hm : MaxAt w) (h : SchemaAt w S vf vt vn vs s) (hc : checkS s = 0) :
  Calls Tryz.prog 11 #[.agg #[vf, vt, vn, vs], strV endNo] w fun e w' => e = .returned (.tuple #[.slice none 0 0, .int .i64 6, .int .i64 0]) ∧ Below w.heap.size w w' := by
 have HS := Lib.hid h; have HC := Lib.hid hc; have HM := Lib.hid hm
 clear h hc hm
 refine (callsIn_wide (n := 6)).1 ?_
 refine callsIn_of_wp_marks Tryz.func11 rfl trivial ?_ rfl
 simp only [Tryz.ntmps11, List.size_toArray, List.length_cons, List.length_nil, Nat.reduceAdd, Nat.reduceSub, Array.replicate_succ, Array.replicate_zero, List.push_toArray, List.append_toArray, List.nil_append, List.cons_append]
 gi_wp2
 refine ⟨trivial, callsIn_world fun W hW => ?_⟩
 have hb0 : Below w.heap.size w W := by rw [hW]; exact (((((Below.refl w.heap.size w).alloc (Nat.le_refl _) _).alloc (by simp) _).alloc (by simp; omega) _).alloc (by simp; omega) _).alloc (by simp; omega) _
 have h0 : W.heap[w.heap.size]? = some (.cells #[vf, vt, vn, vs] 33 (0, 0)) := by rw [hW]; exact blk_old (blk_old (blk_old (blk_old (blk_new rfl))))
 have h1 : W.heap[w.heap.size + 1]? = some (.cells #[strV endNo] 9 (0, 0)) := by rw [hW]; exact blk_old (blk_old (blk_old (blk_new (by simp))))
 have h2 : W.heap[w.heap.size + 1 + 1]? = some (.cells #[.slice none 0 0] 35 (0, 0)) := by rw [hW]; exact blk_old (blk_old (blk_new (by simp)))
 have h3 : W.heap[w.heap.size + 1 + 1 + 1]? = some (.cells #[.int .i64 0] 3 (0, 0)) := by rw [hW]; exact blk_old (blk_new (by simp))
 have h4 : W.heap[w.heap.size + 1 + 1 + 1 + 1]? = some (.cells #[.int .i64 0] 37 (0, 0)) := by rw [hW]; exact blk_new (by simp)
 clear hW
 refine (callsIn_wide.2 (scheck_any S vf vt vn vs s W (HS.out.below hb0))).mono ?_
 rw [HC.out]
 rintro e w1 ⟨rfl, hb⟩
 have h0' := blk_below hb (lt_of_blk h0) h0; have h1' := blk_below hb (lt_of_blk h1) h1; have h2' := blk_below hb (lt_of_blk h2) h2; have h3' := blk_below hb (lt_of_blk h3) h3; have h4' := blk_below hb (lt_of_blk h4) h4
 have HB1 := Lib.hid (hb0.trans (hb.mono hb0.size))
 have HM1 := Lib.hid (HM.out.old HB1.out)
 have hd : RdAt0 w.heap.size vf vt vn vs endNo w1 := ⟨h0', h1', h2', h3', h4'⟩
 have HD := Lib.hid hd
 have c1 : ((w1.alloc (.cells #[.slice none 0 0] 35)).alloc (.cells #[.int .i64 0] 3)).cell? ⟨w.heap.size + 1, 0, none⟩ = some (strV endNo) := cell1R (blk_old (blk_old h1'))
 have dz : ((0 : Int) != 0) = false := rfl
 clear hb hb0 h0 h1 h2 h3 h4 h0' h1' h2' h3' h4' hd
 gi_wp2
 refine ⟨trivial, callsIn_world fun W2 hW2 => ?_⟩
 have hb2 : Below w1.heap.size w1 W2 := by rw [hW2]; exact ((Below.refl w1.heap.size w1).alloc (Nat.le_refl _) _).alloc (by simp) _
 have hl2 : W2.heap[w1.heap.size]? = some (.cells #[.slice none 0 0] 35 (0, 0)) := by rw [hW2]; exact blk_old (blk_new rfl)
 have hn2 : W2.heap[w1.heap.size + 1]? = some (.cells #[.int .i64 0] 3 (0, 0)) := by rw [hW2]; exact blk_new (by simp)
 have z2 : W2.heap.size = w1.heap.size + 2 := by rw [hW2]; simp
 clear hW2 c1
 refine (callsIn_wide.2 (rows_any endNo W2)).mono ?_
 rintro e w3 ⟨rfl, hw3⟩
 have hb3 : Below w1.heap.size w1 w3 := by rw [hw3]; exact hb2.alloc hb2.size _
 have hd3 : RdAt w.heap.size w1.heap.size endNo w3 := by
  have h1 := (HD.out.below hb2)
  rw [hw3]
  exact ⟨blk_old h1.t, blk_old h1.r1, blk_old h1.r2, blk_old h1.r3, blk_old hl2, blk_old hn2⟩
 have hx3 : w3.heap[w1.heap.size + 2]? = some (.cells #[strV endNo] 9 (0, 0)) := by rw [hw3]; exact blk_new z2.symm
 have HB3 := Lib.hid (HB1.out.trans (hb3.mono HB1.out.size)); have HM3 := Lib.hid (HM1.out.old hb3); have HD3 := Lib.hid hd3; have HX3 := Lib.hid hx3
 rw [z2]
 have zk : w.heap.size + 1 + 1 + 1 + 1 < w1.heap.size := lt_of_blk HD.out.r3
 clear hb2 hl2 hn2 hb3 hd3 hx3 hw3 z2
 gi_wp2
 refine wpIn_range_box rfl (by omega) (gf := 76) (lb := #[.pointer (some ⟨w1.heap.size + 2, 0, none⟩)]) rfl trivial (enters_of Tryz.func76 (by kernel_rfl) rfl)
  (rows1_box 5 (by decide) (w1.heap.size + 2) endNo w3 (by decide) HM3.out HX3.out (by have := HM1.out.lt; omega)) (lt_of_blk HX3.out)
  KeepsRow.trans (KeepsRow.put (lt_of_blk HX3.out) HM3.out.lt) (fun _ => rfl)
  (IRd w w.heap.size w1.heap.size) (IRd.own (Nat.le_trans HB3.out.size (Nat.le_refl _))) (IRd.box (by omega)) ⟨rfl, HD3.out, HB3.out⟩
  (fun x => { tmps := #[.agg #[vf, vt, vn, vs], strV endNo, .pointer (some ⟨w.heap.size, 0, none⟩), .pointer (some ⟨w.heap.size + 1, 0, none⟩), .pointer (some ⟨w.heap.size + 1 + 1, 0, none⟩), .pointer (some ⟨w.heap.size + 1 + 1 + 1, 0, none⟩), .pointer (some ⟨w.heap.size + 1 + 1 + 1 + 1, 0, none⟩), .int .i64 0, .pointer (some ⟨w1.heap.size, 0, none⟩), .pointer (some ⟨w1.heap.size + 1, 0, none⟩), strV x.1, strV x.2, undef, undef, .agg #[vf, vt, vn, vs], .int .i64 0, .int .i64 0, .bool false, undef, strV endNo, .func (.func 76) #[] #[.pointer (some ⟨w1.heap.size + 2, 0, none⟩)], strV x.1, strV x.2, undef, undef, undef, undef, undef, undef, undef, undef, undef, undef, undef, undef, undef, undef, undef, undef, undef, undef, undef, undef, undef, undef, undef, undef, undef, undef, undef, undef, undef, undef, undef, undef, undef, undef, undef, undef, undef, undef, undef, undef], defers := [] }) ?assign ?body ?done ?stop
 case assign =>
  intro l x W K hK
  dsimp only [encsR]
  gi_wp2
  exact hK
 case body =>
  rintro l pre x W ⟨rfl, hd, hB⟩ hpre
  obtain rfl : x = (endRow, []) := by
   rw [rows_end] at hpre
   obtain ⟨r, hr⟩ := hpre
   simp at hr; exact hr.1
  dsimp only
  have HDd := Lib.hid hd; have HBd := Lib.hid hB
  clear hd hB
  gi_wp2
  refine ⟨trivial, (CallsIn.inRound l (callsIn_wide.2 (prefix_any endRow [101, 110, 100, 32] W (by decide) (by decide)))).mono ?_⟩
  rw [show prefB endRow [101, 110, 100, 32] = true from by decide]
  rintro e W2 ⟨rfl, hb⟩
  have HD2 := Lib.hid (HDd.out.below hb); have HB2 := Lib.hid (HBd.out.trans (hb.mono HBd.out.size)); have HK2 := Lib.hid (keeps_below hb)
  have cl := cell1R HD2.out.l
  clear hb
  gi_wp2
  refine ⟨trivial, (CallsIn.inRound l (callsIn_wide.2 (itoa0 W2))).mono ?_⟩
  rintro e W3 ⟨rfl, hb⟩
  have HD3' := HD2.out.below hb
  have HBB := Lib.hid (HB2.out.trans (hb.mono HB2.out.size)); have HKK := Lib.hid (HK2.out.trans (keeps_below hb)); have HDD := Lib.hid HD3'
  have cl3 := cell1R HD3'.l; have ct3 := cell1R HD3'.t; have cr1 := cell1R HD3'.r1; have cr2 := cell1R HD3'.r2; have cr3 := cell1R HD3'.r3
  have fr1 := frozen_of_row _ _ 0 _ _ HD3'.r1; have fr2 := frozen_of_row _ _ 0 _ _ HD3'.r2; have fr3 := frozen_of_row _ _ 0 _ _ HD3'.r3
  have hne : (!(endRow == (({ data := #[101, 110, 100, 32] } : ByteArray) ++ { data := #[48] }).toList)) = false := by decide +kernel
  have mixed : Tryz.prog.follows .mixedOrders = true := by kernel_rfl
  clear hb HD3' cl
  have n1 : w.heap.size + 1 + 1 ≠ w.heap.size + 1 + 1 + 1 := by omega
  have n2 : w.heap.size + 1 + 1 ≠ w.heap.size + 1 + 1 + 1 + 1 := by omega
  have n3 : w.heap.size + 1 + 1 + 1 ≠ w.heap.size + 1 + 1 + 1 + 1 := by omega
  have hI : IRd w w.heap.size w1.heap.size (some .ret) [(endRow, [])] ((((W3.setCell ⟨w.heap.size + 1 + 1, 0, none⟩ (.slice none 0 0)).setCell ⟨w.heap.size + 1 + 1 + 1, 0, none⟩ (.int .i64 6)).setCell ⟨w.heap.size + 1 + 1 + 1 + 1, 0, none⟩ (.int .i64 0))) :=
   ⟨rfl, blk_far (a := ⟨w.heap.size + 1 + 1 + 1 + 1, 0, none⟩) (blk_far (a := ⟨w.heap.size + 1 + 1 + 1, 0, none⟩) (blk_set (i := 0) (v := .slice none 0 0) HDD.out.r1) n1) n2,
    blk_far (a := ⟨w.heap.size + 1 + 1 + 1 + 1, 0, none⟩) (blk_set (i := 0) (v := .int .i64 6) (blk_far (a := ⟨w.heap.size + 1 + 1, 0, none⟩) HDD.out.r2 n1.symm)) n3,
    blk_set (i := 0) (v := .int .i64 0) (blk_far (a := ⟨w.heap.size + 1 + 1 + 1, 0, none⟩) (blk_far (a := ⟨w.heap.size + 1 + 1, 0, none⟩) HDD.out.r3 n2.symm) n3.symm),
    ((HBB.out.setCell (p := ⟨w.heap.size + 1 + 1, 0, none⟩) (by show w.heap.size ≤ w.heap.size + 1 + 1; omega) _).setCell (p := ⟨w.heap.size + 1 + 1 + 1, 0, none⟩) (by show w.heap.size ≤ w.heap.size + 1 + 1 + 1; omega) _).setCell (p := ⟨w.heap.size + 1 + 1 + 1 + 1, 0, none⟩) (by show w.heap.size ≤ w.heap.size + 1 + 1 + 1 + 1; omega) _⟩
  have HI := Lib.hid hI
  clear hI
  gi_wp2
  gi_region_with_o (fail)
  all_goals gi_wp2
  all_goals exact ⟨some .ret, rfl, (((HKK.out.trans (KeepsOthers.setCell _ _ _)).trans (KeepsOthers.setCell _ _ _)).trans (KeepsOthers.setCell _ _ _)).trans (KeepsOthers.drew _), (fun h => nomatch h), HI.out.drew⟩
 case done =>
  rintro D W hD ⟨hn, _⟩ hK
  rw [rows_end] at hn; cases hn
 case stop =>
  rintro D c pre W hD hpre ⟨rfl, g1, g2, g3, hB⟩ hK
  gi_wp2
  have hne : ∀ x, x < w1.heap.size → x ≠ D := fun x hx => by have := lt_of_blk HX3.out; omega
  have d1 : ∀ x, x < w1.heap.size → (W.putObj D (.deferred none)).heap[x]? = W.heap[x]? := fun x hx => World.putObj_heap_other (hne x hx)
  have c1 : (W.putObj D (.deferred none)).cell? ⟨w.heap.size + 1 + 1, 0, none⟩ = some (.slice none 0 0) := cell1R ((d1 _ (by omega)).trans g1)
  have c2 : (W.putObj D (.deferred none)).cell? ⟨w.heap.size + 1 + 1 + 1, 0, none⟩ = some (.int .i64 6) := cell1R ((d1 _ (by omega)).trans g2)
  have c3 : (W.putObj D (.deferred none)).cell? ⟨w.heap.size + 1 + 1 + 1 + 1, 0, none⟩ = some (.int .i64 0) := cell1R ((d1 _ (by omega)).trans g3)
  refine ⟨by simp, .inl ⟨_, _, rfl, run_takeDeferred hK, ?_⟩⟩
  refine ⟨.tuple #[.slice none 0 0, .int .i64 6, .int .i64 0], ?_, rfl, hB.trans (belowK_b (w := w) (Nat.le_refl _) W D _ _ (by have := lt_of_blk HX3.out; omega) hK rfl rfl)⟩
  simp [results, Tryz.f11, go_sem, c1, c2, c3]
end
section
set_option maxRecDepth 100000
open Go.RowKit
attribute [local go_sem] toList_mk mk_size
@[local go_sem] theorem get_zeroP (c : UInt8) (l : List UInt8) (h : 0 < (⟨(c :: l).toArray⟩ : ByteArray).size) : (⟨(c :: l).toArray⟩ : ByteArray)[0]'h = c := rfl
end
section
set_option maxRecDepth 100000
open Go.RowKit
attribute [local go_sem] toList_mk mk_size
theorem hexD_get (n : Nat) (h : n < hexD.length) (h' : n < (⟨hexD.toArray⟩ : ByteArray).size) : (⟨hexD.toArray⟩ : ByteArray)[n]'h' = digH n := by
 show hexD.toArray[n] = _
 unfold digH
 rw [List.getElem_toArray, List.getD, List.getElem?_eq_getElem h]; rfl
theorem hexN_more {k n : Nat} (h : k < 16) : (hexN 16 n).take (k + 1) = (hexN 16 n).take k ++ [digH (n / 16 ^ (15 - k) % 16)] := by
 rw [List.take_add_one, hexN_get 16 n k h]; rfl
theorem bits_range (op : BinOp) (x y : Int) : 0 ≤ bits op .u64 x y ∧ bits op .u64 x y < 18446744073709551616 := by
 unfold bits
 rw [IntKind.wrap_u64]
 constructor <;> omega
theorem and_15 (m : Nat) (h : m < 18446744073709551616) : bits .and .u64 (m : Int) 15 = ((m % 16 : Nat) : Int) := by
 unfold bits
 rw [IntKind.wrap_u64]
 have e1 : (BitVec.ofInt 64 (m : Int)).toNat = m := by rw [BitVec.toNat_ofInt]; simp; omega
 have e2 : (BitVec.ofInt 64 15).toNat = 15 := by decide
 have e3 : ((BitVec.ofInt 64 (m : Int)) &&& (BitVec.ofInt 64 15)).toNat = m % 16 := by
  rw [BitVec.toNat_and, e1, e2]
  exact Nat.and_two_pow_sub_one_eq_mod m 4
 show ((((BitVec.ofInt 64 (m : Int)) &&& (BitVec.ofInt 64 15)).toNat : Nat) : Int) % _ = _
 rw [e3]; omega
theorem nib_at (n k : Nat) (h : n < 18446744073709551616) (hk : k < 16) : bits .and .u64 ((n : Int) / 2 ^ (60 - 4 * k)) 15 = ((n / 16 ^ (15 - k) % 16 : Nat) : Int) := by
 have e : ((n : Int) / 2 ^ (60 - 4 * k)) = ((n / 2 ^ (60 - 4 * k) : Nat) : Int) := by simp
 rw [e, and_15 _ (Nat.lt_of_le_of_lt (Nat.div_le_self _ _) h)]
 have e2 : 2 ^ (60 - 4 * k) = 16 ^ (15 - k) := by
  rw [show 60 - 4 * k = 4 * (15 - k) by omega, Nat.pow_mul]
 rw [e2]
end
section
set_option maxRecDepth 100000
open Go.RowKit
attribute [local go_sem] toList_mk mk_size str_append
theorem partsP_range (ka kb : Int) (L : List (List UInt8)) : 0 ≤ partsP ka kb L ∧ partsP ka kb L < 18446744073709551616 := by
 unfold partsP sumP
 exact bits_range _ _ _
theorem repeat_zero (n : Nat) : Lib.repeatL [48] n = List.replicate n 48 := by
 induction n with
 | zero => rfl
 | succ n ih => rw [Lib.repeatL, ih]; rfl
theorem repeat_any (n : Nat) (hn : n ≤ 1000) (w : World) : Calls Tryz.prog 70 #[.string ⟨#[48]⟩, .int .i64 n] w fun e w' => e = .returned (strV (List.replicate n 48)) ∧ Below w.heap.size w w' := by
 refine (Tryz.strings_Repeat ⟨#[48]⟩ n w (by omega) (by show 1 * n ≤ _; omega)).mono ?_
 rintro e w' ⟨rfl, hb⟩
 refine ⟨?_, hb⟩
 rw [show (⟨#[48]⟩ : ByteArray).data.toList = [48] from rfl, repeat_zero]
set_option maxHeartbeats 4000000 in
theorem rsum_any' (t : List UInt8) (w : World) (ht : t.length ≤ 60000) (hdb : DbAt w) :
  Calls Tryz.prog 38 #[strV t] w fun e w' => e = .returned (strV (sumT t)) ∧ Below w.heap.size w w' := by
 obtain ⟨q, hq⟩ : ∃ q : Nat, partsP 0 0 [t] = q := Int.eq_ofNat_of_zero_le (partsP_range 0 0 [t]).1
 have hq2 : q < 18446744073709551616 := by have := (partsP_range 0 0 [t]).2; omega
 have hs : sumT t = hexN 16 q := by unfold sumT; rw [hq]; rfl
 rw [hs]
 have HD := Lib.hid hdb; have HQ := Lib.hid hq
 clear hdb hq hs
 go_enter Tryz.func38, Tryz.ntmps38
 go_wp2_with fail
 refine wp_calls_world (fun W hW => ?_)
 have hb0 : Below w.heap.size w W := by rw [hW]; exact (Below.refl w.heap.size w).alloc (Nat.le_refl _) _
 have hv : Vec W Any1 1 encS (.slice (some ⟨w.heap.size, 0, none⟩) 1 1) [t] := by rw [hW]; exact blockVec (k := 1) (enc := encS) (L := [t]) (S := Any1) (fun _ => rfl) (blk_new rfl) trivial 1 rfl
 clear hW
 refine (sparts_any Any1 0 0 _ [t] W hv (fun x hx => by simp at hx; subst hx; exact ht) (by simp)).mono ?_
 rw [HQ.out]
 rintro e w1 ⟨rfl, hb⟩
 have HB1 := Lib.hid (hb0.trans (hb.mono hb0.size))
 clear hb hb0 hv
 go_wp2_with fail
 refine (fuint_any q hq2 w1 (HD.out.old HB1.out)).mono ?_
 rintro e w2 ⟨⟨k, k1, k2, hk, rfl⟩, hb⟩
 have HB2 := Lib.hid (HB1.out.trans (hb.mono HB1.out.size))
 have hpad := hexN_pad k2 hk
 have hlen := hexN_len k q
 obtain ⟨z, hz⟩ : ∃ z, hexN k q = z := ⟨_, rfl⟩
 rw [hz] at hpad hlen ⊢
 obtain ⟨j, hj⟩ : ∃ j, 16 - k = j := ⟨_, rfl⟩
 have hwl : IntKind.i64.wrap (16 - (z.length : Int)) = (j : Int) := by rw [hlen, IntKind.wrap_i64]; omega
 have hzl : z.length ≤ 16 := by omega
 rw [hj] at hpad
 have hj16 : j ≤ 16 := by omega
 have hl1 : (List.replicate j (48 : UInt8)).length = j := List.length_replicate
 obtain ⟨y, hy⟩ : ∃ y, List.replicate j (48 : UInt8) = y := ⟨_, rfl⟩
 have hrep := fun w => repeat_any j (by omega) w
 rw [hy] at hl1 hrep hpad
 have hyl : y.length ≤ 16 := by omega
 have HRp := Lib.hid hrep; have HP := Lib.hid hpad; have HW := Lib.hid hwl
 have hno : ¬ 9223372036854775807 < y.length + z.length := by omega
 clear hb hpad hz hj hy hrep hk k1 k2 hlen hl1 hwl
 have hwl := HW.out
 go_wp2_with fail
 clear hwl
 refine (HRp.out _).mono ?_
 rintro e w3 ⟨rfl, hb⟩
 have HB3 := Lib.hid (HB2.out.trans (hb.mono HB2.out.size))
 clear hb
 go_wp2_with fail
 go_ret
 exact ⟨by rw [← HP.out]; rfl, HB3.out⟩
theorem hex_cut (c : UInt8) : hexD.contains c = (valH c).isSome := by
 have : ∀ n : Fin 256, hexD.contains (UInt8.ofNat n.val) = (valH (UInt8.ofNat n.val)).isSome := by decide +kernel
 have h := this ⟨c.toNat, c.toNat_lt⟩
 simpa using h
theorem drop_all {p : UInt8 → Bool} : ∀ (l : List UInt8), l.dropWhile p = [] ↔ l.all p = true
 | [] => by simp
 | x :: l => by
  rw [List.dropWhile_cons, List.all_cons]
  cases hp : p x
  ·simp
  ·simp [drop_all l]
theorem trim_all (t : List UInt8) : (Lib.trimS t hexD == []) = t.all fun c => (valH c).isSome := by
 have hp : (fun c => hexD.contains c) = fun c => (valH c).isSome := funext hex_cut
 have h1 : Lib.trimS t hexD = [] ↔ t.all (fun c => (valH c).isSome) = true := by
  unfold Lib.trimS Lib.trimLeftS Lib.trimRightS
  rw [← hp]
  constructor
  ·intro h
   have h2 := (drop_all _).1 h
   rw [List.all_eq_true] at h2 ⊢
   intro x hx
   by_cases hd : (t.reverse.dropWhile fun c => hexD.contains c) = []
   ·have := (drop_all _).1 hd
    rw [List.all_eq_true] at this
    exact this x (List.mem_reverse.2 hx)
   ·exfalso
    have h3 : ∀ y ∈ t.reverse.dropWhile (fun c => hexD.contains c), hexD.contains y = true := fun y hy => h2 y (List.mem_reverse.2 hy)
    have h4 := List.head_dropWhile_not (p := fun c => hexD.contains c) (l := t.reverse) hd
    have h5 := h3 _ (List.head_mem hd)
    rw [h5] at h4
    cases h4
  ·intro h
   have h2 : t.reverse.dropWhile (fun c => hexD.contains c) = [] := (drop_all _).2 (by rw [List.all_reverse]; exact h)
   rw [h2]; rfl
 rw [Bool.eq_iff_iff, beq_iff_eq]
 exact h1
theorem trim_any (t : List UInt8) (w : World) (ht : t.length ≤ 1000000000) : Calls Tryz.prog 115 #[strV t, .string ⟨#[48, 49, 50, 51, 52, 53, 54, 55, 56, 57, 97, 98, 99, 100, 101, 102]⟩] w fun e w' => e = .returned (strV (Lib.trimS t hexD)) ∧ Below w.heap.size w w' := by
 have h := Any.strings_Trim_laid Tryz.lays160 (by kernel_rfl) ⟨t.toArray⟩ ⟨hexD.toArray⟩ w (by rw [mk_size]; omega) (by decide) (fun j b hb => by
  have : ∀ b ∈ hexD, b.toNat < 128 := by decide
  exact this b (List.mem_of_getElem? hb))
 exact h
set_option maxHeartbeats 1000000 in
theorem digits_any (t : List UInt8) (w : World) (ht : t.length ≤ 1000000000) : Calls Tryz.prog 80 #[strV t] w fun e w' => e = .returned (.bool (digB t)) ∧ Below w.heap.size w w' := by
 unfold digB
 by_cases h : t.length = 16
 ·have d1 : ((t.length : Int) == 16) = true := by simp; omega
  have e1 : (t.length == 16) = true := by simpa using h
  have ht2 := trim_all t
  rw [e1, Bool.true_and, ← ht2]
  clear ht2 e1 h
  go_enter Tryz.func80, Tryz.ntmps80
  go_wp2_with fail
  refine (trim_any t _ ht).mono ?_
  rintro e w1 ⟨rfl, hb⟩
  have HB := Lib.hid hb; clear hb
  obtain ⟨z, hz⟩ : ∃ z, Lib.trimS t hexD = z := ⟨_, rfl⟩
  rw [hz]
  go_wp2_with fail
  go_ret
  exact ⟨by rw [hz]; simp, HB.out⟩
 ·have d1 : ((t.length : Int) == 16) = false := by simp; omega
  have e1 : (t.length == 16) = false := by simpa using h
  rw [e1, Bool.false_and]
  clear e1 h
  go_enter Tryz.func80, Tryz.ntmps80
  go_wp2_with fail
  go_ret
  exact ⟨rfl, Below.refl _ _⟩
theorem lastI_at (a b : List UInt8) (h : (9 : UInt8) ∉ b) : Lib.lastIndexByte ⟨(a ++ 9 :: b).toArray⟩ 9 = (a.length : Int) := by
 have hb : ∀ (j : Nat) (hj : j < (a ++ 9 :: b).length), (⟨(a ++ 9 :: b).toArray⟩ : ByteArray).data[j]! = (a ++ 9 :: b)[j] := fun j hj => by
  show (a ++ 9 :: b).toArray[j]! = _
  rw [getElem!_pos _ _ (by simpa using hj)]; simp
 have hsz : (⟨(a ++ 9 :: b).toArray⟩ : ByteArray).size = a.length + 1 + b.length := by rw [mk_size]; simp; omega
 rcases Lib.lastIndexByte_spec ⟨(a ++ 9 :: b).toArray⟩ 9 with ⟨_, hn⟩ | ⟨i, hi, e, hc, hn⟩
 ·have := hn a.length (by rw [hsz]; omega)
  rw [hb a.length (by simp)] at this
  simp at this
 ·rw [e]
  rw [hsz] at hi
  rcases Nat.lt_trichotomy i a.length with h1 | h1 | h1
  ·have := hn a.length h1 (by rw [hsz]; omega)
   rw [hb a.length (by simp)] at this
   simp at this
  ·rw [h1]
  ·exfalso
   rw [hb i (by simp; omega)] at hc
   rw [List.getElem_append_right (by omega)] at hc
   obtain ⟨k, hk⟩ : ∃ k, i - a.length = k + 1 := ⟨i - a.length - 1, by omega⟩
   have hkb : k < b.length := by omega
   have e2 : (9 :: b)[i - a.length]'(by simp; omega) = b[k] := by simp [hk]
   rw [e2] at hc
   apply h
   have : b[k] = 9 := UInt8.toNat.inj (by simpa using Int.ofNat.inj (by simpa using hc))
   rw [← this]; exact List.getElem_mem _
theorem lastI_no (t : List UInt8) (h : (9 : UInt8) ∉ t) : Lib.lastIndexByte ⟨t.toArray⟩ 9 = -1 := by
 rcases Lib.lastIndexByte_spec ⟨t.toArray⟩ 9 with ⟨e, _⟩ | ⟨i, hi, e, hc, hn⟩
 ·exact e
 ·exfalso
  have hi' : i < t.length := by simpa [mk_size] using hi
  have hb : (⟨t.toArray⟩ : ByteArray).data[i]! = t[i] := by
   show t.toArray[i]! = _
   rw [getElem!_pos _ _ (by simpa using hi')]; simp
  rw [hb] at hc
  apply h
  have : t[i] = 9 := UInt8.toNat.inj (by simpa using Int.ofNat.inj (by simpa using hc))
  rw [← this]; exact List.getElem_mem _
end
section
open Go.RowKit
theorem deck_law {w w1 : World} {a : Option Addr} {n cap : Nat} {zs : List Int} (hn : n ≤ 400) (hr : IsRow .i64 w a n cap zs) (hb : Below w.heap.size w w1) :
  DeckAt (w1.alloc (.cells #[.slice a n cap, .int .i64 0, .int .u64 11400714819323198485] 65)) w1.heap.size :=
 deck_new hn fun h0 => by
  obtain ⟨b, off, e1, e2, e3⟩ := hr.read h0
  exact ⟨b, off, e1, Nat.lt_of_lt_of_le e2 hb.size, fun i hi => by obtain ⟨x, hx⟩ := e3 i hi; exact ⟨x, (hb.cell (p := ⟨b, off + i, none⟩) e2).trans hx⟩⟩
end
section
set_option maxRecDepth 100000
open Go.RowKit Cal
attribute [local go_sem] toList_mk mk_size str_append
theorem SchemaAt.moved {D : Nat} {w w' : World} {S : Nat → Prop} {vf vt vn vs : Value} {s : SchemaL} (h : SchemaAt w S vf vt vn vs s) (hS : ∀ b, S b → b ≠ D) (m : Moved D w w') : SchemaAt w' S vf vt vn vs s :=
 have mv : ∀ b, b < w.heap.size → S b → w'.heap[b]? = w.heap[b]? ∧ S b := fun b hb hs => ⟨m.grown.block b hb (by have := hS b hs; simp; omega), hs⟩
 ⟨h.1.move m.size mv, h.2.1.move m.size mv, h.2.2.1.move m.size mv, h.2.2.2.move m.size mv⟩
theorem fields_cell {w : World} {S : Nat → Prop} {a : Option Addr} {n cap : Nat} {F : List F2} (h : Vec w S 2 encF (.slice a n cap) F) (h0 : 0 < F.length) : ∃ b off, a = some ⟨b, off, none⟩ ∧ S b ∧ b < w.heap.size ∧ ∀ j, j < F.length → w.cell? ⟨b, off + j * 2 + 1, none⟩ = some (.int .i64 (F.getD j default).2) := by
 obtain ⟨b, off, e, hS, hb, hc⟩ := vec_cell2 h h0
 exact ⟨b, off, e, hS, hb, fun j hj => hc j hj 1 _ rfl⟩
/-- where a law stands that has dealt a schema: the deck in block D, the schema in block y, the kind of a field in cell o of block b -/
structure Drawn (D : Nat) (w : World) (y : Nat) (S : Nat → Prop) (vf vt vn vs : Value) (s : SchemaL) (b o : Nat) (kf : Int) (wr : World) : Prop where
 m : Moved D w wr
 x : wr.heap[y]? = some (.cells #[vf, vt, vn, vs] 33 (0, 0))
 s : SchemaAt wr S vf vt vn vs s
 c : wr.cell? ⟨b, o, none⟩ = some (.int .i64 kf)
 ne : ∀ b, S b → b ≠ D
 yD : y ≠ D
 bD : b ≠ D
end
end Go.Proofs.YthnfmolkppbbpaaGreatDoor
