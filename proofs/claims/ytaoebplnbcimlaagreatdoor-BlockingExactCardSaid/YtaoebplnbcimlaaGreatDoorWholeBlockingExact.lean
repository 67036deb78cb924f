/-
  For every input the law BlockingExact returns true, and its arguments read afterwards as they read before; no condition.
-/
import Derived.Test.YtaoebplnbcimlaaGreatDoorPartBe10
import Derived.Test.YtaoebplnbcimlaaGreatDoorRows
import Derived.ProofKit
import Derived.JoinedOf
import Derived.Deep.DeepCutAuto
import Derived.Lib.QuietBelow
import Derived.WalkKit
import Derived.OpenShut
import Derived.ShutString
import Derived.ChangeOld
import Derived.Below
import Derived.Lib.SmallJoins
import Derived.Test.YtaoebplnbcimlaaGreatDoorCards
import Derived.Test.YtaoebplnbcimlaaGreatDoorTie
import Derived.LaidMore
import Derived.Lay
import Derived.SevenTiedAt
import Derived.Stop.Joined
section
/-
  The closed facts of the row of BlockingExact, each a lemma of its own (so that the kernel gives its memory back behind each).
-/
namespace Go.Proofs.YtaoebplnbcimlaaGreatDoor.blockingExact
theorem and_tt {a b : Bool} (h : a = true) (h' : b = true) : (a && b) = true := by rw [h, h']; rfl
set_option maxRecDepth 100000 in
set_option maxHeartbeats 100000000 in
theorem closed : joinedFacts Tryz.pinned.checked.prog 3 Tryz.f3 Rows.blockingExactSpec Rows.blockingExactRow = true := by
  unfold joinedFacts
  repeat' (with_reducible refine and_tt ?_ ?_)
  · as_aux_lemma => kernel_rfl
  · as_aux_lemma => kernel_rfl
  · as_aux_lemma => kernel_rfl
  · as_aux_lemma => kernel_rfl
  · as_aux_lemma => kernel_rfl
  · as_aux_lemma => kernel_rfl
  · as_aux_lemma => kernel_rfl
  · as_aux_lemma => kernel_rfl
  · as_aux_lemma => kernel_rfl
  · as_aux_lemma => kernel_rfl
  · as_aux_lemma => kernel_rfl
  · as_aux_lemma => kernel_rfl
  · as_aux_lemma => kernel_rfl
  · as_aux_lemma => kernel_rfl
  · as_aux_lemma => kernel_rfl
  · as_aux_lemma => kernel_rfl
  · as_aux_lemma => kernel_rfl
  · as_aux_lemma => kernel_rfl
  · as_aux_lemma => kernel_rfl
  · as_aux_lemma => kernel_rfl
  · as_aux_lemma => kernel_rfl
  · as_aux_lemma => kernel_rfl
  · as_aux_lemma => kernel_rfl
  · as_aux_lemma => kernel_rfl
  · as_aux_lemma => kernel_rfl
  · as_aux_lemma => kernel_rfl
  · as_aux_lemma => kernel_rfl
  · as_aux_lemma => kernel_rfl
  · as_aux_lemma => kernel_rfl
  · as_aux_lemma => kernel_rfl
  · as_aux_lemma => kernel_rfl
  · as_aux_lemma => kernel_rfl
end Go.Proofs.YtaoebplnbcimlaaGreatDoor.blockingExact
end
section
/- The law BlockingExact, walked: for every list of numbers, list of block keys, key, record, component and index it returns true and leaves what was there. -/
set_option linter.unusedSimpArgs false
set_option linter.unusedVariables false
set_option maxRecDepth 100000
namespace Go.Proofs.YtaoebplnbcimlaaGreatDoor
open Go.RowKit Cal
attribute [local go_sem] toList_mk mk_size bytes_append str_append
set_option maxHeartbeats 16000000 in
theorem bexact_walk (a : Option Addr) (n cap : Nat) (zs : List Int) (kv : Value) (Ks0 : List (List (Int × Int))) (xa xb : Int) (id0 ver0 : Int) (sv0 : Value) (vals0 : List (List UInt8)) (cx cy : Int) (i0 : Int) (w : World)
    (hr : IsRow .i64 w a n cap zs) (hkeys : KeysVec w Any1 kv Ks0 ∧ Ks0.length ≤ maxLen) (hraw : Vec w Any1 1 encS sv0 vals0) (hi : (Lit.int .i64 i0).wf = true) :
    Calls Tryz.prog 3 #[.slice a n cap, kv, .agg #[.int .u64 xa, .int .u64 xb], .agg #[.int .i64 id0, .int .i64 ver0, sv0], .agg #[.int .i64 cx, .int .i64 cy], .int .i64 i0] w fun e w' => e = .returned (.bool true) ∧ Below w.heap.size w w' := by
  have hir : -9223372036854775808 ≤ i0 ∧ i0 ≤ 9223372036854775807 := by simpa [Lit.wf, IntKind.min, IntKind.max, IntKind.signed, IntKind.bits] using hi
  obtain ⟨hi1, hi2⟩ := hir
  obtain ⟨hkv0, hkl0⟩ := hkeys
  obtain ⟨ra, rc, rfl⟩ := hraw.slice
  obtain ⟨ka, kc, rfl⟩ := hkv0.slice
  have HR := Lib.hid hr; have HRaw := Lib.hid hraw; have HK0 := Lib.hid hkv0; have HKL := Lib.hid hkl0
  clear hr hraw hkv0 hkl0 hi
  go_enter Tryz.func3, Tryz.ntmps3
  go_wp2_with fail
  refine wp_calls_world (fun W0 hW0 => ?_)
  have hb0 : Below w.heap.size w W0 := by rw [hW0]; exact (((Below.refl w.heap.size w).alloc (Nat.le_refl _) _).alloc (by simp) _).alloc (by simp; omega) _
  have hk0 : W0.heap[w.heap.size]? = some (.cells #[.int .u64 xa, .int .u64 xb] 26 (0, 0)) := by rw [hW0]; exact blk_old (blk_old (blk_new rfl))
  have hx0 : W0.heap[w.heap.size + 1]? = some (.cells #[.int .i64 id0, .int .i64 ver0, .slice ra vals0.length rc] 29 (0, 0)) := by rw [hW0]; exact blk_old (blk_new (by simp))
  have hc0 : W0.heap[w.heap.size + 2]? = some (.cells #[.int .i64 cx, .int .i64 cy] 31 (0, 0)) := by rw [hW0]; exact blk_new (by simp)
  clear hW0
  refine (awake_b _).mono ?_; rintro e w1 ⟨rfl, hb1⟩
  have HB1 := Lib.hid (hb0.trans (hb1.mono hb0.size))
  have HE1 := Lib.hid (show w1.heap[w.heap.size]? = some (.cells #[.int .u64 xa, .int .u64 xb] 26 (0, 0)) ∧ w1.heap[w.heap.size + 1]? = some (.cells #[.int .i64 id0, .int .i64 ver0, .slice ra vals0.length rc] 29 (0, 0)) ∧ w1.heap[w.heap.size + 2]? = some (.cells #[.int .i64 cx, .int .i64 cy] 31 (0, 0)) from
    ⟨blk_below hb1 (lt_of_blk hk0) hk0, blk_below hb1 (lt_of_blk hx0) hx0, blk_below hb1 (lt_of_blk hc0) hc0⟩)
  clear hb0 hk0 hx0 hc0 hb1
  by_cases hn : n ≤ 400
  rotate_left
  · have hd : decide (n ≤ 400) = false := by simpa using hn
    go_wp2_with fail
    refine (few_any a n cap _).mono ?_; rintro e w' ⟨rfl, rfl⟩
    go_wp2_with fail
    refine (awake_b _).mono ?_; rintro e w9 ⟨rfl, hb9⟩
    go_wp2_with fail
    go_ret
    exact ⟨rfl, HB1.out.trans (hb9.mono HB1.out.size)⟩
  have hd : decide (n ≤ 400) = true := by simpa using hn
  go_wp2_with fail
  refine (few_any a n cap _).mono ?_; rintro e w' ⟨rfl, rfl⟩
  go_wp2_with fail
  refine (bsmall_any Any1 _ Ks0 _ (HK0.out.below HB1.out) HKL.out).mono ?_
  rintro e w2 ⟨⟨b, rfl, hbk⟩, hb⟩
  have HB2 := Lib.hid (HB1.out.trans (hb.mono HB1.out.size))
  have HE2 := Lib.hid (show w2.heap[w.heap.size]? = some (.cells #[.int .u64 xa, .int .u64 xb] 26 (0, 0)) ∧ w2.heap[w.heap.size + 1]? = some (.cells #[.int .i64 id0, .int .i64 ver0, .slice ra vals0.length rc] 29 (0, 0)) ∧ w2.heap[w.heap.size + 2]? = some (.cells #[.int .i64 cx, .int .i64 cy] 31 (0, 0)) from
    ⟨blk_below hb (lt_of_blk HE1.out.1) HE1.out.1, blk_below hb (lt_of_blk HE1.out.2.1) HE1.out.2.1, blk_below hb (lt_of_blk HE1.out.2.2) HE1.out.2.2⟩)
  clear hb HB1 HE1
  cases b
  · clear hbk
    go_wp2_with fail
    refine (awake_b _).mono ?_; rintro e w9 ⟨rfl, hb9⟩
    go_wp2_with fail
    go_ret
    exact ⟨rfl, HB2.out.trans (hb9.mono HB2.out.size)⟩
  obtain ⟨hk20, hK20⟩ := hbk rfl
  have HK20 := Lib.hid hK20
  clear hbk hK20
  obtain ⟨x0, x1, x2⟩ := cells3 HE2.out.2.1
  have zX2 := lt_of_blk HE2.out.2.1
  by_cases hn1 : vals0.length ≤ 20
  rotate_left
  · have d1 : decide ((20 : Int) < vals0.length) = true := by simp; omega
    go_wp2_with fail
    refine (awake_b _).mono ?_; rintro e w9 ⟨rfl, hb9⟩
    go_wp2_with fail
    go_ret
    exact ⟨rfl, HB2.out.trans (hb9.mono HB2.out.size)⟩
  have d1 : decide ((20 : Int) < vals0.length) = false := by simp; omega
  go_wp2_with fail
  refine (eshort_any Any1 _ vals0 _ (HRaw.out.below HB2.out) (by omega)).mono ?_
  rintro e w3 ⟨rfl, hb⟩
  have HB3 := Lib.hid (HB2.out.trans (hb.mono HB2.out.size))
  have HE3 := Lib.hid (show w3.heap[w.heap.size]? = some (.cells #[.int .u64 xa, .int .u64 xb] 26 (0, 0)) ∧ w3.heap[w.heap.size + 1]? = some (.cells #[.int .i64 id0, .int .i64 ver0, .slice ra vals0.length rc] 29 (0, 0)) ∧ w3.heap[w.heap.size + 2]? = some (.cells #[.int .i64 cx, .int .i64 cy] 31 (0, 0)) from
    ⟨blk_below hb (lt_of_blk HE2.out.1) HE2.out.1, blk_below hb (lt_of_blk HE2.out.2.1) HE2.out.2.1, blk_below hb (lt_of_blk HE2.out.2.2) HE2.out.2.2⟩)
  clear hb HB2 HE2 x0 x1 x2 zX2
  by_cases hs : (vals0.all fun x => decide (x.length ≤ 200)) = true
  rotate_left
  · rw [Bool.eq_false_iff.2 hs]
    go_wp2_with fail
    refine (awake_b _).mono ?_; rintro e w9 ⟨rfl, hb9⟩
    go_wp2_with fail
    go_ret
    exact ⟨rfl, HB3.out.trans (hb9.mono HB3.out.size)⟩
  rw [hs]
  have HSR := Lib.hid (show ShortR ⟨id0, ver0, vals0⟩ from ⟨hn1, fun x hx => by simpa using List.all_eq_true.1 hs x hx⟩)
  clear hs d1 hn1 hd
  go_wp2_with fail
  refine (new_any a n cap _).mono ?_; rintro e w' ⟨rfl, rfl⟩
  have Hdk := Lib.hid (deck_law (cap := cap) hn HR.out HB3.out)
  have zB3 := HB3.out.size
  have zC3 := lt_of_blk HE3.out.2.2
  obtain ⟨Wd, hWd⟩ : ∃ Wd : World, w3.alloc (.cells #[.slice a n cap, .int .i64 0, .int .u64 11400714819323198485] 95) = Wd := ⟨_, rfl⟩
  have HBd := Lib.hid (show Below w.heap.size w Wd by rw [← hWd]; exact HB3.out.alloc HB3.out.size _)
  have HEd := Lib.hid (show Wd.heap[w.heap.size]? = some (.cells #[.int .u64 xa, .int .u64 xb] 26 (0, 0)) ∧ Wd.heap[w.heap.size + 1]? = some (.cells #[.int .i64 id0, .int .i64 ver0, .slice ra vals0.length rc] 29 (0, 0)) ∧ Wd.heap[w.heap.size + 2]? = some (.cells #[.int .i64 cx, .int .i64 cy] 31 (0, 0)) by
    rw [← hWd]; exact ⟨blk_old HE3.out.1, blk_old HE3.out.2.1, blk_old HE3.out.2.2⟩)
  rw [hWd] at Hdk ⊢
  have zWd : Wd.heap.size = w3.heap.size + 1 := by rw [← hWd]; simp
  obtain ⟨D, hD⟩ : ∃ D, w3.heap.size = D := ⟨_, rfl⟩
  rw [hD] at Hdk zB3 zC3 zWd ⊢
  clear hWd hD HB3 HE3 hn
  go_wp2_with fail
  refine (schema_deal _ _ Hdk.out).mono ?_
  rintro e w4 ⟨vf, vt, vn, vs, s, rfl, hs, hsd, mv⟩
  obtain ⟨af, cf, rfl⟩ := hs.1.slice
  obtain ⟨at', ct, rfl⟩ := hs.2.1.slice
  obtain ⟨an, cn, rfl⟩ := hs.2.2.1.slice
  obtain ⟨as', cs, rfl⟩ := hs.2.2.2.slice
  have zD := mv.deck.lt
  have hlen5 := (check_fields hsd.check).1.2
  have hlen1 := hsd.some
  obtain ⟨N, hN⟩ : ∃ N, s.fields.length = N := ⟨_, rfl⟩
  rw [hN] at hs hlen5 hlen1 ⊢
  obtain ⟨nt, hnt⟩ : ∃ nt, s.rules.titles.length = nt := ⟨_, rfl⟩
  obtain ⟨nk, hnk⟩ : ∃ nk, s.rules.nicks.length = nk := ⟨_, rfl⟩
  obtain ⟨ns, hns⟩ : ∃ ns, s.rules.streets.length = ns := ⟨_, rfl⟩
  rw [hnt, hnk, hns] at hs ⊢
  have M4 := Lib.hid mv; have HS := Lib.hid hs; have HSD := Lib.hid hsd; have HN := Lib.hid hN
  clear mv hs hsd Hdk hN hnt hnk hns
  go_wp2_with fail
  refine wp_calls_world (fun W5 hW5 => ?_)
  have hb5 : Below w4.heap.size w4 W5 := by rw [hW5]; exact (Below.refl w4.heap.size w4).alloc (Nat.le_refl _) _
  have HY5 := Lib.hid (show W5.heap[w4.heap.size]? = some (.cells #[.slice af N cf, .slice at' nt ct, .slice an nk cn, .slice as' ns cs] 43 (0, 0)) by rw [hW5]; exact blk_new rfl)
  have m5 : Moved D Wd W5 := M4.out.below hb5
  have M5 := Lib.hid m5
  have z45 := M4.out.size
  have hoff : ∀ b, b < W5.heap.size → Wd.heap.size ≤ b → b ≠ D := fun b _ h => by omega
  have hS5 := HS.out.below hb5
  have HS5 := Lib.hid (show SchemaAt W5 (Off D) (.slice af N cf) (.slice at' nt ct) (.slice an nk cn) (.slice as' ns cs) s from ⟨hS5.1.off hoff, hS5.2.1.off hoff, hS5.2.2.1.off hoff, hS5.2.2.2.off hoff⟩)
  obtain ⟨Y, hY⟩ : ∃ Y, w4.heap.size = Y := ⟨_, rfl⟩
  rw [hY] at HY5 z45 ⊢
  have hyD : Y ≠ D := by omega
  clear hW5 hb5 m5 hoff hS5 HS hY M4
  obtain ⟨p0, p1, p2, p3⟩ := cellsS HY5.out
  refine (records_deal D (Off D) _ _ _ _ s 7 W5 M5.out.deck HS5.out (fun b h => h) HSD.out (by decide)).mono ?_
  rintro e w6 ⟨rv, R, rfl, hrv, hRok, hR7, -, mv⟩
  obtain ⟨arv, crv, rfl⟩ := hrv.slice
  have zD5 := M5.out.deck.lt
  have HRs6 := Lib.hid (hrv.off (D := D) (fun b _ h => by have h' : W5.heap.size ≤ b := h; omega))
  have HRR := Lib.hid (show ∀ q ∈ R, ShortR q from fun q hq => ShortR.of HSD.out.check ((allN_ok hRok.all).2.2 q hq))
  have M6 := Lib.hid (M5.out.trans mv); have HY6 := Lib.hid (mv.blk hyD HY5.out); have HS6 := Lib.hid (HS5.out.moved (fun b h => h) mv)
  clear mv hrv hRok p0 p1 p2 p3 HY5 HS5
  obtain ⟨p0, p1, p2, p3⟩ := cellsS HY6.out
  go_wp2_with fail
  refine (keys_deal D (Off D) _ _ _ _ s 4 w6 M6.out.deck HS6.out (fun b h => h) HSD.out (by decide)).mono ?_
  rintro e w7 ⟨kv, Ks, rfl, hkv, hK4, hKok, mv⟩
  obtain ⟨ak, ck, rfl⟩ := hkv.slice
  have zD6 := M6.out.deck.lt
  have HKV := Lib.hid (hkv.off (D := D) (fun b _ h => by have h' : w6.heap.size ≤ b := h; omega))
  have HKC := Lib.hid (show ∀ K ∈ Ks, K.length ≤ 20 from fun K hK => by have := (hKok K hK).len2; omega)
  have m7 := M6.out.trans mv
  have K7 := Lib.hid (show BX D w.heap.size Y Wd (xa, xb) ⟨id0, ver0, vals0⟩ ra rc (cx, cy) (Off D) (.slice af N cf) (.slice at' nt ct) (.slice an nk cn) (.slice as' ns cs) s (.slice arv R.length crv) R w7 from
    ⟨m7, m7.blk (by omega) HEd.out.1, m7.blk (by omega) HEd.out.2.1, m7.blk (by omega) HEd.out.2.2, mv.blk hyD HY6.out, HS6.out.moved (fun b h => h) mv, HRs6.out.movedD mv, ((HRaw.out.off (D := D) (fun b h _ => by omega)).below HBd.out).movedD m7, fun b h => h, by omega, hyD⟩)
  have HK07 := Lib.hid (((HK0.out.off (D := D) (fun b h _ => by omega)).below HBd.out).movedD m7)
  clear mv hkv hKok p0 p1 p2 p3 HY6 HS6 HRs6 m7 M6 M5 HEd HK0 HKL HRaw
  obtain ⟨C, hC, hA⟩ := HKV.out
  obtain ⟨C0, hC0, hA0⟩ := HK07.out
  have hCl := hA.1
  have hC0l := hA0.1
  have HO0 := Lib.hid (show OwnM D 51 1 encSV w7 (.slice none 0 0) ([] : List SV) w7 from OwnM.nil (Moved.start K7.out.m.deck))
  have HRd := Lib.hid (Vec.reads (k := 1) (enc := encSV) (fun _ => rfl) hC)
  have hl0 : ([] : List SV).length + C.length ≤ 1000000000 := by rw [hCl]; simp; omega
  have HC := Lib.hid hC; have HA := Lib.hid hA; have HC0 := Lib.hid hC0; have HA0 := Lib.hid hA0
  clear hC hA hC0 hA0
  go_wp2_with (at_builtin; refine wpList_append_m rfl (.const (.slice none 0 0)) (.tmp 77) 23 rfl D 51 (.agg #[.slice none 0 0]) 1 24 encSV (fun _ => rfl) one_encSV Tryz.underlying23 infoBK rfl (by decide) (by decide) (wA := w7) (v := .slice none 0 0) (A := []) (B := C) rfl HO0.out rfl HRd.out hl0 ?_; intro v78 w8 ho8 hk8)
  obtain ⟨a8, c8, e8⟩ := own_slice ho8.1
  obtain ⟨n8, hn8⟩ : ∃ n, (([] : List SV) ++ C).length = n := ⟨_, rfl⟩
  rw [hn8] at e8
  subst e8
  have HN8 := Lib.hid hn8
  have HO8 := Lib.hid ho8
  have hl8 : ∀ k, (Value.slice a8 n8 c8).ownBlock = some k → k < w8.heap.size := fun k e => (World.ownsRow.lt ho8.1 k e).2
  have HL8 := Lib.hid hl8
  clear hn8 ho8 hk8 hl8 hl0 HO0 HRd
  refine (next_any D _ 5 HO8.out.2.deck (by omega) (by omega)).mono ?_
  rintro e w9 ⟨f, rfl, f0, f1, mv9⟩
  have HO9 := Lib.hid (HO8.out.moved mv9)
  have z9 := mv9.size
  clear mv9
  go_wp2_with fail
  refine (next_any D _ 6 HO9.out.2.deck (by omega) (by omega)).mono ?_
  rintro e w10 ⟨g, rfl, g0, g1, mv10⟩
  have HO10 := Lib.hid (HO9.out.moved mv10)
  have z10 := mv10.size
  clear mv10
  have hwg : IntKind.i64.wrap (1 + g) = 1 + g := by rw [IntKind.wrap_i64]; omega
  have HO11 := Lib.hid (HO10.out.below (((Below.refl _ _).alloc (Nat.le_refl _) (.cells #[.int .i64 f, .int .i64 (1 + g)] 31)).alloc (by simp) (.cells #[.slice (some ⟨w10.heap.size, 0, none⟩) 1 1] 51)))
  have HR11 := Lib.hid (show Reads ((w10.alloc (.cells #[.int .i64 f, .int .i64 (1 + g)] 31)).alloc (.cells #[.slice (some ⟨w10.heap.size, 0, none⟩) 1 1] 51)) 1 (.slice (some ⟨w10.heap.size + 1, 0, none⟩) 1 1) 1 (([(⟨some ⟨w10.heap.size, 0, none⟩, 1, 1⟩ : SV)]).flatMap encSV) from reads_block (size := 1) (blk_new (by simp)) rfl)
  have hl11 : (([] : List SV) ++ C).length + ([(⟨some ⟨w10.heap.size, 0, none⟩, 1, 1⟩ : SV)]).length ≤ 1000000000 := by simp; omega
  have hl13 : ([] : List SV).length + C.length ≤ 1000000000 := by rw [hCl]; simp; omega
  have hl14 : (([] : List SV) ++ C).length + C0.length ≤ 1000000000 := by rw [hC0l]; simp; omega
  go_wp2_with (at_builtin; first
    | (refine wpList_append_m rfl (.tmp 78) (.tmp 87) 23 rfl D 51 (.agg #[.slice none 0 0]) 1 24 encSV (fun _ => rfl) one_encSV Tryz.underlying23 infoBK rfl (by decide) (by decide) (wA := w7) (v := .slice a8 n8 c8) (A := [] ++ C) (B := [(⟨some ⟨w10.heap.size, 0, none⟩, 1, 1⟩ : SV)]) rfl HO11.out rfl HR11.out hl11 ?_; intro v88 w12 ho12 hk12; obtain ⟨a12, c12, e12⟩ := own_slice ho12.1; obtain ⟨n12, hn12⟩ : ∃ n, (([] : List SV) ++ C ++ [(⟨some ⟨w10.heap.size, 0, none⟩, 1, 1⟩ : SV)]).length = n := ⟨_, rfl⟩; rw [hn12] at e12; subst e12; clear hn12)
    | (refine wpList_append_m rfl (.const (.slice none 0 0)) (.tmp 92) 23 rfl D 51 (.agg #[.slice none 0 0]) 1 24 encSV (fun _ => rfl) one_encSV Tryz.underlying23 infoBK rfl (by decide) (by decide) (wA := w12) (v := .slice none 0 0) (A := []) (B := C) rfl (OwnM.nil (Moved.start ho12.2.deck)) rfl (Vec.reads (k := 1) (enc := encSV) (fun _ => rfl) (HC.out.movedD ho12.2)) hl13 ?_; intro v93 w13 ho13 hk13; obtain ⟨a13, c13, e13⟩ := own_slice ho13.1; obtain ⟨n13, hn13⟩ : ∃ n, (([] : List SV) ++ C).length = n := ⟨_, rfl⟩; rw [hn13] at e13; subst e13; clear hn13)
    | (refine wpList_append_m rfl (.tmp 93) (.tmp 94) 23 rfl D 51 (.agg #[.slice none 0 0]) 1 24 encSV (fun _ => rfl) one_encSV Tryz.underlying23 infoBK rfl (by decide) (by decide) (wA := w12) (v := .slice a13 n13 c13) (A := [] ++ C) (B := C0) rfl ho13 rfl (Vec.reads (k := 1) (enc := encSV) (fun _ => rfl) ((HC0.out.movedD ho12.2).movedD ho13.2)) hl14 ?_; intro v95 w14 ho14 hk14; obtain ⟨a14, c14, e14⟩ := own_slice ho14.1; obtain ⟨n14, hn14⟩ : ∃ n, (([] : List SV) ++ C ++ C0).length = n := ⟨_, rfl⟩; rw [hn14] at e14; subst e14; clear hn14))
  have HO12 := Lib.hid ho12
  have z8 := HO8.out.2.size; have z7 := K7.out.m.deck.lt
  have gc12 : w12.heap[w10.heap.size]? = some (.cells #[.int .i64 f, .int .i64 (1 + g)] 31 (0, 0)) := hk12 _ _ (fun e => by have := HL8.out _ e.symm; omega) (blk_old (blk_new rfl))
  have HG12 := Lib.hid gc12
  obtain ⟨cb, hcb⟩ : ∃ cb, w10.heap.size = cb := ⟨_, rfl⟩
  rw [hcb] at HG12 HO12
  have hcD : cb ≠ D := by omega
  have zcb : cb < w12.heap.size := lt_of_blk HG12.out
  rw [hcb] at z10
  have M12 := Lib.hid HO12.out.2
  have HO15 := Lib.hid ho14
  clear HO11 HR11 hl11 hl13 hl14 HO10 HO9 HO8 HN8 HL8 ho12 hk12 gc12 hwg ho13 hk13 ho14 hk14
  refine wp_world (fun WL hWL => ?_)
  have mW : Moved D w14 WL := by rw [hWL]; exact (Moved.start HO15.out.2.deck).alloc _
  have hGL : WL.heap[w14.heap.size]? = some (.cells #[.slice ka Ks0.length kc, .slice ak Ks.length ck, .slice a12 n12 c12, .slice a14 n14 c14] 23 (0, 0)) := by rw [hWL]; exact blk_new rfl
  have mL2 : Moved D w12 WL := HO15.out.2.trans mW
  have mL : Moved D w7 WL := M12.out.trans mL2
  have z14 := HO15.out.2.size; have z12 := M12.out.size
  have KL := Lib.hid (K7.out.moved mL)
  have HGL := Lib.hid hGL
  have hA7 : KeysAll WL (Off D) C Ks := HA.out.movedD mL
  have hv12 : Vec WL (Off D) 1 encSV (.slice a12 n12 c12) ([] ++ C ++ [(⟨some ⟨cb, 0, none⟩, 1, 1⟩ : SV)]) := ((OwnM.vec (size := 1) (enc := encSV) (fun _ => rfl) HO12.out).off (D := D) (fun b _ h => by have h' : w7.heap.size ≤ b := h; omega)).movedD mL2
  have hv14 : Vec WL (Off D) 1 encSV (.slice a14 n14 c14) ([] ++ C ++ C0) := ((OwnM.vec (size := 1) (enc := encSV) (fun _ => rfl) HO15.out).off (D := D) (fun b _ h => by have h' : w12.heap.size ≤ b := h; omega)).movedD mW
  have gcL : WL.heap[cb]? = some (.cells (([(f, 1 + g)] : List (Int × Int)).flatMap encC).toArray 31 (0, 0)) := mL2.blk hcD HG12.out
  have hcv : Vec WL (Off D) 2 encC (.slice (some ⟨cb, 0, none⟩) 1 1) [(f, 1 + g)] := blockVec (k := 2) (enc := encC) (fun _ => rfl) gcL hcD 1 rfl
  rw [List.nil_append] at hv12 hv14
  have HQL := Lib.hid (show ∀ k, k < 4 → ∃ (v : Value) (Ks' : List (List (Int × Int))), #[Value.slice ka Ks0.length kc, .slice ak Ks.length ck, .slice a12 n12 c12, .slice a14 n14 c14][k]? = some v ∧ KeysVec WL (Off D) v Ks' ∧ Ks'.length ≤ 60 ∧ ∀ K ∈ Ks', K.length ≤ 20 by
    intro k hk
    rcases (by omega : k = 0 ∨ k = 1 ∨ k = 2 ∨ k = 3) with rfl | rfl | rfl | rfl
    · exact ⟨_, Ks0, rfl, HK07.out.movedD mL, by omega, HK20.out⟩
    · exact ⟨_, Ks, rfl, HKV.out.movedD mL, by omega, HKC.out⟩
    · refine ⟨_, Ks ++ [[(f, 1 + g)]], rfl, ⟨_, hv12, hA7.snoc hcv⟩, by simp; omega, fun K hK => ?_⟩
      rcases List.mem_append.1 hK with h | h
      · exact HKC.out K h
      · simp at h; subst h; simp
    · refine ⟨_, Ks ++ Ks0, rfl, ⟨_, hv14, keysAll_append hA7 ((HA0.out.movedD mL))⟩, by simp; omega, fun K hK => ?_⟩
      rcases List.mem_append.1 hK with h | h
      · exact HKC.out K h
      · exact HK20.out K h)
  have hGD : w14.heap.size ≠ D := by omega
  clear hWL mW hGL mL2 mL hA7 hv12 hv14 hcv gcL HO12 HO15 HG12 HC HA HC0 HA0 HKV HK07
  refine bexLoop w D Y Wd (xa, xb) ⟨id0, ver0, vals0⟩ ra rc (cx, cy) (Off D) af at' an as' N cf nt ct nk cn ns cs s HSD HN arv crv R hlen1 hlen5 HSR hR7 HRR i0 hi1 hi2 WL KL _ _ _ _ _ HGL hGD HQL _ _ _ _ _ _ _ _ _ _ _ _ _ _ _ _ _ _ _ _ _ _ _ _ _ _ _ _ _ _ _ _ _ _ _ _ _ _ _ _ _ _ _ _ _ _ _ _ _ _ _ _ _ _ _ _ _ _ _ _ _ _ _ _ _ _ _ _ _ _ _ _ _ _ _ _ _ _ _ _ _ _ _ _ _ _ _ _ _ _ _ _ _ _ _ _ _ _ _ _ _ _ _ _ _ _ _ _ _ _ _ _ _ _ _ _ _ _ _ _ _ _ _ _ _ _ _ _ _ _ _ _ _ _ _ _ _ _ _ _ _ _ _ _ _ _ _ _ _ _ _ _ _ _ _ _ _ _ _ _ _ _ _ _ _ _ _ _ _ _ _ _ _ _ _ _ _ _ _ _ _ _ _ _ _ _ _ _ _ _ _ _ _ _ _ _ _ _ _ _ _ _ _ _ _ _ _ _ _ _ _ _ _ _ _ _ _ _ _ _ _ _ _ _ _ _ _ _ _ _ _ _ _ _ _ _ _ _ _ _ _ _ _ _ _ _ _ _ _ _ _ ?_
  intro tl0 tl1 tl2 tl3 tl4 tl6 tl7 tl11 tl12 tl16 tl17 tl18 tl19 tl20 tl21 tl22 tl23 tl24 tl25 tl26 tl27 tl28 tl29 tl30 tl31 tl32 tl33 tl34 tl35 tl36 tl37 tl38 tl39 tl40 tl41 tl42 tl43 tl44 tl45 tl46 tl47 tl48 tl49 tl50 tl51 tl52 tl53 tl54 tl55 tl56 tl57 tl58 tl59 tl60 tl61 tl62 tl63 tl64 tl65 tl66 tl67 tl68 tl69 tl70 tl71 tl72 tl73 tl74 tl75 tl76 tl77 tl78 tl79 tl80 tl81 tl82 tl83 tl84 tl85 tl86 tl87 tl88 tl89 tl90 tl91 tl92 tl93 tl94 tl95 tl96 tl97 tl98 tl99 tl100 tl101 tl102 tl103 tl104 tl105 tl106 tl107 tl108 tl109 tl110 tl111 tl112 tl113 tl114 tl115 tl116 tl117 tl118 tl119 tl120 tl121 tl122 tl123 tl124 tl125 tl126 tl127 tl128 tl129 tl130 tl131 tl132 tl133 tl134 tl135 tl136 tl137 tl138 tl139 tl140 tl141 tl142 tl143 tl144 tl145 tl146 tl147 tl148 tl149 tl150 tl151 tl152 tl153 tl154 tl155 tl156 tl157 tl158 tl159 tl160 tl161 tl162 tl163 tl164 tl165 tl166 tl167 tl168 tl169 tl170 tl171 tl172 tl173 tl174 tl175 tl176 tl177 tl178 tl179 tl180 tl181 tl182 tl183 tl184 tl185 tl186 tl187 tl188 tl189 tl190 tl191 tl192 tl193 tl194 tl195 tl196 tl197 tl198 tl199 tl200 tl201 tl202 tl203 tl204 tl205 tl206 tl207 tl208 tl209 tl210 tl211 tl212 tl213 tl214 tl215 tl216 tl217 tl218 tl219 tl220 tl221 tl222 tl223 tl224 tl225 tl226 tl227 tl228 tl229 tl230 tl231 tl232 tl233 tl234 tl235 tl236 tl237 tl238 tl239 tl240 tl241 tl242 tl243 tl244 tl245 tl246 tl247 tl248 tl249 tl250 tl251 tl252 tl253 tl254 tl255 tl256 tl257 wx hR
  have KE := Lib.hid (KL.out.moved hR.out)
  clear hR
  go_step
  exact bexTail w D Y Wd (xa, xb) ⟨id0, ver0, vals0⟩ ra rc (cx, cy) (Off D) af at' an as' N cf nt ct nk cn ns cs s HSD HN arv crv R hlen1 hlen5 HSR hR7 HRR _ KE HBd zB3 _ _ _ _ _ _ _ _ _ _ _ _ _ _ _ _ _ _ _ _ _ _ _ _ _ _ _ _ _ _ _ _ _ _ _ _ _ _ _ _ _ _ _ _ _ _ _ _ _ _ _ _ _ _ _ _ _ _ _ _ _ _ _ _ _ _ _ _ _ _ _ _ _ _ _ _ _ _ _ _ _ _ _ _ _ _ _ _ _ _ _ _ _ _ _ _ _ _ _ _ _ _ _ _ _ _ _ _ _ _ _ _ _ _ _ _ _ _ _ _ _ _ _ _ _ _ _ _ _ _ _ _ _ _ _ _ _ _ _ _ _ _ _ _ _ _ _ _ _ _ _ _ _ _ _ _ _ _ _ _ _ _ _ _ _ _ _ _ _ _ _ _ _ _ _ _ _ _ _ _ _ _ _ _ _ _ _ _ _ _ _ _ _ _ _ _ _ _ _ _ _ _ _ _ _ _ _ _ _ _ _ _ _ _ _ _ _ _ _ _ _ _ _ _ _ _ _ _ _ _ _ _ _ _ _ _ _ _ _ _ _ _ _ _ _ _ _ _ _ _ _ _ _ _
end Go.Proofs.YtaoebplnbcimlaaGreatDoor
end
section
namespace Go.Proofs.YtaoebplnbcimlaaGreatDoor.blockingExact
open Go.ChangeShapes Go.WideShapes Go.ChangeAt Go.RowKit Go.Joins
open Go.ChangeMaps (open_string shut_string)
set_option linter.unusedVariables false

theorem own : ownKnob Tryz.prog.godebug = none := by kernel_rfl
theorem laidOut : laidOutB Tryz.prog = true := by kernel_rfl

set_option maxRecDepth 100000 in
theorem lifted (os : Os) (started : os.Started) (H : Type) (enc : TypeId × Value → H) :
    ReturnsInHanded {} Tryz.checked os 3 .any (fun w args => (Rows.blockingExactSpec.pre enc Tryz.prog Tryz.f3 Rows.blockingExactRow.domain false w args ∧ laidMetH Tryz.prog Rows.blockingExactRow.laid w) ∧ sizedMet enc Tryz.prog Tryz.f3 (OpenSpec.ofChange Rows.blockingExactSpec) false w args) (Rows.blockingExactSpec.post enc Tryz.prog Tryz.f3 false true false false) := by
  refine returnsInHanded_of_change_and (C := Tryz.checked) (X := fun w _ => laidMetH Tryz.prog Rows.blockingExactRow.laid w) (fun _ _ _ hh h => h.of_heap hh) own started (by kernel_rfl) Tryz.func3
    (ChangeSpec.witness_shaped (enc := enc) (C := Tryz.checked) (os := os) (X := fun w _ => laidMetH Tryz.prog Rows.blockingExactRow.laid w) false (World.laidAll Tryz.prog os Rows.blockingExactRow.laid) #[.slice none 0 0, .slice none 0 0, .agg #[.int .u64 0, .int .u64 0], .agg #[.int .i64 0, .int .i64 0, .slice none 0 0], .agg #[.int .i64 0, .int .i64 0], .int .i64 0] 8 (World.laidAll_os _ _ _)
      (World.shaped_of_ZipB (by kernel_rfl) (by kernel_rfl)) (by kernel_rfl) (by kernel_rfl) (by kernel_rfl)
      (by rw [MakeChecks.laidMetH_plain _ _ _ (by kernel_rfl)]; exact laidMet_laidAll _ (by kernel_rfl) (by kernel_rfl))) ?_
  intro W base args ds gs before hval0 hW hcnd _ hLaid _
  have hval : ∀ (j : Nat) t v, Tryz.f3.params[j]? = some t → args[j]? = some v → Value.okWide Tryz.prog W .any base t v := hval0
  have hW' := hW
  obtain ⟨p, q, hA0, hV, rfl, hfz, hnd⟩ := hW
  have hA : DataW.TrodAll enc Tryz.prog W 0 (fun _ => true) true Tryz.f3.params.toList args.toList ds p := hA0
  rw [Tryz.params3] at hA hval
  obtain ⟨v0, vs0, d0, ds0, p0, q0, hargs, rfl, rfl, h0, r0⟩ := trodAll_cons hA
  obtain ⟨v1, vs1, d1, ds1, p1, q1, rfl, rfl, rfl, h1, r1⟩ := trodAll_cons r0
  obtain ⟨v2, vs2, d2, ds2, p2, q2, rfl, rfl, rfl, h2, r2⟩ := trodAll_cons r1
  obtain ⟨v3, vs3, d3, ds3, p3, q3, rfl, rfl, rfl, h3, r3⟩ := trodAll_cons r2
  obtain ⟨v4, vs4, d4, ds4, p4, q4, rfl, rfl, rfl, h4, r4⟩ := trodAll_cons r3
  obtain ⟨v5, vs5, d5, ds5, p5, q5, rfl, rfl, rfl, h5, r5⟩ := trodAll_cons r4
  obtain ⟨rfl, rfl, rfl⟩ := trodAll_nil r5
  obtain rfl : args = #[v0, v1, v2, v3, v4, v5] := by cases args; simp_all
  obtain ⟨rfl, rfl⟩ := trodVars_none hV
  obtain ⟨a0, len0, cap0, rfl⟩ := okWide_slice Tryz.underlying22 (hval 0 22 v0 rfl rfl)
  have k0 := h0
  have lt0 : ∀ x ∈ p0, x.block < W.heap.size := by obtain ⟨m, hm⟩ := k0; exact DataW.trod_lt m _ _ _ hm
  obtain ⟨z0, w0⟩ : ∃ zs, IsRow .i64 W a0 len0 cap0 zs := by
    obtain ⟨fuel, hf⟩ := h0
    rcases open_ints Tryz.underlying22 Tryz.underlying3 (by kernel_rfl) hf with ⟨hcs, _⟩ | ⟨x, l, c, zs, hcs, _, hl, hm, hz, _, hcell, hwz⟩
    · simp [Value.cells] at hcs
      obtain ⟨rfl, rfl, rfl⟩ := hcs
      exact ⟨[], .inl ⟨rfl, rfl, rfl, rfl⟩⟩
    · simp [Value.cells] at hcs
      obtain ⟨rfl, rfl, rfl⟩ := hcs
      exact ⟨zs, .inr ⟨_, rfl, hl, hm, by simpa using hz, hcell, hwz⟩⟩
  have k1 := h1
  have lt1 : ∀ x ∈ p1, x.block < W.heap.size := by obtain ⟨m, hm⟩ := k1; exact DataW.trod_lt m _ _ _ hm
  obtain ⟨Ks1, w1⟩ := open_keys (hval 1 23 v1 rfl rfl) h1
  have k2 := h2
  have lt2 : ∀ x ∈ p2, x.block < W.heap.size := by obtain ⟨m, hm⟩ := k2; exact DataW.trod_lt m _ _ _ hm
  obtain ⟨xa2, xb2, rfl⟩ := open_key2 (hval 2 26 v2 rfl rfl) h2
  have k3 := h3
  have lt3 : ∀ x ∈ p3, x.block < W.heap.size := by obtain ⟨m, hm⟩ := k3; exact DataW.trod_lt m _ _ _ hm
  obtain ⟨id3, ver3, sv3, vals3, rfl, w3⟩ := open_record (hval 3 29 v3 rfl rfl) h3
  have k4 := h4
  have lt4 : ∀ x ∈ p4, x.block < W.heap.size := by obtain ⟨m, hm⟩ := k4; exact DataW.trod_lt m _ _ _ hm
  obtain ⟨xa4, xb4, rfl⟩ := open_comp2 (hval 4 31 v4 rfl rfl) h4
  have k5 := h5
  have lt5 : ∀ x ∈ p5, x.block < W.heap.size := by obtain ⟨m, hm⟩ := k5; exact DataW.trod_lt m _ _ _ hm
  obtain ⟨x5, rfl, hd5, hp5, w5⟩ := open_int Tryz.underlying3 (hval 5 3 v5 rfl rfl) h5
  clear hA0 hval0
  refine (bexact_walk a0 len0 cap0 z0 v1 Ks1 xa2 xb2 id3 ver3 sv3 vals3 xa4 xb4 x5 W w0 w1 w3 w5).mono fun e W' ⟨he, bel⟩ => ?_
  subst he
  exact ⟨_, rfl, _, _, _, [], _, [], hW', trodAll_mk1 (shut_bool Tryz.underlying4 _), (trodAll_cons_mk (Below.trod laidOut (by kernel_rfl) (of_decide_eq_true (by kernel_rfl)) k0 bel lt0) (trodAll_cons_mk (Below.trod laidOut (by kernel_rfl) (of_decide_eq_true (by kernel_rfl)) k1 bel lt1) (trodAll_cons_mk (Below.trod laidOut (by kernel_rfl) (of_decide_eq_true (by kernel_rfl)) k2 bel lt2) (trodAll_cons_mk (Below.trod laidOut (by kernel_rfl) (of_decide_eq_true (by kernel_rfl)) k3 bel lt3) (trodAll_cons_mk (Below.trod laidOut (by kernel_rfl) (of_decide_eq_true (by kernel_rfl)) k4 bel lt4) (trodAll_cons_mk (Below.trod laidOut (by kernel_rfl) (of_decide_eq_true (by kernel_rfl)) k5 bel lt5) trodAll_mk0)))))), rfl, bel.frame _, fun h => by cases h⟩

set_option maxRecDepth 100000 in
set_option maxHeartbeats 100000000 in
theorem over : Rows.blockingExactRow.holds Tryz.pinned (OpenSpec.ofChange Rows.blockingExactSpec) :=
  OpenClaim.holds_of_wide 3 Tryz.f3 rfl rfl rfl rfl rfl rfl rfl ⟨rfl, rfl, rfl, rfl, rfl⟩ rfl rfl rfl rfl rfl (by as_aux_lemma => kernel_rfl) Tryz.func3 closed
    (of_decide_eq_true (by as_aux_lemma => kernel_rfl)) (by unfold Func.isWrapper; first | (rw [if_pos (by decide +kernel)]; kernel_rfl) | (rw [if_neg (by decide +kernel)]; exact ⟨rfl, rfl⟩))
    (fun os started H enc _ => lifted os started H enc)

set_option maxRecDepth 100000 in
set_option maxHeartbeats 100000000 in
/-- THE STATEMENT -/
theorem proved : Rows.BlockingExactCardSaid :=
  Claim7.holds_tied_plain_at .later [] [.data, .data, .data, .data, .pinned] true (true, "d677b7ef3bd00c92d57642c3b97524b335bf488b5e487e8a0b4f0c0e93877dca") true
    over (fun _ h => by cases h) (by as_aux_lemma => kernel_rfl) (fun _ h => by cases h) blockingExact_row_tie rfl ⟨rfl, rfl⟩ (by as_aux_lemma => kernel_rfl) rfl
    (fun f fn hf hfn => by
      obtain rfl : f = 3 := Option.some.inj ((show Tryz.prog.funcNamed Rows.blockingExactRow.func = some 3 by kernel_rfl).symm.trans hf) |>.symm
      obtain rfl : fn = Tryz.f3 := (Option.some.inj (Tryz.func3.symm.trans hfn)).symm
      exact ⟨by kernel_rfl, fun j t ht => by
        rw [Tryz.params3] at ht
        have hm : t ∈ [22, 23, 26, 29, 31, 3] := by simpa using Array.mem_of_getElem? ht
        have hall : ([22, 23, 26, 29, 31, 3].all fun u => !Tryz.prog.wantsStandIn u) = true := by kernel_rfl
        exact (show Tryz.prog.wantsStandIn t = false by simpa using List.all_eq_true.1 hall t hm)⟩)
    (by as_aux_lemma => kernel_rfl)
#print axioms proved
end Go.Proofs.YtaoebplnbcimlaaGreatDoor.blockingExact
end
